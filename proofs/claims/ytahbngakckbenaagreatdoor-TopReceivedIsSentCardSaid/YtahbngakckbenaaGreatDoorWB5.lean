/- Texts of this proof, one after the other; no conditions. -/
import Derived.Test.YtahbngakckbenaaGreatDoorWB4
import Derived.Test.YtahbngakckbenaaGreatDoorWB1
import Derived.Test.YtahbngakckbenaaGreatDoorWB3
import Derived.Test.YtahbngakckbenaaGreatDoorWB2
set_option linter.all false
/- The paths of a flow; greater capacities; arcs turned round. No program in sight. No conditions. -/
namespace Go.Flow
def plFrom:Nat→List Arc→List Lk
  | _,[]=>[]
  | i,a::l=>⟨i,a.f.toNat,a.t.toNat⟩::plFrom (i+1) l
def plinks (l:List Arc):List Lk:=plFrom 0 l
theorem plFrom_get:∀ (l:List Arc) (i j:Nat),(plFrom i l)[j]?=(l[j]?).map (fun a=>(⟨i+j,a.f.toNat,a.t.toNat⟩:Lk))
  | [],i,j=>by simp [plFrom]
  | b::l,i,j=>by
    cases j with
    | zero=>simp [plFrom]
    | succ j =>
      simp only [plFrom,List.getElem?_cons_succ]
      rw [plFrom_get l (i+1) j,show i+1+j=i+(j+1) from by omega]
theorem plinks_get (l:List Arc) (j:Nat):(plinks l)[j]?=(l[j]?).map (fun a=>(⟨j,a.f.toNat,a.t.toNat⟩:Lk)):=by
  unfold plinks; rw [plFrom_get]; simp
theorem plinks_iff {l:List Arc} {x:Lk}:x∈plinks l↔∃ j a,l[j]?=some a∧x=⟨j,a.f.toNat,a.t.toNat⟩:=by
  rw [List.mem_iff_getElem?]
  constructor
  · rintro ⟨j,hj⟩
    rw [plinks_get,Option.map_eq_some_iff] at hj
    obtain ⟨a,ha,rfl⟩:=hj
    exact ⟨j,a,ha,rfl⟩
  · rintro ⟨j,a,ha,rfl⟩
    exact ⟨j,by rw [plinks_get,ha]; rfl⟩
theorem pl_lt {n:Nat} {l:List Arc} (hok:∀ a∈l,okArc n a=true):∀ x∈plinks l,x.f<n∧x.t<n:=fun x hx=>by
  obtain ⟨j,a,ha,rfl⟩:=plinks_iff.1 hx
  have:=okArc_iff.1 (hok a (List.mem_of_getElem? ha))
  dsimp only; omega
def rmP (rest:List Int) (k:Nat):Int:=rest.getD k 0
def subP (room:Int) (rest:List Int) (x:Lk):List Int:=rest.set x.k (rest.getD x.k 0-room)
def subAll (room:Int) (rest:List Int) (p:List Lk):List Int:=p.foldl (subP room) rest
theorem subP_len (room:Int) (rest:List Int) (x:Lk):(subP room rest x).length=rest.length:=by simp [subP]
theorem subAll_len (room:Int):∀ (p:List Lk) (rest:List Int),(subAll room rest p).length=rest.length
  | [],rest=>rfl
  | x::p,rest=>by
    have:=subAll_len room p (subP room rest x)
    rw [subP_len] at this;exact this
theorem subP_ok {n:Nat} {l:List Arc} {fl:List Int} {x:Lk} {room:Int} (hok:∀ a∈l,okArc n a=true) (hl:l.length=fl.length) (hc:inCap l fl=true) (hx:x∈plinks l) (h0:0≤room) (hr:room≤rmP fl x.k) :
    inCap l (subP room fl x)=true∧(∀ v:Nat,fval v l (subP room fl x)=fval v l fl-((if x.f=v then room else 0)-(if x.t=v then room else 0)))∧∀ k,k≠x.k→rmP (subP room fl x) k=rmP fl k:=by
  obtain ⟨j,a,ha,rfl⟩:=plinks_iff.1 hx
  have hjl:j<l.length:=(List.getElem?_eq_some_iff.1 ha).1
  have hfj:fl[j]?=some (fl.getD j 0):=by simp [List.getD_eq_getElem?_getD,show j<fl.length by omega]
  have hin:=inCap_get l fl hc j a _ ha hfj
  obtain ⟨g1,g2,g3,g4,g5,g6,g7⟩:=okArc_iff.1 (hok a (List.mem_of_getElem? ha))
  unfold rmP at hr
  dsimp only at hr
  refine ⟨?_,?_,fun k hk=>?_⟩
  · unfold subP
    exact inCap_set l fl j a _ ha hc (by dsimp only; omega) (by dsimp only; omega)
  · intro v
    unfold subP
    dsimp only
    rw [fval_set v l fl j a _ ha hl]
    have e1:(a.f=(v:Int))↔(a.f.toNat=v):=by omega
    have e2:(a.t=(v:Int))↔(a.t.toNat=v):=by omega
    simp only [e1,e2]
    split <;> split <;> omega
  · unfold rmP subP
    exact getD_set' (Ne.symm hk)
theorem subAll_ok {n:Nat} {l:List Arc} {room:Int} (hok:∀ a∈l,okArc n a=true) (h0:0≤room) {E:Lk→Prop} (hE:∀ x,E x→x∈plinks l) {u w:Nat} {p:List Lk} (hp:Chn E u p w) :
    ∀ (fl:List Int),l.length=fl.length→inCap l fl=true→p.Pairwise (fun x y=>x.k≠y.k)→(∀ x∈p,room≤rmP fl x.k) →
    inCap l (subAll room fl p)=true∧∀ v:Nat,fval v l (subAll room fl p)=fval v l fl-((if u=v then room else 0)-(if w=v then room else 0)):=by
  induction hp with
  | nil=>intro fl _ hc _ _; exact ⟨hc,fun v=>by simp [subAll]⟩
  | @cons x u p w hf hx _ ih =>
    intro fl hl hc hpw hr
    rw [List.pairwise_cons] at hpw
    obtain ⟨s1,s2,s3⟩:=subP_ok hok hl hc (hE x hx) h0 (hr x (by simp))
    obtain ⟨r1,r2⟩:=ih (subP room fl x) (by rw [subP_len]; exact hl) s1 hpw.2 (fun y hy=>by rw [s3 y.k (Ne.symm (hpw.1 y hy))]; exact hr y (by simp [hy]))
    refine ⟨r1,fun v=>?_⟩
    have:=r2 v
    rw [s2 v] at this
    show fval v l (subAll room (subP room fl x) p)=_
    rw [this,hf]
    split <;> split <;> split <;> omega
abbrev pE (l:List Arc) (fl:List Int):Lk→Prop:=opn (plinks l) (rmP fl)
abbrev pP (l:List Arc) (fl:List Int) (D:List Int) (s:Nat):List Lk:=pathD (nxt (plinks l) (rmP fl) D) D s
abbrev pRoom (l:List Arc) (fl:List Int) (D:List Int) (s:Nat):Int:=leastR (rmP fl) (pP l fl D s)
abbrev pNext (l:List Arc) (fl:List Int) (D:List Int) (s:Nat):List Int:=subAll (pRoom l fl D s) fl (pP l fl D s)
section
variable {n s t:Nat} {l:List Arc}
theorem pP_arcs (hok:∀ a∈l,okArc n a=true) (hs:s<n) {fl D:List Int} (hD:IsDist n t (pE l fl) D) (h0:0≤D.getD s 0):(pP l fl D s).Pairwise (fun x y=>x.k≠y.k):=by
  obtain ⟨k,hk⟩:=Int.eq_ofNat_of_zero_le h0
  have hp:=path_sorted (pl_lt hok) hD k s hs hk
  have hc:=(path_chn (pl_lt hok) hD k s hs hk).all
  refine List.Pairwise.imp_of_mem (fun {x y} hx hy hxy e=>?_) hp
  obtain ⟨i,a,ha,rfl⟩:=plinks_iff.1 (hc x hx).1.1
  obtain ⟨j,b,hb,rfl⟩:=plinks_iff.1 (hc y hy).1.1
  dsimp only at e hxy
  subst e;rw [ha] at hb
  obtain rfl:=Option.some.inj hb
  omega
theorem pNext_ok (hok:∀ a∈l,okArc n a=true) (hs:s<n) (hst:s≠t) {fl D:List Int} (hf:Flw n l s t fl) (hD:IsDist n t (pE l fl) D) (h0:0≤D.getD s 0) :
    Flw n l s t (pNext l fl D s)∧0<pRoom l fl D s∧fval s l (pNext l fl D s)=fval s l fl-pRoom l fl D s:=by
  obtain ⟨k,hk⟩:=Int.eq_ofNat_of_zero_le h0
  have hch:=path_chn (pl_lt hok) hD k s hs hk
  have hpos:0<pRoom l fl D s:=leastR_pos _ _ _ (by omega) (fun x hx=>(hch.all x hx).1.2)
  obtain ⟨r1,r2⟩:=subAll_ok hok (Int.le_of_lt hpos) (E:=fun x=>pE l fl x∧D.getD x.t 0=D.getD x.f 0-1∧D.getD x.f 0≤k) (fun x hx=>hx.1.1) hch fl hf.len hf.cap (pP_arcs hok hs hD h0) (fun x hx=>(leastR_le _ _ _).2 x hx)
  refine ⟨⟨by rw [subAll_len]; exact hf.len,r1,fun v hv h1 h2=>?_⟩,hpos,?_⟩
  · rw [r2 v,if_neg (Ne.symm h1),if_neg (Ne.symm h2),hf.bal v hv h1 h2]; rfl
  · rw [r2 s,if_pos rfl,if_neg (Ne.symm hst)]; omega
end
inductive RunP (n:Nat) (l:List Arc) (s t:Nat):List Int→List (List Lk × Int)→List Int→Prop
  | done {fl D:List Int}:IsDist n t (pE l fl) D→D.getD s 0<0→RunP n l s t fl [] fl
  | step {fl D r:List Int} {ps:List (List Lk × Int)}:IsDist n t (pE l fl) D→0≤D.getD s 0→RunP n l s t (pNext l fl D s) ps r→RunP n l s t fl ((pP l fl D s,pRoom l fl D s)::ps) r
theorem RunP.uniq {n s t:Nat} {l:List Arc} (hok:∀ a∈l,okArc n a=true) {fl F G:List Int} {ps qs:List (List Lk × Int)} (h1:RunP n l s t fl ps F) (h2:RunP n l s t fl qs G):ps=qs∧F=G:=by
  have hE:∀ fl x,pE l fl x→x.f<n∧x.t<n:=fun fl x hx=>pl_lt hok x hx.1
  induction h1 generalizing G qs with
  | done hD hn =>
    cases h2 with
    | done=>exact ⟨rfl,rfl⟩
    | step hD2 h0 _=>rw [hD.uniq (hE _) hD2] at hn; omega
  | step hD h0 _ ih =>
    cases h2 with
    | done hD2 hn=>rw [hD.uniq (hE _) hD2] at h0; omega
    | step hD2 _ hr =>
      have e:=hD.uniq (hE _) hD2
      subst e
      obtain ⟨e1,e2⟩:=ih hr
      exact ⟨by rw [e1],e2⟩
section
variable {n s t:Nat} {l:List Arc}
end
/-! ### a greater capacity -/
/-! ### arcs turned round,arcs in the opposite order -/
def turnA (a:Arc):Arc:=⟨a.t,a.f,a.c⟩
theorem fval_turn (v:Int):∀ (l:List Arc) (fl:List Int),fval v (l.map turnA) fl = - fval v l fl
  | [],_=>by simp [fval]
  | _::_,[]=>by simp [fval]
  | a::l,x::fl=>by
    simp only [List.map_cons,fval,fval_turn v l fl,turnA]
    split <;> split <;> omega
theorem inCap_turn:∀ (l:List Arc) (fl:List Int),inCap (l.map turnA) fl=inCap l fl
  | [],_=>by simp [inCap]
  | _::_,[]=>by simp [inCap]
  | a::l,x::fl=>by simp only [List.map_cons,inCap,inCap_turn l fl,turnA]
theorem netB_all:∀ (l:List Arc) (fl:List Int),netB (fun _=>true) l fl=0
  | [],_=>by simp [netB]
  | _::_,[]=>by simp [netB]
  | a::l,x::fl=>by simp only [netB,if_true]; rw [netB_all l fl]; omega
theorem sumTo_two {g:Nat→Int} {j k:Nat} (hjk:j≠k):∀ n,j<n→k<n→(∀ v,v<n→v≠j→v≠k→g v=0)→sumTo g n=g j+g k
  | 0,h,_,_=>by omega
  | n+1,h,h2,e=>by
    simp only [sumTo]
    by_cases e1:k=n
    · rw [sumTo_one (k:=j) n (by omega) (fun v hv hne=>e v (by omega) hne (by omega)),e1]
    · by_cases e2:j=n
      · rw [sumTo_one (k:=k) n (by omega) (fun v hv hne=>e v (by omega) (by omega) hne),e2]; omega
      · rw [sumTo_two hjk n (by omega) (by omega) (fun v hv g1 g2=>e v (by omega) g1 g2),e n (by omega) (by omega) (by omega)]; omega
theorem Flw.ends {n s t:Nat} {l:List Arc} {fl:List Int} (hok:∀ a∈l,okArc n a=true) (hs:s<n) (ht:t<n) (hst:s≠t) (hf:Flw n l s t fl):fval t l fl = - fval s l fl:=by
  have h:=netB_eq (n:=n) (fun _=>true) l fl hok
  rw [netB_all] at h
  rw [sumTo_two hst n hs ht (fun v hv g1 g2=>by simp only [if_true]; exact hf.bal v hv g1 g2)] at h
  simp only [if_true] at h;omega
theorem Flw.turn {n s t:Nat} {l:List Arc} {fl:List Int} (hf:Flw n l s t fl):Flw n (l.map turnA) t s fl:=
  ⟨by simp [hf.len],by rw [inCap_turn]; exact hf.cap,fun v hv g1 g2=>by rw [fval_turn,hf.bal v hv g2 g1]; rfl⟩
/-! ### differences of flows -/
end Go.Flow
namespace Go.Flow
def bget (B:List Bool) (v:Nat):Bool:=B.getD v false
theorem bget_set {B:List Bool} {i j:Nat} {x:Bool} (hi:i<B.length):bget (B.set i x) j=if i=j then x else bget B j:=by
  unfold bget;rw [List.getD_eq_getElem?_getD,List.getD_eq_getElem?_getD,List.getElem?_set]
  split
  · rename_i h; subst h; simp [hi]
  · rfl
structure RInv (n s:Nat) (E:Lk→Prop) (B:List Bool) (q:List Nat):Prop where
  len:B.length=n
  src:bget B s=true
  snd:∀ v,v<n→bget B v=true→Rch E s v
  qn:∀ v∈q,v<n∧bget B v=true
  cl:∀ u,u<n→bget B u=true→u∉q→∀ x,E x→x.f=u→bget B x.t=true
structure RVInv (n s:Nat) (E:Lk→Prop) (B:List Bool) (v:Nat) (q:List Nat) (pre:List Lk):Prop where
  len:B.length=n
  src:bget B s=true
  snd:∀ v,v<n→bget B v=true→Rch E s v
  vn:v<n
  v0:bget B v=true
  qn:∀ v∈q,v<n∧bget B v=true
  cl:∀ u,u<n→bget B u=true→u∉q→u≠v→∀ x,E x→x.f=u→bget B x.t=true
  pre0:∀ x∈pre,bget B x.t=true
section
variable {n s:Nat} {E:Lk→Prop} {B:List Bool}
theorem RInv.take {v:Nat} {q:List Nat} (h:RInv n s E B (v::q)):RVInv n s E B v q []:=
  ⟨h.len,h.src,h.snd,(h.qn v (by simp)).1,(h.qn v (by simp)).2,fun u hu=>h.qn u (by simp [hu]),fun u hu hb hq hne=>h.cl u hu hb (by simp [hq,hne]),by simp⟩
theorem RVInv.push {v:Nat} {q:List Nat} {pre:List Lk} {x:Lk} (h:RVInv n s E B v q pre) (hE:E x) (hxt:x.t<n) (hxf:x.f=v):RVInv n s E (B.set x.t true) v (q ++ [x.t]) (pre ++ [x]):=by
  have hl:x.t<B.length:=by rw [h.len]; exact hxt
  have hg:∀ u,bget B u=true→bget (B.set x.t true) u=true:=fun u hu=>by rw [bget_set hl]; split <;> simp [hu]
  refine ⟨by simp [h.len],hg _ h.src,fun u hu hb=>?_,h.vn,hg _ h.v0,fun u hu=>?_,fun u hu hb hq hne y hy hyf=>?_,fun y hy=>?_⟩
  · rw [bget_set hl] at hb
    split at hb
    · rename_i e; rw [← e]
      exact .step (by rw [hxf]; exact h.snd v h.vn h.v0) hE
    · exact h.snd u hu hb
  · rcases List.mem_append.1 hu with hu|hu
    · exact ⟨(h.qn u hu).1,hg _ (h.qn u hu).2⟩
    · rw [List.mem_singleton.1 hu]
      exact ⟨hxt,by rw [bget_set hl]; simp⟩
  · simp only [List.mem_append,List.mem_singleton,not_or] at hq
    rw [bget_set hl] at hb
    split at hb
    · rename_i e; exact absurd e.symm hq.2
    · exact hg _ (h.cl u hu hb hq.1 hne y hy hyf)
  · rcases List.mem_append.1 hy with hy|hy
    · exact hg _ (h.pre0 y hy)
    · rw [List.mem_singleton.1 hy,bget_set hl]; simp
theorem RVInv.done {v:Nat} {q:List Nat} {pre:List Lk} (h:RVInv n s E B v q pre) (hall:∀ x,E x→x.f=v→x∈pre):RInv n s E B q:=
  ⟨h.len,h.src,h.snd,h.qn,fun u hu hb hq x hx hxf=>by
    by_cases e:u=v
    · subst e; exact h.pre0 x (hall x hx hxf)
    · exact h.cl u hu hb hq e x hx hxf⟩
end
def sideOf (B:List Bool) (k:Nat):List Int:=((List.range k).filter (fun v=>bget B v)).map (fun (v:Nat)=>(v:Int))
theorem capOf_congr {n:Nat} {p q:Nat→Bool} (h:∀ v,v<n→p v=q v):∀ l:List Arc,(∀ a∈l,okArc n a=true)→capOf p l=capOf q l
  | [],_=>rfl
  | a::l,hok=>by
    obtain ⟨g1,g2,g3,g4,_⟩:=okArc_iff.1 (hok a (by simp))
    simp only [capOf]
    rw [capOf_congr h l (fun b hb=>hok b (by simp [hb])),h a.f.toNat (by omega),h a.t.toNat (by omega)]
def maxErr (n:Int) (l:List Arc) (s t:Int):Int:=if chk n l≠0 then chk n l else if okEnds n s t=true then 0 else 2
def MaxOK (n:Int) (l:List Arc) (s t:Int) (F:List Int) (m e:Int):Prop:=
  (maxErr n l s t≠0∧e=maxErr n l s t∧F=[]∧m=0) ∨
  (maxErr n l s t=0∧e=0∧RunR n.toNat l s.toNat t.toNat (List.replicate l.length 0) F∧m=fval s l F)
def CutOK (n:Int) (l:List Arc) (s t:Int) (side:List Int) (c e:Int):Prop:=
  (maxErr n l s t≠0∧e=maxErr n l s t∧side=[]∧c=0) ∨
  (maxErr n l s t=0∧e=0∧∃ F B,RunR n.toNat l s.toNat t.toNat (List.replicate l.length 0) F∧IsReach n.toNat (rE l F) s.toNat (bget B)∧side=sideOf B n.toNat∧c=capOf (bget B) l)
structure Good (n:Int) (l:List Arc) (s t:Int) (n' s' t':Nat):Prop where
  en:n=n'
  es:s=s'
  et:t=t'
  sn:s'<n'
  tn:t'<n'
  ne:s'≠t'
  n2:n'≤2000
  l2:l.length≤20000
  ok:∀ a∈l,okArc n' a=true
  chk:Flow.chk n l=0
  ends:okEnds n s t=true
theorem maxErr_good {n s t:Int} {l:List Arc} (h:maxErr n l s t=0):∃ n' s' t':Nat,Good n l s t n' s' t':=by
  unfold maxErr at h
  split at h
  · rename_i h1; exact absurd h h1
  · rename_i h1
    split at h
    · rename_i h2
      have hc:Flow.chk n l=0:=by omega
      obtain ⟨a1,a2,a3,a4⟩:=chk_ok hc
      obtain ⟨b1,b2,b3,b4,b5⟩:=okEnds_iff.1 h2
      refine ⟨n.toNat,s.toNat,t.toNat,⟨by omega,by omega,by omega,by omega,by omega,by omega,by omega,a3,?_,hc,h2⟩⟩
      have e:((n.toNat:Nat):Int)=n:=by omega
      rw [e]; exact a4
    · simp at h
theorem MaxOK.uniq {n s t:Int} {l:List Arc} {F G:List Int} {m k e f:Int} (h1:MaxOK n l s t F m e) (h2:MaxOK n l s t G k f):F=G∧m=k∧e=f:=by
  rcases h1 with ⟨a1,a2,a3,a4⟩|⟨a1,a2,a3,a4⟩ <;> rcases h2 with ⟨b1,b2,b3,b4⟩|⟨b1,b2,b3,b4⟩
  · exact ⟨by rw [a3,b3],by rw [a4,b4],by rw [a2,b2]⟩
  · exact absurd b1 a1
  · exact absurd a1 b1
  · obtain ⟨n',s',t',g⟩:=maxErr_good a1
    obtain ⟨rfl,rfl,rfl⟩:=And.intro g.en (And.intro g.es g.et)
    simp only [Int.toNat_natCast] at a3 b3
    have e:=a3.uniq g.ok b3
    subst e
    exact ⟨rfl,by rw [a4,b4],by rw [a2,b2]⟩
theorem sideOf_congr {B C:List Bool} {n:Nat} (h:∀ v,v<n→bget B v=bget C v):sideOf B n=sideOf C n:=by
  unfold sideOf
  congr 1
  apply List.filter_congr
  intro v hv
  exact h v (by simpa using hv)
theorem reach_uniq {n s:Nat} {E:Lk→Prop} {p q:Nat→Bool} (h1:IsReach n E s p) (h2:IsReach n E s q):∀ v,v<n→p v=q v:=fun v hv=>by
  have a:=h1 v hv
  have b:=h2 v hv
  cases e1:p v <;> cases e2:q v <;> simp_all
theorem CutOK.uniq {n s t:Int} {l:List Arc} {F G:List Int} {m k e f:Int} (h1:CutOK n l s t F m e) (h2:CutOK n l s t G k f):F=G∧m=k∧e=f:=by
  rcases h1 with ⟨a1,a2,a3,a4⟩|⟨a1,a2,F1,B1,r1,i1,d1,c1⟩ <;> rcases h2 with ⟨b1,b2,b3,b4⟩|⟨b1,b2,F2,B2,r2,i2,d2,c2⟩
  · exact ⟨by rw [a3,b3],by rw [a4,b4],by rw [a2,b2]⟩
  · exact absurd b1 a1
  · exact absurd a1 b1
  · obtain ⟨n',s',t',g⟩:=maxErr_good a1
    obtain ⟨rfl,rfl,rfl⟩:=And.intro g.en (And.intro g.es g.et)
    simp only [Int.toNat_natCast] at *
    have e:=r1.uniq g.ok r2
    subst e
    have hb:=reach_uniq i1 i2
    exact ⟨by rw [d1,d2]; exact sideOf_congr hb,by rw [c1,c2]; exact capOf_congr hb l g.ok,by rw [a2,b2]⟩
end Go.Flow
namespace Go.Flow
end Go.Flow
namespace Go.Flow
structure LInv (n t:Nat) (E:Lk→Prop) (D:List Int) (d:Nat) (pre:List Lk):Prop where
  len:D.length=n
  low:∀ v,v<n → -1≤D.getD v 0
  hi:∀ v,v<n→D.getD v 0≤(d:Int)+1
  at0:D.getD t 0=0
  zero:∀ v,v<n→D.getD v 0=0→v=t
  step:∀ v,v<n→0<D.getD v 0→∃ x,E x∧x.f=v∧D.getD x.t 0=D.getD v 0-1
  old:∀ x,E x→0≤D.getD x.t 0→D.getD x.t 0<(d:Int)→0≤D.getD x.f 0∧D.getD x.f 0≤D.getD x.t 0+1
  pre0:∀ x∈pre,E x→D.getD x.t 0=(d:Int)→0≤D.getD x.f 0
section
variable {n t:Nat} {E:Lk→Prop} {D:List Int} {d:Nat}
theorem LInv.skip {pre:List Lk} {x:Lk} (h:LInv n t E D d pre) (hx:E x→D.getD x.t 0=(d:Int)→0≤D.getD x.f 0):LInv n t E D d (pre ++ [x]):=
  ⟨h.len,h.low,h.hi,h.at0,h.zero,h.step,h.old,fun y hy=>by
    rcases List.mem_append.1 hy with hy|hy
    · exact h.pre0 y hy
    · rw [List.mem_singleton.1 hy]; exact hx⟩
theorem LInv.mark {pre:List Lk} {x:Lk} (h:LInv n t E D d pre) (hE:E x) (hxf:x.f<n) (hd:D.getD x.t 0=(d:Int)) (hneg:D.getD x.f 0 = -1):LInv n t E (D.set x.f ((d:Int)+1)) d (pre ++ [x]):=by
  have hl:x.f<D.length:=by rw [h.len]; exact hxf
  have hg:∀ v,(D.set x.f ((d:Int)+1)).getD v 0=if x.f=v then (d:Int)+1 else D.getD v 0:=fun v=>getD_set hl
  have hne:x.f≠x.t:=fun e=>by rw [e] at hneg; omega
  have htf:x.f≠t:=fun e=>by rw [e,h.at0] at hneg; omega
  refine ⟨by simp [h.len],fun v hv=>?_,fun v hv=>?_,?_,fun v hv h0=>?_,fun v hv h0=>?_,fun y hy h1 h2=>?_,fun y hy hyE h1=>?_⟩
  · rw [hg]; have:=h.low v hv; split <;> omega
  · rw [hg]; have:=h.hi v hv; split <;> omega
  · rw [hg,if_neg htf]; exact h.at0
  · rw [hg] at h0
    split at h0
    · omega
    · exact h.zero v hv h0
  · rw [hg] at h0 ⊢
    split at h0
    · rename_i e
      refine ⟨x,hE,e,?_⟩;rw [if_pos e,hg,if_neg hne,hd]; omega
    · rename_i e
      obtain ⟨y,hy,hyf,hyt⟩:=h.step v hv h0
      refine ⟨y,hy,hyf,?_⟩;rw [if_neg e,hg]
      split
      · rename_i e2; rw [← e2,hneg] at hyt; omega
      · exact hyt
  · rw [hg] at h1 h2 ⊢
    split at h1
    · rename_i e; rw [if_pos e] at h2; omega
    · rename_i e
      rw [if_neg e] at h2
      have:=h.old y hy h1 h2
      rw [hg y.t,if_neg e]
      split
      · rename_i e2; rw [← e2,hneg] at this; omega
      · exact this
  · rw [hg] at h1 ⊢
    split
    · omega
    · rename_i e
      split at h1
      · omega
      · rcases List.mem_append.1 hy with hy|hy
        · exact h.pre0 y hy hyE h1
        · rw [List.mem_singleton.1 hy] at e; exact absurd rfl e
theorem LInv.next {ls:List Lk} {pre:List Lk} (hsub:∀ x,E x→x∈ls) (hE:∀ x,E x→x.f<n∧x.t<n) (hp:∀ x∈ls,x∈pre) (h:LInv n t E D d pre):LInv n t E D (d+1) []:=
  ⟨h.len,h.low,fun v hv=>by have:=h.hi v hv; omega,h.at0,h.zero,h.step,fun x hx h1 h2=>by
    by_cases e:D.getD x.t 0=(d:Int)
    · have:=h.pre0 x (hp x (hsub x hx)) hx e
      have:=h.hi x.f (hE x hx).1
      omega
    · exact h.old x hx h1 (by omega),by simp⟩
end
inductive RchN (E:Lk→Prop) (s:Nat):Nat→Nat→Prop
  | refl {k:Nat}:RchN E s k s
  | step {k:Nat} {x:Lk}:RchN E s k x.f→E x→RchN E s (k+1) x.t
theorem RchN.mono {E:Lk→Prop} {s k m v:Nat} (h:RchN E s k v) (hk:k≤m):RchN E s m v:=by
  induction h generalizing m with
  | refl=>exact .refl
  | step _ hx ih =>
    obtain ⟨m',rfl⟩:∃ m',m=m'+1:=⟨m-1,by omega⟩
    exact .step (ih (by omega)) hx
structure KInv (n s:Nat) (E:Lk→Prop) (B:List Bool) (r:Nat) (pre:List Lk):Prop where
  len:B.length=n
  snd:∀ v,v<n→bget B v=true→Rch E s v
  cmp:∀ v,v<n→RchN E s r v→bget B v=true
  pre0:∀ x∈pre,E x→RchN E s r x.f→bget B x.t=true
section
variable {n s:Nat} {E:Lk→Prop} {B:List Bool} {r:Nat}
theorem KInv.skip {pre:List Lk} {x:Lk} (h:KInv n s E B r pre) (hx:E x→bget B x.f=false) (hE:∀ x,E x→x.f<n∧x.t<n):KInv n s E B r (pre ++ [x]):=
  ⟨h.len,h.snd,h.cmp,fun y hy hyE hr=>by
    rcases List.mem_append.1 hy with hy|hy
    · exact h.pre0 y hy hyE hr
    · rw [List.mem_singleton.1 hy] at hyE hr ⊢
      have:=h.cmp x.f (hE x hyE).1 hr
      rw [hx hyE] at this; simp at this⟩
theorem KInv.mark {pre:List Lk} {x:Lk} (h:KInv n s E B r pre) (hx:E x) (hxt:x.t<n) (hxf:x.f<n) (hb:bget B x.f=true):KInv n s E (B.set x.t true) r (pre ++ [x]):=by
  have hl:x.t<B.length:=by rw [h.len]; exact hxt
  have hg:∀ u,bget B u=true→bget (B.set x.t true) u=true:=fun u hu=>by rw [bget_set hl]; split <;> simp [hu]
  refine ⟨by simp [h.len],fun v hv hv2=>?_,fun v hv hr=>hg v (h.cmp v hv hr),fun y hy hyE hr=>?_⟩
  · rw [bget_set hl] at hv2
    split at hv2
    · rename_i e; rw [← e]; exact .step (h.snd x.f hxf hb) hx
    · exact h.snd v hv hv2
  · rcases List.mem_append.1 hy with hy|hy
    · exact hg _ (h.pre0 y hy hyE hr)
    · rw [List.mem_singleton.1 hy,bget_set hl]; simp
theorem KInv.next {ls pre:List Lk} (hsub:∀ x,E x→x∈ls) (hp:∀ x∈ls,x∈pre) (hs:s<n) (h:KInv n s E B r pre):KInv n s E B (r+1) []:=
  ⟨h.len,h.snd,fun v hv hr=>by
    cases hr with
    | refl=>exact h.cmp s hs .refl
    | @step _ x hr hx=>exact h.pre0 x (hp x (hsub x hx)) hx hr,by simp⟩
end
end Go.Flow
namespace Go.Flow
/-! ### the laws -/
section
variable {n s t:Int} {l:List Arc}
theorem value_flw {F:List Int} {v:Int} (h:valueSpec n l F s t=(v,0)):∃ n' s' t':Nat,Good n l s t n' s' t'∧Flw n' l s' t' F∧v=fval s l F:=by
  unfold valueSpec at h
  split at h
  · rename_i h1; simp only [Prod.mk.injEq] at h; exact absurd h.2 h1
  · rename_i h1
    split at h
    · simp at h
    · rename_i h2
      split at h
      · simp at h
      · rename_i h3
        split at h
        · simp at h
        · rename_i h4
          split at h
          · simp at h
          · rename_i h5
            simp only [Prod.mk.injEq,and_true] at h
            have hm:maxErr n l s t=0:=by
              unfold maxErr
              rw [if_neg h1,if_pos (by simpa using h2)]
            obtain ⟨n',s',t',g⟩:=maxErr_good hm
            obtain ⟨rfl,rfl,rfl⟩:=And.intro g.en (And.intro g.es g.et)
            refine ⟨n',s',t',g,⟨by omega,by simpa using h4,fun v hv g1 g2=>?_⟩,h.symm⟩
            simp only [Bool.not_eq_false] at h5;unfold balanced at h5;rw [List.all_eq_true] at h5
            have:=h5 v (by simpa using hv)
            rw [decide_eq_true_eq] at this
            rcases this with h|h|h
            · exact absurd (by omega) g1
            · exact absurd (by omega) g2
            · exact h
end
end Go.Flow
namespace Go.Flow
end Go.Flow
namespace Go.Flow
def PathsOK (n:Int) (l:List Arc) (fl:List Int) (s t:Int) (ps:List (List Lk × Int)) (e:Int):Prop:=
  ((valueSpec n l fl s t).2≠0∧e=(valueSpec n l fl s t).2∧ps=[]) ∨
  ((valueSpec n l fl s t).2=0∧e=0∧∃ r,RunP n.toNat l s.toNat t.toNat fl ps r)
theorem value_good {n s t:Int} {l:List Arc} {fl:List Int} (h:(valueSpec n l fl s t).2=0):∃ n' s' t':Nat,Good n l s t n' s' t'∧Flw n' l s' t' fl∧(valueSpec n l fl s t).1=fval s l fl:=by
  obtain ⟨n',s',t',g,hF,hv⟩:=value_flw (F:=fl) (v:=(valueSpec n l fl s t).1) (by rw [← h])
  exact ⟨n',s',t',g,hF,hv⟩
theorem PathsOK.uniq {n s t e f:Int} {l:List Arc} {fl:List Int} {ps qs:List (List Lk × Int)} (h1:PathsOK n l fl s t ps e) (h2:PathsOK n l fl s t qs f):ps=qs∧e=f:=by
  rcases h1 with ⟨a1,a2,a3⟩|⟨a1,a2,r1,a3⟩ <;> rcases h2 with ⟨b1,b2,b3⟩|⟨b1,b2,r2,b3⟩
  · exact ⟨by rw [a3,b3],by rw [a2,b2]⟩
  · exact absurd b1 a1
  · exact absurd a1 b1
  · obtain ⟨n',s',t',g,_,_⟩:=value_good a1
    obtain ⟨rfl,rfl,rfl⟩:=And.intro g.en (And.intro g.es g.et)
    simp only [Int.toNat_natCast] at a3 b3
    exact ⟨(a3.uniq g.ok b3).1,by rw [a2,b2]⟩
theorem RunP.cons {n s t:Nat} {l:List Arc} {fl r:List Int} {p:List Lk × Int} {ps:List (List Lk × Int)} (h:RunP n l s t fl (p::ps) r) :
    ∃ D,IsDist n t (pE l fl) D∧0≤D.getD s 0∧p.1=pP l fl D s∧p.2=pRoom l fl D s∧RunP n l s t (pNext l fl D s) ps r:=by
  cases h with
  | step hD h0 hr=>exact ⟨_,hD,h0,rfl,rfl,hr⟩
theorem RunP.nil {n s t:Nat} {l:List Arc} {fl r:List Int} (h:RunP n l s t fl [] r):r=fl∧∃ D,IsDist n t (pE l fl) D∧D.getD s 0<0:=by
  cases h with
  | done hD hn=>exact ⟨rfl,_,hD,hn⟩
end Go.Flow
namespace Go.Flow
/-! ### each path uses up an arc -/
end Go.Flow
namespace Go.Flow
end Go.Flow
namespace Go.Flow
theorem RunP.pos {n s t:Nat} {l:List Arc} (hok:∀ a∈l,okArc n a=true) (hs:s<n) (hst:s≠t) {fl r:List Int} {ps:List (List Lk × Int)} (h:RunP n l s t fl ps r):Flw n l s t fl→∀ p∈ps,0<p.2:=by
  induction h with
  | done=>intro _ p hp; simp at hp
  | step hD h0 _ ih =>
    intro hf p hp
    have:=pNext_ok hok hs hst hf hD h0
    simp only [List.mem_cons] at hp
    rcases hp with rfl|hp
    · exact this.2.1
    · exact ih this.1 p hp
section
variable {n s t:Nat} {l:List Arc}
end
end Go.Flow
namespace Go.Eng
variable {C : Cx} {D : List Deferred} {R H T : List PH} {L : Env} {K : List It}
def IterW (P : Program) (gv : Value) (R1 HI : List PH) (xs : List (List Value)) : Prop :=
  ∀ (y : Value) (S : Type) (Own : S → List PH) (Inv : Nat → S → Prop) (Stop : S → Prop) (Ry : List PH),
    (∀ i σ vs, xs[i]? = some vs → Inv i σ → Spec P y vs Ry (Own σ) (fun v H' => ∃ σ', H' = Own σ' ∧ ((v = .bool true ∧ Inv (i + 1) σ') ∨ (v = .bool false ∧ Stop σ')))) →
    (∃ l, y = yv l) → ∀ σ, Inv 0 σ → Spec P gv [y] (R1 ++ Ry) (Own σ ++ HI) (fun _ H' => ∃ σ', H' = Own σ' ∧ (Inv xs.length σ' ∨ Stop σ'))
theorem FX {P : Program} {Q : Exit → Act → World → Prop} {N : Bs} {M : Nat} {g : Operand} {gf : FuncId} {cap : List Value} {ps : List Nat} {assign body : Code} {X : Type} {R1 HI Hr : List PH} {xs : List (List Value)} {fn : Func} {gc : Code}
    (hg : evalE L g = some (.func (.func gf) #[] cap.toArray)) (hgf : P.funcs[gf]? = some fn) (hgb : fn.body = some gc) (hname : (fn.name == "runtime.NumGoroutine") = false)
    (hit : IterW P (.func (.func gf) #[] cap.toArray) R1 HI xs) (hR1 : ∀ ρ ∈ R1, ρ ∈ R)
    (I : Nat → X → Prop) (Hx : X → List PH) (J : Code → X → Prop) (x0 : X) (hx0 : Hx x0 = T) (hT : Takes H (T ++ HI) Hr) (h0 : I 0 x0)
    (hround : ∀ l (r : Loop) i x vs, xs[i]? = some vs → I i x → r.params = ps.toArray → r.assign = assign → r.body = body → r.state = .ready → r.pending = none → Frm M L ⟨r.tmps, []⟩ →
      Spec P (yv l) vs R (sng l (.loop r) :: Hx x) (fun v H' => ∃ x', (v = .bool true ∧ I (i + 1) x' ∧ H' = sng l (.loop r) :: Hx x') ∨ (v = .bool false ∧ ∃ c, J c x' ∧ H' = sng l (.loop { r with state := .done, pending := some c }) :: Hx x')))
    (hdone : ∀ b x, I xs.length x → JK ⟨none, P, Q, N, M⟩ (mk b :: D) R (sng b defO :: (Hx x ++ Hr)) L K)
    (hjump : ∀ b c x, J c x → JK ⟨none, P, Q, N, M⟩ (mk b :: D) R (sng b defO :: (Hx x ++ Hr)) L (.code c :: K)) :
    JK ⟨none, P, Q, N, M⟩ D R H L (.code (.rangeFunc g ps.toArray assign body) :: K) := by
  subst hx0
  refine ⟨fun a w hf hd hs => wpIn_rangeFunc (fun fnn _ => ?_)⟩
  let r : Loop := { state := .ready, pending := none, fn := fnn, tmps := a.tmps, params := ps.toArray, assign, body, defers := w.heap.size }
  let w1 : World := (w.alloc defO).alloc (.loop r)
  have hs2 := hT.sat hs
  have hs3 := (hs2.alloc defO).alloc (.loop r)
  have hl : (w.alloc defO).heap.size = w.heap.size + 1 := by simp
  rw [hl] at hs3
  refine ⟨w.heap.size + 1, [mk w.heap.size], w1, ⟨.fn (.func gf) cap.toArray, #[yv (w.heap.size + 1)]⟩, w1, gf, ([yv (w.heap.size + 1)] ++ cap).toArray, w1, ?_, ?_, fun _ _ => trivial, ?_, fun h => by simp [Fence.wide] at h, ?_⟩
  · simp [Instr.enterLoop, w1, r]
  · have hgv' : a.eval g = .func (.func gf) #[] cap.toArray := hf.on g _ hg
    have hc : a.eval (.const (yv (w.heap.size + 1))) = yv (w.heap.size + 1) := rfl
    simp [resolve, Deferred.ofValue, hgv', hc]
  · have hname' : ¬ fn.name = "runtime.NumGoroutine" := by simpa using hname
    simp [invoke, callFunc, program, Sem.run, bind, Sem.bind, pure, hgf, hgb, hname']
  · let Own : X × Option Code → List PH := fun σ => match σ.2 with
      | none => sng (w.heap.size + 1) (.loop r) :: Hx σ.1
      | some c => sng (w.heap.size + 1) (.loop { r with state := .done, pending := some c }) :: Hx σ.1
    have hspec := hit (yv (w.heap.size + 1)) (X × Option Code) Own (fun i σ => σ.2 = none ∧ I i σ.1) (fun σ => ∃ c, σ.2 = some c ∧ J c σ.1) R
      (fun i σ vs hvs ⟨h1, h2⟩ => by
        obtain ⟨x, o⟩ := σ
        simp only at h1 h2;subst h1;refine (hround (w.heap.size + 1) r i x vs hvs h2 rfl rfl rfl rfl rfl ⟨hf.size, hf.get⟩).mono ?_;rintro v H' ⟨x', ⟨e1, e2, e3⟩ | ⟨e1, c, e2, e3⟩⟩
        · exact ⟨(x', none), e3, .inl ⟨e1, rfl, e2⟩⟩
        · exact ⟨(x', some c), e3, .inr ⟨e1, c, rfl, e2⟩⟩)
      ⟨_, rfl⟩ (x0, none) ⟨rfl, h0⟩
    have hs4 : Sat N R ((Own (x0, none) ++ HI) ++ (sng w.heap.size defO :: Hr)) w1 := hs3.perm (by
      simp only [Own, List.cons_append]
      exact (List.perm_middle.symm).cons _)
    have hs5 : Sat N (R1 ++ R) (Own (x0, none) ++ HI) w1 := (hs4.rsub (R' := R1 ++ R) (fun ρ hρ => by
      rcases List.mem_append.1 hρ with h | h
      · exact hR1 ρ h
      · exact h)).left
    have hc := hspec N w1 hs5
    unfold CallsV at hc
    have hname' : ¬ fn.name = "runtime.NumGoroutine" := by simpa using hname
    have hrun : ((do let d ← Deferred.ofValue (.func (.func gf) #[] cap.toArray) [yv (w.heap.size + 1)].toArray; invoke d.target d.args : Sem Next).run P w1) = .ok (.enter gf ([yv (w.heap.size + 1)] ++ cap).toArray) w1 := by
      simp [Deferred.ofValue, invoke, callFunc, program, Sem.run, bind, Sem.bind, pure, hgf, hgb, hname']
    rw [hrun] at hc;simp only at hc
    refine CallsIn.mono (show CallsIn (wideR none) 0 P gf _ w1 _ from hc) ?_
    rintro e w3 ⟨v, rfl, H', ⟨⟨x, o⟩, rfl, hfin⟩, hu⟩
    have hs6 := hs4.upd hu
    have hfin' : ∃ r', r'.state ≠ .busy ∧ Own (x, o) = sng (w.heap.size + 1) (.loop r') :: Hx x ∧ ((r'.pending = none ∧ I xs.length x) ∨ ∃ c, r'.pending = some c ∧ J c x) := by
      rcases hfin with ⟨h1, h2⟩ | ⟨c, h1, h2⟩
      · simp only at h1 h2; subst h1; exact ⟨r, by simp [r], rfl, .inl ⟨rfl, h2⟩⟩
      · simp only at h1 h2; subst h1; exact ⟨{ r with state := .done, pending := some c }, by simp, rfl, .inr ⟨c, rfl, h2⟩⟩
    obtain ⟨r', hb, ho, hfin'⟩ := hfin'
    rw [ho] at hs6;simp only [List.cons_append] at hs6
    have hown := hs6.own Take.here
    have hend : (Instr.endLoop (w.heap.size + 1)).run P w3 = .ok r'.pending { w3 with heap := w3.heap.setIfInBounds (w.heap.size + 1) (.loop { r' with state := .exhausted }) } := by
      simp [Instr.endLoop, run_getLoop hown, run_setLoop hown, hb]
    refine ⟨r'.pending, _, hend, ?_⟩
    have hs7 : Sat N R (sng w.heap.size defO :: (Hx x ++ Hr)) { w3 with heap := w3.heap.setIfInBounds (w.heap.size + 1) (.loop { r' with state := .exhausted }) } :=
      ((hs6.turnAny (o' := .loop { r' with state := .exhausted }) Take.here).tail).perm List.perm_middle
    have hfr : Frm M L { a with defers := [mk w.heap.size] ++ a.defers } := ⟨hf.size, hf.get⟩
    have hdf : ({ a with defers := [mk w.heap.size] ++ a.defers } : Act).defers = mk w.heap.size :: D := by simp [hd]
    rcases hfin' with ⟨hp, hI⟩ | ⟨c, hp, hJ⟩
    · rw [hp] at hs7 ⊢
      exact (hdone w.heap.size x hI).run _ _ hfr hdf hs7
    · rw [hp] at hs7 ⊢
      exact (hjump w.heap.size c x hJ).run _ _ hfr hdf hs7

end Go.Eng
namespace Go.Flow
end Go.Flow
namespace Go.Eng
variable {L:Env} {R H:List PH}
theorem resSEE {fn:Func} {N:Bs} {M:Nat} {P:Program} {t u u' b1:Nat} {T:TypeId} {v1:List Value} {v2 v3:Value} (hr:fn.results = #[.cell t T,.tmp u,.tmp u']) (ht:look L t=some (.pointer (some ⟨b1,0,none⟩))) (hu:look L u=some v2) (hu':look L u'=some v3) (a1:aggP P T=some true)
    (n1:szP P T=some v1.length) (c1:Cells N R H b1 0 v1):∀ a w,Frm M L a→Sat N R H w→(results fn a.tmps).run P w=.ok (.tuple #[.agg v1.toArray,v2,v3]) w:=by
  intro a w hf hs
  have e1:a.tmps[t]?.getD undef=.pointer (some ⟨b1,0,none⟩):=by simpa using hf.get t _ ht
  have e2:a.tmps[u]?.getD undef=v2:=by simpa using hf.get u _ hu
  have e3:a.tmps[u']?.getD undef=v3:=by simpa using hf.get u' _ hu'
  have l1:=run_loadCells_list (P:=P) (w:=w) ⟨b1,0,none⟩ v1 (fun j v hv=>by rw [Addr.add_lit]; exact c1 w hs j v hv)
  simp [results,hr,e1,e2,e3,loadVar,run_isAgg a1,run_sizeOf n1,l1,asAddr]
end Go.Eng
namespace Go.Step
theorem chkCt_rg {c:Ct} (h:chkCt c=0):(1≤c.r∧c.r≤1000)∧(1≤c.g∧c.g≤1048576)∧c.e≤1099511627776-2*c.g:=by
  unfold chkCt at h
  split at h
  · omega
  · rename_i hk
    have hk:=Decidable.not_not.1 hk
    obtain ⟨_,_,h1,h2,_⟩:=hk
    split at h
    · omega
    · split at h
      · omega
      · exact ⟨h1,h2,by omega⟩
theorem chkCt_gg {c:Ct} (h:chkCt c=0):0≤c.g∧c.g≤1048576:=by
  have:=chkCt_rg h
  omega
def stE (c:Ct) (d:List UInt8) (t0 e:Int):Int:=
  if chkCt c≠0 then 1 else if d=[] then 20 else if ¬ (c.s≤t0∧t0≤e∧e≤c.e) then 2 else if e<endG c.r t0 (bat 1 (pcsAll (missI d.length []))) then 16 else 0
theorem missI_ne {n:Int} {K:Iv} (h:InI n K) (hn:0<n) (hw:K≠[(0,n)]):missI n K≠[]:=fun e=>hw (missI_none h hn e)
theorem bat_last {sr:Int} {P:Iv} (hP:P≠[]):∃ x,(bat sr P)[(bat sr P).length-1]?=some x∧x.sr=sr:=by
  have hl:0<P.length:=List.length_pos_iff.2 hP
  refine ⟨⟨(P[P.length-1]'(by omega)).1.toNat,(P[P.length-1]'(by omega)).2.toNat,sr⟩,?_,rfl⟩
  rw [bat_len,bat_get,List.getElem?_eq_getElem (by omega)]
  simp; omega
end Go.Step
namespace Go.Proofs.YtahbngakckbenaaGreatDoor
open Go.Eng Go.Step
set_option maxRecDepth 100000
set_option maxHeartbeats 64000000
theorem sndEq_spec (ρ τ:PH) (v w:Value) (l m:List (Int × Int)) (hv:SpAt ρ v l) (hw:SpAt τ w m) (hl:l.length≤9223372036854775807) :
  Ans Tryz.prog (fv 10) [v,w] [ρ,τ] (fun r=>r=.bool (decide (l=m))):=by
 obtain ⟨q,c,rfl,hr⟩:=hv.val encS_len
 obtain ⟨q',c',rfl,hr'⟩:=hw.val encS_len
 refine spec_in (cap:=[]) Tryz.func10 rfl rfl Tryz.ntmps10 rfl envZ (fun N β=>?_)
 by_cases hlen:l.length=m.length
 rotate_left
 ·refine AD ?_
  refine AA ?_;refine Aa7 ?_;refine BF ?_;refine Ac0 ?_;refine DB ?_;refine Aal ?_;refine Aan ?_
  exact AK (res1 rfl rfl) rsubZ selZ ⟨rfl,by rw [decide_eq_false (fun h=>hlen (by rw [h]))]⟩
 refine Ab0 ?_;refine BF ?_;refine Ac0 ?_;refine Abh ?_;refine Aah ?_;refine Abw ?_
 refine BX [0,1,12] (0:Nat) (fun k=>k≤l.length∧l.take k=m.take k) (fun k=>[(13,int k)]) (fun _=>[]) (fun k=>l.length-k) pickZ ⟨by omega,by simp⟩ covZ selZ ?_
 rintro k ⟨hk,hI⟩
 by_cases hlt:k<l.length
 ·have hx:=List.getElem?_eq_getElem hlt
  have hx':=List.getElem?_eq_getElem (show k<m.length by omega)
  obtain ⟨b1,o1,rfl,hRd1,_⟩:=spRow hr hx
  obtain ⟨b2,o2,rfl,hRd2,_⟩:=spRow hr' hx'
  refine Abs ?_;refine Abn ?_;refine AD ?_
  refine BD P3Z [] rfl (by kernel_rfl) Sel.nil ?_
  refine Acc ?_;refine CR ?_;refine B8 ?_;refine Acc ?_;refine CR ?_;refine B8 ?_
  focus ((refine' CF rfl _ rfl rfl rfl rfl _; rotate_left; (apply q_neS [l[k].1,l[k].2] [m[k].1,m[k].2] (n:=2); exact rfl; exact rfl; kernel_rfl; kernel_rfl; kernel_rfl; exact rfl; exact rfl)))
  refine A7 ?_
  by_cases he:l[k]=m[k]
  ·rw [he]
   rw [show (!decide ([m[k].1,m[k].2]=[m[k].1,m[k].2]))=false by simp]
   skip
   refine Aaf ?_;refine Abc ?_
   refine BH (k+1) ⟨by omega,?_⟩ (by omega) covZ selZ
   rw [List.take_succ_eq_append_getElem hlt,List.take_succ_eq_append_getElem (show k<m.length by omega),hI,he]
  ·have hne:¬ ([l[k].1,l[k].2]=[m[k].1,m[k].2]):=fun h=>he (by
    simp only [List.cons.injEq,and_true] at h
    exact Prod.ext h.1 h.2)
   rw [show (!decide ([l[k].1,l[k].2]=[m[k].1,m[k].2]))=true by simp only [decide_eq_false hne,Bool.not_false]]
   skip
   refine A5 rfl ?_;refine Aan ?_
   exact AK (res1 rfl rfl) rsubZ selZ ⟨rfl,by rw [decide_eq_false (fun h=>he (by subst h; rfl))]⟩
 ·rw [List.take_of_length_le (by omega),List.take_of_length_le (by omega)] at hI
  refine Aby ?_;refine Aan ?_
  exact AK (res1 rfl rfl) rsubZ selZ ⟨rfl,by rw [decide_eq_true hI]⟩
theorem sndWhole_spec (d:List UInt8):Eng.Spec Tryz.prog (fv 185) [str d] [] [] (fun r H'=>∃ b,r=.slice (some ⟨b,0,none⟩) 1 1∧H'=[sng b (.cells #[int 0,int (d.length:Int)] 49 (0,0))]):=by
 refine spec_in (cap:=[]) Tryz.func185 rfl rfl Tryz.ntmps185 rfl envZ (fun N β=>?_)
 refine Ach ?_
 focus ((refine' BQ _ rfl rfl rfl _; rotate_left; (apply B4; exact rfl; exact rfl)))
 refine B5 ?_;refine BS ?_; rintro _ _ ⟨b,rfl,rfl⟩;refine Aaa ?_;exact AK (res1 rfl rfl) rsubZ selZ ⟨_,rfl,rfl⟩
theorem sndIn_spec {a l h:Int} (h1:l≤a) (h2:a≤h):Ans Tryz.prog (fv 77) [int a,int l,int h] [] (fun r=>r=.bool true):=by
 refine spec_in (cap:=[]) Tryz.func77 rfl rfl Tryz.ntmps77 rfl envZ (fun N β=>?_)
 refine Ac6 ?_;refine DG ?_;refine Abl ?_;refine EA ?_;refine Abi ?_;exact BE ⟨rfl,rfl⟩
theorem sndDue_spec {c:Ct} {se e busy sr due st:Int} {d:List UInt8} {K:Iv} {p:Option Addr} {k:Nat} (hb:0≤busy∧busy≤4398046511104) (hg:0≤c.g∧c.g≤1048576) :
  Ans Tryz.prog (fv 128) [.agg #[int c.f,int c.t,int c.s,int c.e,int c.r,int c.g,int c.l,int se,str d,int e,int busy,int sr,.slice p K.length k,int due,int st]] [] (fun r=>r=int (busy+2*c.g+1)):=by
 refine spec_in (cap:=[]) Tryz.func128 rfl rfl Tryz.ntmps128 rfl envZ (fun N β=>?_)
 refine Aa ?_;refine BK (BM rfl) rfl rfl rfl ?_;rintro _ _ ⟨b1,rfl,rfl⟩;refine AZ (ρ:=sng b1 _) takeZ ?_
 have cs:=rdB b1 83 [int c.f,int c.t,int c.s,int c.e,int c.r,int c.g,int c.l,int se,str d,int e,int busy,int sr,.slice p K.length k,int due,int st]
 have cs0:=rdC cs 0
 have cs1:=rdC cs 1
 have cs2:=rdC cs 2
 have cs3:=rdC cs 3
 have cs4:=rdC cs 4
 have cs5:=rdC cs 5
 have cs6:=rdC cs 6
 have cs7:=rdC cs 7
 have cs8:=rdC cs 8
 have cs9:=rdC cs 9
 have cs10:=rdC cs 10
 have cs11:=rdC cs 11
 have cs12:=rdC cs 12
 have cs13:=rdC cs 13
 have cs14:=rdC cs 14
 refine Ab4 ?_;refine AF ?_;refine Aae ?_;refine E5 ?_;refine CA ?_;refine CA ?_;refine Aaa ?_;exact BE ⟨rfl,rfl⟩
theorem sndComplete_spec {ρ:PH} {c:Ct} {se e busy sr due st:Int} {d:List UInt8} {K:Iv} {p:Option Addr} {k:Nat} (hv:SpAt ρ (.slice p K.length k) K) (hl:K.length≤1000000) :
  Ans Tryz.prog (fv 244) [.agg #[int c.f,int c.t,int c.s,int c.e,int c.r,int c.g,int c.l,int se,str d,int e,int busy,int sr,.slice p K.length k,int due,int st]] [ρ] (fun r=>r=.bool (decide (K=[((0:Int),(d.length:Int))]))):=by
 have hw:=sndWhole_spec d
 have hE:=fun bn=>sndEq_spec ρ (sng bn (.cells #[int 0,int (d.length:Int)] 49 (0,0))) _ (.slice (some ⟨bn,0,none⟩) 1 1) K [((0:Int),(d.length:Int))] hv (slE_sng (l:=[((0:Int),(d.length:Int))]) encS_len) (by omega)
 refine spec_in (cap:=[]) Tryz.func244 rfl rfl Tryz.ntmps244 rfl envZ (fun N β=>?_)
 refine Aa ?_;refine BK (BM rfl) rfl rfl rfl ?_;rintro _ _ ⟨b1,rfl,rfl⟩;refine AZ (ρ:=sng b1 _) takeZ ?_
 have cs:=rdB b1 83 [int c.f,int c.t,int c.s,int c.e,int c.r,int c.g,int c.l,int se,str d,int e,int busy,int sr,.slice p K.length k,int due,int st]
 have cs0:=rdC cs 0
 have cs1:=rdC cs 1
 have cs2:=rdC cs 2
 have cs3:=rdC cs 3
 have cs4:=rdC cs 4
 have cs5:=rdC cs 5
 have cs6:=rdC cs 6
 have cs7:=rdC cs 7
 have cs8:=rdC cs 8
 have cs9:=rdC cs 9
 have cs10:=rdC cs 10
 have cs11:=rdC cs 11
 have cs12:=rdC cs 12
 have cs13:=rdC cs 13
 have cs14:=rdC cs 14
 refine Aaa ?_;refine AD ?_
 refine BD (.q 0 (.q 1 (.q 2 (.q 3 (.l 4 .e (.l 5 .e (.q 6 .nil))))))) [] rfl (by kernel_rfl) selZ ?_
 refine Ac9 ?_;refine BL (CY rfl hw rfl rfl rdZ rfl rfl ?_);rintro _ _ ⟨bn,rfl,rfl⟩
 skip
 refine BL (CS rfl (hE bn) rfl rfl rdZ rfl rfl ?_);rintro _ rfl;refine Aam ?_
 skip
 exact BE ⟨rfl,rfl⟩
theorem sndFields_spec {ρ:PH} {c:Ct} {se e busy sr due st:Int} {d:List UInt8} {K:Iv} {p:Option Addr} {k:Nat} (hv:SpAt ρ (.slice p K.length k) K) (hc:chkCt c=0) (hse:0≤se∧se≤1099511627776) (hn1:1≤d.length) (hn:d.length≤990) (hb:c.s≤busy∧busy≤e∧e≤c.e) (hsr:1≤sr∧sr≤1099511627776) (hK:InI d.length K):Ans Tryz.prog (fv 243) [.agg #[int c.f,int c.t,int c.s,int c.e,int c.r,int c.g,int c.l,int se,str d,int e,int busy,int sr,.slice p K.length k,int due,int st]] [ρ] (fun r=>r=int 0):=by
 have hKl:=hK.len (by omega)
 have hiv:=ivCheck_spec ρ _ K hv (by omega)
 rw [hK.chk (by omega) (by omega)] at hiv
 have hcc:=ctCheck_spec c
 rw [hc] at hcc
 have hcb:=chkCt_se hc
 obtain ⟨h1,h2⟩:=hse
 obtain ⟨h3,h4,h5⟩:=hb
 obtain ⟨h6,h7⟩:=hsr
 obtain ⟨q,cc,e0,hr⟩:=hv.val encS_len
 simp only [Value.slice.injEq] at e0
 obtain ⟨rfl,_,rfl⟩:=e0
 by_cases h0:K.length=0
 ·skip
  refine spec_in (cap:=[]) Tryz.func243 rfl rfl Tryz.ntmps243 rfl envZ (fun N β=>?_)
  refine Aa ?_;refine BK (BM rfl) rfl rfl rfl ?_;rintro _ _ ⟨b1,rfl,rfl⟩;refine AZ (ρ:=sng b1 _) takeZ ?_
  have cs:=rdB b1 83 [int c.f,int c.t,int c.s,int c.e,int c.r,int c.g,int c.l,int se,str d,int e,int busy,int sr,.slice p K.length k,int due,int st]
  have cs0:=rdC cs 0
  have cs1:=rdC cs 1
  have cs2:=rdC cs 2
  have cs3:=rdC cs 3
  have cs4:=rdC cs 4
  have cs5:=rdC cs 5
  have cs6:=rdC cs 6
  have cs7:=rdC cs 7
  have cs8:=rdC cs 8
  have cs9:=rdC cs 9
  have cs10:=rdC cs 10
  have cs11:=rdC cs 11
  have cs12:=rdC cs 12
  have cs13:=rdC cs 13
  have cs14:=rdC cs 14
  have csp:=rdQ (xs:=[_,_,_,_,_,_,_]) cs
  refine Aaa ?_;refine Aa ?_;refine AF ?_;refine AV ?_;refine A6 ?_; rintro _ _ ⟨b,rfl,rfl⟩;refine AX ?_; rintro _ _ ⟨rfl,rfl⟩;refine Aat ?_;refine Aaz ?_
  revert b; intro b3
  refine AZ (ρ:=sng b3 _) takeZ ?_
  have cw:=rdB b3 23 [int c.f,int c.t,int c.s,int c.e,int c.r,int c.g,int c.l]
  have c2:=rdC cw 2
  have c3:=rdC cw 3
  skip
  refine AW hcc rfl rfl rdZ rfl rfl ?_;rintro _ rfl;refine Abh ?_;refine Aba ?_
  focus ((refine AW (sndIn_spec (by omega) (by omega)) rfl rfl rdZ rfl rfl ?_; rintro _ rfl))
  refine BC ?_;refine Aap ?_
  focus ((refine' BQ _ rfl rfl rfl _; rotate_left; (apply B4; exact rfl; exact rfl)))
  focus ((refine AW (sndIn_spec (by omega) (by omega)) rfl rfl rdZ rfl rfl ?_; rintro _ rfl))
  refine BC ?_;refine Aci ?_;refine Aae ?_
  focus ((refine AW (sndIn_spec (by omega) (by omega)) rfl rfl rdZ rfl rfl ?_; rintro _ rfl))
  refine BC ?_;refine Aci ?_;refine Ac4 ?_
  focus ((refine AW (sndIn_spec (by omega) (by omega)) rfl rfl rdZ rfl rfl ?_; rintro _ rfl))
  refine BC ?_;refine Aa3 ?_;refine Acz ?_
  refine BD (.q 0 (.q 1 (.l 2 .e (.q 3 (.q 4 (.q 5 (.q 6 (.q 7 (.q 8 (.q 9 (.q 10 (.q 11 (.q 12 (.q 13 (.q 14 (.q 15 (.q 16 (.q 17 (.q 18 (.q 19 (.q 20 (.q 21 (.q 22 (.q 23 (.q 24 (.q 25 (.q 26 (.q 27 (.q 28 (.q 29 (.q 30 (.q 31 (.q 32 .nil))))))))))))))))))))))))))))))))) [] rfl (by kernel_rfl) selZ ?_
  refine Aaj ?_;refine BL (CS rfl hiv rfl rfl rdZ rfl rfl ?_);rintro _ rfl;refine EI ?_;refine Abp ?_;refine CT ?_;refine DA ?_;refine Acv ?_;refine Ack ?_;refine Ab ?_;refine Acs ?_;refine BU ?_;refine Abx ?_;refine Aan ?_;exact BE ⟨rfl,rfl⟩
 have hx:=List.getElem?_eq_getElem (show 0<K.length by omega)
 have hy:=List.getElem?_eq_getElem (show K.length-1<K.length by omega)
 have hxa:=hK.at _ (List.getElem_mem (show 0<K.length by omega))
 have hya:=hK.at _ (List.getElem_mem (show K.length-1<K.length by omega))
 obtain ⟨b4,o4,rfl,hrd,x0,x1⟩:=spRow hr hx
 obtain ⟨b5,o5,e5,hrd2,y0,y1⟩:=spRow hr hy
 simp only [Option.some.injEq,Addr.mk.injEq,and_true] at e5
 obtain ⟨rfl,rfl⟩:=e5
 generalize K[0]=xf at hrd x0 x1 hxa
 generalize K[K.length-1]=xl at hrd2 y0 y1 hya
 refine spec_in (cap:=[]) Tryz.func243 rfl rfl Tryz.ntmps243 rfl envZ (fun N β=>?_)
 refine Aa ?_;refine BK (BM rfl) rfl rfl rfl ?_;rintro _ _ ⟨b1,rfl,rfl⟩;refine AZ (ρ:=sng b1 _) takeZ ?_
 have cs:=rdB b1 83 [int c.f,int c.t,int c.s,int c.e,int c.r,int c.g,int c.l,int se,str d,int e,int busy,int sr,.slice (some ⟨b4,o4,none⟩) K.length k,int due,int st]
 have cs0:=rdC cs 0
 have cs1:=rdC cs 1
 have cs2:=rdC cs 2
 have cs3:=rdC cs 3
 have cs4:=rdC cs 4
 have cs5:=rdC cs 5
 have cs6:=rdC cs 6
 have cs7:=rdC cs 7
 have cs8:=rdC cs 8
 have cs9:=rdC cs 9
 have cs10:=rdC cs 10
 have cs11:=rdC cs 11
 have cs12:=rdC cs 12
 have cs13:=rdC cs 13
 have cs14:=rdC cs 14
 have csp:=rdQ (xs:=[_,_,_,_,_,_,_]) cs
 refine Aaa ?_;refine Aa ?_;refine AF ?_;refine AV ?_;refine A6 ?_; rintro _ _ ⟨b,rfl,rfl⟩;refine AX ?_; rintro _ _ ⟨rfl,rfl⟩;refine Aat ?_;refine Aaz ?_
 revert b; intro b3
 refine AZ (ρ:=sng b3 _) takeZ ?_
 have cw:=rdB b3 23 [int c.f,int c.t,int c.s,int c.e,int c.r,int c.g,int c.l]
 have c2:=rdC cw 2
 have c3:=rdC cw 3
 skip
 refine AW hcc rfl rfl rdZ rfl rfl ?_;rintro _ rfl;refine Abh ?_;refine Aba ?_
 focus ((refine AW (sndIn_spec (by omega) (by omega)) rfl rfl rdZ rfl rfl ?_; rintro _ rfl))
 refine BC ?_;refine Aap ?_
 focus ((refine' BQ _ rfl rfl rfl _; rotate_left; (apply B4; exact rfl; exact rfl)))
 focus ((refine AW (sndIn_spec (by omega) (by omega)) rfl rfl rdZ rfl rfl ?_; rintro _ rfl))
 refine BC ?_;refine Aci ?_;refine Aae ?_
 focus ((refine AW (sndIn_spec (by omega) (by omega)) rfl rfl rdZ rfl rfl ?_; rintro _ rfl))
 refine BC ?_;refine Aci ?_;refine Ac4 ?_
 focus ((refine AW (sndIn_spec (by omega) (by omega)) rfl rfl rdZ rfl rfl ?_; rintro _ rfl))
 refine BC ?_;refine Aa3 ?_;refine Acz ?_
 refine BD (.q 0 (.q 1 (.l 2 .e (.q 3 (.q 4 (.q 5 (.q 6 (.q 7 (.q 8 (.q 9 (.q 10 (.q 11 (.q 12 (.q 13 (.q 14 (.q 15 (.q 16 (.q 17 (.q 18 (.q 19 (.q 20 (.q 21 (.q 22 (.q 23 (.q 24 (.q 25 (.q 26 (.q 27 (.q 28 (.q 29 (.q 30 (.q 31 (.q 32 .nil))))))))))))))))))))))))))))))))) [] rfl (by kernel_rfl) selZ ?_
 refine Aaj ?_;refine BL (CS rfl hiv rfl rfl rdZ rfl rfl ?_);rintro _ rfl;refine EI ?_;refine Abp ?_;refine CT ?_;refine EJ ?_;refine Abp ?_;refine DY ?_;refine C4 ?_;refine AS ?_;refine DZ ?_;refine Abp ?_;refine Aaj ?_;refine CT ?_;refine CW ?_;refine CR ?_;refine Ace ?_;refine Aaj ?_
 focus ((refine' CF rfl _ rfl rfl rfl rfl _; rotate_left; (apply B4; exact rfl; exact rfl)))
 refine DA ?_;refine BU ?_;refine B7 ?_;refine BU ?_;refine Abx ?_;refine Aan ?_;exact BE ⟨rfl,rfl⟩
theorem sndChk_spec {ρ:PH} {c:Ct} {se e busy sr due st:Int} {d:List UInt8} {K:Iv} {p:Option Addr} {k:Nat} (hv:SpAt ρ (.slice p K.length k) K) (hc:chkCt c=0) (hse:0≤se∧se≤1099511627776) (hn1:1≤d.length) (hn:d.length≤990) (hb:c.s≤busy∧busy≤e∧e≤c.e) (hsr:1≤sr∧sr≤1099511627776) (hK:InI d.length K) (hst:(st=1∧K≠[((0:Int),(d.length:Int))]∧due=busy+2*c.g+1)∨(st=2∧K=[((0:Int),(d.length:Int))]∧due=0)∨(st=3∧due=0)) :
  Ans Tryz.prog (fv 212) [.agg #[int c.f,int c.t,int c.s,int c.e,int c.r,int c.g,int c.l,int se,str d,int e,int busy,int sr,.slice p K.length k,int due,int st]] [ρ] (fun r=>r=int 0):=by
 have hKl:=hK.len (by omega)
 have hcf:=sndFields_spec (due:=due) (st:=st) hv hc hse hn1 hn hb hsr hK
 have hco:=sndComplete_spec (c:=c) (se:=se) (e:=e) (busy:=busy) (sr:=sr) (due:=due) (st:=st) (d:=d) hv (by omega)
 have hcb:=chkCt_se hc
 have hcg:=chkCt_gg hc
 have hdu:=sndDue_spec (c:=c) (se:=se) (e:=e) (busy:=busy) (sr:=sr) (due:=due) (st:=st) (d:=d) (K:=K) (p:=p) (k:=k) (by omega) hcg
 refine spec_in (cap:=[]) Tryz.func212 rfl rfl Tryz.ntmps212 rfl envZ (fun N β=>?_)
 refine Aa ?_;refine BK (BM rfl) rfl rfl rfl ?_;rintro _ _ ⟨b1,rfl,rfl⟩;refine AZ (ρ:=sng b1 _) takeZ ?_
 have cs:=rdB b1 83 [int c.f,int c.t,int c.s,int c.e,int c.r,int c.g,int c.l,int se,str d,int e,int busy,int sr,.slice p K.length k,int due,int st]
 have cs0:=rdC cs 0
 have cs1:=rdC cs 1
 have cs2:=rdC cs 2
 have cs3:=rdC cs 3
 have cs4:=rdC cs 4
 have cs5:=rdC cs 5
 have cs6:=rdC cs 6
 have cs7:=rdC cs 7
 have cs8:=rdC cs 8
 have cs9:=rdC cs 9
 have cs10:=rdC cs 10
 have cs11:=rdC cs 11
 have cs12:=rdC cs 12
 have cs13:=rdC cs 13
 have cs14:=rdC cs 14
 refine Aaa ?_;refine Ab6 ?_;refine AW hcf rfl rfl rdZ rfl rfl ?_;rintro _ rfl
 rcases hst with ⟨rfl,hw,rfl⟩|⟨rfl,hw,rfl⟩|⟨rfl,rfl⟩
 ·rw [decide_eq_false hw] at hco
  refine Ab1 ?_;refine Abh ?_;refine Aan ?_;refine Aba ?_;refine AE ?_;refine A8 ?_;refine Aa ?_;refine CM ?_;refine Aaa ?_;refine A5 rfl ?_
  refine BD (.q 0 (.l 1 .e (.q 2 (.q 3 (.q 4 (.q 5 (.q 6 (.l 7 .e (.q 8 (.q 9 (.q 10 .nil))))))))))) [] rfl (by kernel_rfl) selZ ?_
  refine B8 ?_;refine BL (CS rfl hco rfl rfl rdZ rfl rfl ?_);rintro _ rfl;refine C8 ?_;refine Abp ?_;refine B8 ?_;refine BL (CS rfl hdu rfl rfl rdZ rfl rfl ?_);rintro _ rfl;refine FB ?_;refine B7 ?_;refine Aam ?_;refine BI ?_;refine Aah ?_;refine Abm ?_;refine Aan ?_;exact BE ⟨rfl,rfl⟩
 ·rw [decide_eq_true hw] at hco
  refine Ab1 ?_;refine Abh ?_;refine Aan ?_;refine Aba ?_;refine AE ?_;refine A8 ?_;refine Aa ?_;refine CI ?_;refine Ab8 ?_;refine Aa ?_;refine CM ?_;refine Aaa ?_;refine A5 rfl ?_;refine AA ?_;refine AV ?_;refine AW hco rfl rfl rdZ rfl rfl ?_;rintro _ rfl;refine Aap ?_;refine CM ?_;refine Abi ?_;refine BI ?_;refine Aah ?_;refine Abm ?_;refine Aan ?_;exact BE ⟨rfl,rfl⟩
 ·refine AC ?_
  refine Abu ?_;refine Abh ?_;refine Aan ?_;refine Aba ?_;refine AE ?_;refine A8 ?_;refine Aa ?_;refine CI ?_;refine Ab8 ?_;refine Aa ?_;refine CI ?_;refine Ab8 ?_;refine Aa ?_;refine CM ?_;refine Aaa ?_;refine A5 rfl ?_;refine AA ?_;refine Aae ?_;refine CM ?_;refine Aaa ?_;refine BI ?_;refine Aah ?_;refine Abm ?_;refine Aan ?_;exact BE ⟨rfl,rfl⟩
theorem sndFail_spec {c:Ct} {se e busy sr due st:Int} {d:List UInt8} {K:Iv} {p:Option Addr} {k:Nat} :
  Ans Tryz.prog (fv 127) [.agg #[int c.f,int c.t,int c.s,int c.e,int c.r,int c.g,int c.l,int se,str d,int e,int busy,int sr,.slice p K.length k,int due,int st]] [] (fun r=>r=.agg #[int c.f,int c.t,int c.s,int c.e,int c.r,int c.g,int c.l,int se,str d,int e,int busy,int sr,.slice p K.length k,int 0,int 3]):=by
 refine spec_in (cap:=[]) Tryz.func127 rfl rfl Tryz.ntmps127 rfl envZ (fun N β=>?_)
 refine Aa ?_;refine BK (BM rfl) rfl rfl rfl ?_;rintro _ _ ⟨b1,rfl,rfl⟩;refine A6 ?_; rintro _ _ ⟨b,rfl,rfl⟩;refine Ab3 ?_;refine AF ?_;refine BA ?_; rintro _ _ ⟨rfl,rfl⟩;refine AF ?_;refine BA ?_; rintro _ _ ⟨rfl,rfl⟩;refine AE ?_;refine Aaz ?_;refine AX ?_; rintro _ _ ⟨rfl,rfl⟩;refine AE ?_;exact AK (resS1 (v1:=[int c.f,int c.t,int c.s,int c.e,int c.r,int c.g,int c.l,int se,str d,int e,int busy,int sr,.slice p K.length k,int 0,int 3]) rfl rfl rfl rfl (cells_own memZ)) rsubZ selZ ⟨rfl,rfl⟩
theorem sndTrans_spec (rate t:Int) (v:Value) (hv:v.oneCell'=true) :
  Eng.Spec Tryz.prog (fv 126) [int rate,int t,v] [] [] (fun r H'=>∃ b1 b2 b3,r=.func (.func 181) #[] #[.pointer (some ⟨b1,0,none⟩),.pointer (some ⟨b2,0,none⟩),.pointer (some ⟨b3,0,none⟩)]∧H'=[sng b1 (.cells #[v] 35 (0,0)),sng b3 (.cells #[int t] 3 (0,0)),sng b2 (.cells #[int rate] 3 (0,0))]):=by
 refine spec_in (cap:=[]) Tryz.func126 rfl rfl Tryz.ntmps126 rfl envZ (fun N β=>?_)
 refine Aa ?_;refine BK (DW rfl rfl) rfl rfl rfl ?_;rintro _ _ ⟨b2,rfl,rfl⟩;refine BK (DW rfl rfl) rfl rfl rfl ?_;rintro _ _ ⟨b3,rfl,rfl⟩;refine BK (DW rfl hv) rfl rfl rfl ?_;rintro _ _ ⟨b1,rfl,rfl⟩;refine Aaa ?_;refine Aa ?_;refine B0 ?_;refine Aaa ?_;exact AK (res1 rfl rfl) rsubZ selZ ⟨b1,b2,b3,rfl,rfl⟩
end Go.Proofs.YtahbngakckbenaaGreatDoor
namespace Go.Eng
variable {L:Env} {R H:List PH}
theorem resSSE {fn:Func} {N:Bs} {M:Nat} {P:Program} {t u s b1 b2:Nat} {T U:TypeId} {v1 v2:List Value} {v3:Value} (hr:fn.results = #[.cell t T,.cell u U,.tmp s]) (ht:look L t=some (.pointer (some ⟨b1,0,none⟩))) (hu:look L u=some (.pointer (some ⟨b2,0,none⟩))) (hs:look L s=some v3)
    (a1:aggP P T=some true) (n1:szP P T=some v1.length) (a2:aggP P U=some true) (n2:szP P U=some v2.length) (c1:Cells N R H b1 0 v1) (c2:Cells N R H b2 0 v2) :
    ∀ a w,Frm M L a→Sat N R H w→(results fn a.tmps).run P w=.ok (.tuple #[.agg v1.toArray,.agg v2.toArray,v3]) w:=by
  intro a w hf hs'
  have e1:a.tmps[t]?.getD undef=.pointer (some ⟨b1,0,none⟩):=by simpa using hf.get t _ ht
  have e2:a.tmps[u]?.getD undef=.pointer (some ⟨b2,0,none⟩):=by simpa using hf.get u _ hu
  have e3:a.tmps[s]?.getD undef=v3:=by simpa using hf.get s _ hs
  have l1:=run_loadCells_list (P:=P) (w:=w) ⟨b1,0,none⟩ v1 (fun j v hv=>by rw [Addr.add_lit]; exact c1 w hs' j v hv)
  have l2:=run_loadCells_list (P:=P) (w:=w) ⟨b2,0,none⟩ v2 (fun j v hv=>by rw [Addr.add_lit]; exact c2 w hs' j v hv)
  simp [results,hr,e1,e2,e3,loadVar,run_isAgg a1,run_isAgg a2,run_sizeOf n1,run_sizeOf n2,l1,l2,asAddr]
end Go.Eng
namespace Go.Proofs.YtahbngakckbenaaGreatDoor
open Go.Eng Go.Step
set_option maxRecDepth 100000
set_option maxHeartbeats 64000000
theorem sndTrans_iter {ρ:PH} {v:Value} {se rate t0:Int} {d:List UInt8} {G:List Sg} (hv:SlE (encG se d) 8 ρ v G) (hG:∀ x∈G,okG d.length x) (hn:d.length≤990) (hse:0≤se∧se≤1099511627776) (hr:1≤rate∧rate≤1000) (ht:0≤t0∧t0≤4398046511104) (hl:G.length≤1000000) (b1 b2 b3:Nat) :
  IterW Tryz.prog (.func (.func 181) #[] #[.pointer (some ⟨b1,0,none⟩),.pointer (some ⟨b2,0,none⟩),.pointer (some ⟨b3,0,none⟩)]) [sng b1 (.cells #[v] 35 (0,0)),sng b2 (.cells #[int rate] 3 (0,0)),ρ] [sng b3 (.cells #[int t0] 3 (0,0))] ((timed rate t0 G).map (fun x=>[.agg (encO se d x).toArray])):=by
 intro y S Own Inv Stop Ry hy hyl σ0 hI0
 obtain ⟨yl,rfl⟩:=hyl
 obtain ⟨q,c,rfl,hrd⟩:=hv.val (encG_len se d)
 have bx16_3:=rdB b1 35 [.slice q G.length c]
 have c1:=rdC bx16_3 0
 have bx17_3:=rdB b2 3 [int rate]
 have c2:=rdC bx17_3 0
 have htl:=timed_len rate G t0
 simp only [List.cons_append,List.nil_append]
 refine spec_in (cap:=[.pointer (some ⟨b1,0,none⟩),.pointer (some ⟨b2,0,none⟩),.pointer (some ⟨b3,0,none⟩)]) Tryz.func181 rfl rfl Tryz.ntmps181 rfl envZ (fun N β=>?_)
 refine D5 (H':=sng b3 (.cells #[int t0] 3 (0,0))::Own σ0) (List.perm_append_comm (l₂:=[_])) ?_;refine Acp ?_;refine Abw ?_
 refine BX [0,1,2,3,9,10] (X:=Nat × S) (0,σ0) (fun z=>z.1≤G.length∧Inv z.1 z.2) (fun z=>[(11,int (z.1:Int))]) (fun z=>sng b3 (.cells #[int (endG rate t0 (G.take z.1))] 3 (0,0))::Own z.2) (fun z=>G.length-z.1) pickZ ⟨Nat.zero_le _,hI0⟩ covZ Sel.refl ?_
 rintro ⟨k,σ1⟩ ⟨hk,hI⟩
 dsimp only at hk hI ⊢
 by_cases hlt:k<G.length
 rotate_left
 ·have hke:k=G.length:=by omega
  subst hke;refine Aby ?_
  refine BW (res0 rfl) (fun _ h=>h) (Sel.skip Sel.refl) ⟨σ1,rfl,.inl ?_⟩
  rw [List.length_map,htl];exact hI
 have hx:=List.getElem?_eq_getElem hlt
 have hgx:=hG _ (List.getElem_mem hlt)
 obtain ⟨bl,ol,rfl,hR⟩:=hrd k _ hx
 generalize G[k]=x at hx hgx hR
 have hR:RdN ρ bl (ol+k*8) [int 1,int se,int x.sr,int (x.a:Int),int (d.length:Int),.bool (decide (1≤x.sr)),str (cutD d x.a x.b),.slice none 0 0]:=hR
 have hes:=endG_succ rate (t:=t0) hx
 have hb1:=endG_le hr.1 (G:=G.take k) (t:=t0) (fun y hy=>hG y (List.mem_of_mem_take hy))
 have hb1l:(G.take k).length=k:=by rw [List.length_take]; omega
 have htm:=segTime_spec (se:=se) hgx (by omega) hse hr
 have hq:=segT_le hr.1 (len:=((x.b-x.a:Nat):Int)) (by have:=hgx.1; omega)
 have hq0:=segT_pos hr.1 (len:=((x.b-x.a:Nat):Int)) (by have:=hgx.1; omega)
 have hql:=hgx.2.2.1
 have hya:=hy k σ1 [.agg (encO se d (endG rate t0 (G.take (k+1)),x)).toArray] (by rw [List.getElem?_map,timed_get rate G t0 k x hx]; rfl) hI
 rw [hes] at hya
 generalize endG rate t0 (G.take k)=t1 at hb1 hes hya
 generalize segT rate ((x.b-x.a:Nat):Int)=dt at htm hq hq0 hes hya
 generalize hck:decide (1≤x.sr)=ck at hR htm
 have ev:encO se d (t1+dt,x)=[int (t1+dt),int 1,int se,int x.sr,int (x.a:Int),int (d.length:Int),.bool ck,str (cutD d x.a x.b),.slice none 0 0]:=by rw [← hck]; rfl
 rw [ev] at hya;refine Ac8 ?_;refine A6 ?_; rintro _ _ ⟨b,rfl,rfl⟩;refine AX ?_; rintro _ _ ⟨rfl,rfl⟩;refine Ab3 ?_;refine AG ?_;refine AV ?_
 revert b; intro b6
 refine AZ (ρ:=sng b6 _) takeZ ?_
 have cw:=rdB b6 37 [int 1,int se,int x.sr,int (x.a:Int),int (d.length:Int),.bool ck,str (cutD d x.a x.b),.slice none 0 0]
 skip
 refine AW htm rfl rfl rdZ rfl rfl ?_;rintro _ rfl;refine Aa1 ?_;refine Acp ?_;refine AB ?_;refine CA ?_;refine BA ?_; rintro _ _ ⟨rfl,rfl⟩;refine Abu ?_;refine AG ?_;refine AV ?_;refine BQ (CE (out:=[int (t1+dt),int 1,int se,int x.sr,int (x.a:Int),int (d.length:Int),.bool ck,str (cutD d x.a x.b),.slice none 0 0]) rfl rfl rfl rfl rfl) rfl rfl rfl ?_
 refine BG hya rfl rfl (Takes.skip Takes.all) (fun τ hτ=>.inl (by simp [hτ])) rfl rfl ?_
 rintro _ H' ⟨σ3,rfl,⟨rfl,hI3⟩|⟨rfl,hSt⟩⟩
 ·refine D5 (H':=_::Own σ3) (List.perm_append_comm (l₂:=[_])) ?_
  refine Abm ?_;refine Abc ?_;refine CJ ?_
  refine BH (k+1,σ3) ⟨by dsimp only; omega,hI3⟩ (by dsimp only; omega) covZ ?_
  dsimp only
  rw [hes];exact Sel.cons .here Sel.refl
 ·refine D5 (H':=_::Own σ3) (List.perm_append_comm (l₂:=[_])) ?_
  refine BC ?_;refine Aal ?_
  exact AK (res0 rfl) (fun _ h=>List.mem_cons_of_mem _ h) (Sel.skip Sel.refl) ⟨σ3,rfl,.inr hSt⟩
theorem sndAppend_spec {R1 HI:List PH} {se:Int} {d:List UInt8} {X:List (Int × Sg)} {cap:List Value} (hit:IterW Tryz.prog (.func (.func 181) #[] cap.toArray) R1 HI (X.map (fun x=>[.agg (encO se d x).toArray]))) (hl:X.length≤1000000) :
  Eng.Spec Tryz.prog (fv 180) [.slice none 0 0,.func (.func 181) #[] cap.toArray] R1 HI (fun r H'=>∃ p c σ,r=.slice p X.length c∧OwnS 39 9 (.slice p X.length c) X.length (X.flatMap (encO se d)) σ∧H'=[σ]):=by
 refine spec_in (cap:=[]) Tryz.func180 rfl rfl Tryz.ntmps180 rfl envZ (fun N β=>?_)
 refine CB ?_;refine Aa ?_;refine D0 ?_; rintro _ _ ⟨b,rfl,rfl⟩;refine Aa7 ?_;refine AE ?_;refine A8 ?_
 revert b; intro b2
 refine FX (gf:=181) (cap:=cap) (ps:=[7]) (X:=Value × PH) rfl Tryz.func181 rfl rfl
  hit ?_
  (fun i x=>OwnS 39 9 x.1 i ((X.take i).flatMap (encO se d)) x.2)
  (fun x=>[sng b2 (.cells #[x.1] 32 (0,0)),x.2]) (fun _ _=>False) (.slice none 0 0,emp) rfl (Takes.cons .here (Takes.cons .here Takes.all)) (OwnS.nil _ _) ?_ ?_ ?_
 ·intro σ' hσ
  exact List.mem_cons_of_mem _ hσ
 ·rintro lo r i ⟨u,σ⟩ vs hvs hO hps has hbd hst hpe hfr
  obtain ⟨st,pe,fnn,tm,prm,asg,bdy,df⟩:=r
  simp only at hps has hbd hst hpe hfr;subst hps has hbd hst hpe;rw [List.getElem?_map] at hvs
  obtain ⟨⟨t1,x⟩,hc,rfl⟩:=Option.map_eq_some_iff.1 hvs
  have hi:=(List.getElem?_eq_some_iff.1 hc).1
  dsimp only at hO
  have hnx:(X.take (i+1)).flatMap (encO se d)=(X.take i).flatMap (encO se d) ++ encO se d (t1,x):=by
   rw [List.take_add_one,hc,List.flatMap_append]; simp
  have ev:encO se d (t1,x)=[int t1,int 1,int se,int x.sr,int (x.a:Int),int (d.length:Int),.bool (decide (1≤x.sr)),str (cutD d x.a x.b),.slice none 0 0]:=rfl
  rw [ev] at hnx ⊢
  have hu1:u.oneCell'=true:=by obtain ⟨_,_,rfl⟩:=hO.form; rfl
  generalize decide (1≤x.sr)=ck at hnx ⊢
  refine yield_spec hfr rfl (by intro p hp; simp at hp; omega) putiZ (fun N' β'=>?_)
  dsimp only
  refine AA ?_;refine A6 ?_; rintro _ _ ⟨b,rfl,rfl⟩;refine AX ?_; rintro _ _ ⟨rfl,rfl⟩;refine AE ?_;refine DX rfl rfl ?_;refine D4 takeZ rfl ?_
  revert b; intro b5
  refine AZ (ρ:=sng b5 _) takeZ ?_
  have cw:=rdB b5 39 [int t1,int 1,int se,int x.sr,int (x.a:Int),int (d.length:Int),.bool ck,str (cutD d x.a x.b),.slice none 0 0]
  refine A8 ?_;refine AA ?_;refine AG ?_;refine AV ?_
  have hfl:Flat [.agg #[int t1,int 1,int se,int x.sr,int (x.a:Int),int (d.length:Int),.bool ck,str (cutD d x.a x.b),.slice none 0 0]] [int t1,int 1,int se,int x.sr,int (x.a:Int),int (d.length:Int),.bool ck,str (cutD d x.a x.b),.slice none 0 0]:=Flat.agg (ws:=[int t1,int 1,int se,int x.sr,int (x.a:Int),int (d.length:Int),.bool ck,str (cutD d x.a x.b),.slice none 0 0]) Flat.nil
  refine BK (B6 (cs:=[int t1,int 1,int se,int x.sr,int (x.a:Int),int (d.length:Int),.bool ck,str (cutD d x.a x.b),.slice none 0 0]) rfl rfl rfl rfl rfl oneZ hfl rfl) rfl rfl rfl ?_;rintro _ _ ⟨bn,rfl,rfl⟩
  refine BK (CV (by_:=96) (s:=9) (news:=[int t1,int 1,int se,int x.sr,int (x.a:Int),int (d.length:Int),.bool ck,str (cutD d x.a x.b),.slice none 0 0]) rfl rfl rfl rfl rfl rfl rfl hO takeZ (cells_own memZ) rfl oneZ (by omega) (by simp only [maxLen]; omega) (by omega)) rfl rfl rfl ?_
  rintro u1 _ ⟨σ1,hO1,rfl⟩
  have hu2:u1.oneCell'=true:=by obtain ⟨_,_,rfl⟩:=hO1.form; rfl
  refine BA ?_; rintro _ _ ⟨rfl,rfl⟩;refine AE ?_;refine BI ?_;refine CP takeZ rsubZ selZ ⟨(u1,σ1),.inl ⟨rfl,?_,rfl⟩⟩
  dsimp only
  rw [hnx];exact hO1
 ·rintro b2' ⟨u,σ⟩ hO
  have hxl:(X.map (fun x=>[Value.agg (encO se d x).toArray])).length=X.length:=List.length_map _
  rw [hxl] at hO
  dsimp only at hO
  rw [List.take_length] at hO
  obtain ⟨pu,cu,rfl⟩:=hO.form
  refine BI ?_;refine Acp ?_;refine Aaa ?_;exact EQ (Marks.cons .here .nil) (res1 rfl rfl) rsubZ selZ ⟨pu,cu,σ,rfl,hO,rfl⟩
 ·rintro _ _ _ h; exact h.elim
theorem sndCollect_spec {R1 HI:List PH} {se:Int} {d:List UInt8} {X:List (Int × Sg)} {cap:List Value} (hit:IterW Tryz.prog (.func (.func 181) #[] cap.toArray) R1 HI (X.map (fun x=>[.agg (encO se d x).toArray]))) (hl:X.length≤1000000) :
  Eng.Spec Tryz.prog (fv 125) [.func (.func 181) #[] cap.toArray] R1 HI (fun r H'=>∃ p c σ,r=.slice p X.length c∧OwnS 39 9 (.slice p X.length c) X.length (X.flatMap (encO se d)) σ∧H'=[σ]):=by
 have hA:=sndAppend_spec hit hl
 refine spec_in (cap:=[]) Tryz.func125 rfl rfl Tryz.ntmps125 rfl envZ (fun N β=>?_)
 refine Ach ?_
 refine BG hA rfl rfl Takes.all (fun τ hτ=>.inl (List.mem_cons_of_mem _ hτ)) rfl rfl ?_
 rintro _ _ ⟨pu,cu,σ,rfl,hO,rfl⟩;refine Aaa ?_;exact AK (res1 rfl rfl) rsubZ selZ ⟨pu,cu,σ,rfl,hO,rfl⟩
theorem sndSend_spec {ρ:PH} {v:Value} {c:Ct} {se e busy sr due st t0:Int} {d:List UInt8} {K:Iv} {p:Option Addr} {k:Nat} {G:List Sg} {x:Sg} (hv:SlE (encG se d) 8 ρ v G) (hG:∀ x∈G,okG d.length x) (hn:d.length≤990) (hse:0≤se∧se≤1099511627776) (hc:chkCt c=0) (he:e≤c.e) (ht:0≤t0∧t0≤4398046511104) (hl:G.length≤1000000) (hx:G[G.length-1]?=some x) :
  Eng.Spec Tryz.prog (fv 78) [.agg #[int c.f,int c.t,int c.s,int c.e,int c.r,int c.g,int c.l,int se,str d,int e,int busy,int sr,.slice p K.length k,int due,int st],int t0,v] [ρ] [] (fun r H'=>(e<endG c.r t0 G∧r=.tuple #[.agg #[int c.f,int c.t,int c.s,int c.e,int c.r,int c.g,int c.l,int se,str d,int e,int busy,int sr,.slice p K.length k,int 0,int 3],.slice none 0 0]∧H'=[])∨(endG c.r t0 G≤e∧∃ p' c' σ,r=.tuple #[.agg #[int c.f,int c.t,int c.s,int c.e,int c.r,int c.g,int c.l,int se,str d,int e,int (endG c.r t0 G),int x.sr,.slice p K.length k,int (endG c.r t0 G+2*c.g+1),int 1],.slice p' G.length c']∧OwnS 39 9 (.slice p' (timed c.r t0 G).length c') (timed c.r t0 G).length ((timed c.r t0 G).flatMap (encO se d)) σ∧H'=[σ])):=by
 obtain ⟨hr,hg,hce⟩:=chkCt_rg hc
 have hcs:=chkCt_se hc
 have htr:=sndTrans_spec c.r t0 v (by obtain ⟨_,_,rfl,_⟩:=hv.val (encG_len se d); rfl)
 have hit:=fun b1 b2 b3=>sndTrans_iter (t0:=t0) hv hG hn hse hr ht hl b1 b2 b3
 have htl:=timed_len c.r G t0
 have hco:=fun b1 b2 b3=>sndCollect_spec (hit b1 b2 b3) (by rw [htl]; exact hl)
 have hfa:=@sndFail_spec c se e busy sr due st d K p k
 have hEb:=endG_le hr.1 (t:=t0) hG
 have hi:=(List.getElem?_eq_some_iff.1 hx).1
 have hlx:=timed_get c.r G t0 _ x hx
 rw [show G.length-1+1=G.length from by omega,List.take_length] at hlx
 have hxo:=hG x (List.mem_of_getElem? hx)
 obtain ⟨h1,h2,h3,h4,h5⟩:=hxo
 have hdu:=fun hE=>sndDue_spec (c:=c) (se:=se) (e:=e) (busy:=endG c.r t0 G) (sr:=x.sr) (due:=due) (st:=1) (d:=d) (K:=K) (p:=p) (k:=k) hE (by omega)
 generalize hEE:endG c.r t0 G=E at hEb hlx hdu ⊢
 generalize timed c.r t0 G=X at hco htl hlx ⊢
 refine spec_in (cap:=[]) Tryz.func78 rfl rfl Tryz.ntmps78 rfl envZ (fun N β=>?_)
 refine Aa ?_;refine BK (BM rfl) rfl rfl rfl ?_;rintro _ _ ⟨bs,rfl,rfl⟩;refine A6 ?_; rintro _ _ ⟨b,rfl,rfl⟩;refine Aaa ?_;refine Aa ?_;refine AF ?_;refine Aae ?_;refine Aak ?_
 revert b; intro b6
 refine BG htr rfl rfl Takes.nil (fun τ hτ=>by simp at hτ) rfl rfl ?_
 rintro _ _ ⟨b1,b2,b3,rfl,rfl⟩;refine AZ (ρ:=sng b1 _) takeZ ?_;refine AZ (ρ:=sng b2 _) takeZ ?_;refine BG (hco b1 b2 b3) rfl rfl takesZ rdZ rfl rfl ?_;rintro _ _ ⟨pu,cu,σ,rfl,hO,rfl⟩
 obtain ⟨_,_,e0,hrO⟩:=SlE.val (encO_len se d) hO.at
 simp only [Value.slice.injEq] at e0
 obtain ⟨rfl,_,rfl⟩:=e0
 rw [htl]
 obtain ⟨b8,o8,rfl,hR⟩:=hrO _ _ hlx
 have hR:RdN σ b8 (o8+(G.length-1)*9) [int E,int 1,int se,int x.sr,int (x.a:Int),int (d.length:Int),.bool (decide (1≤x.sr)),str (cutD d x.a x.b),.slice none 0 0]:=hR
 generalize decide (1≤x.sr)=ck at hR
 refine Aa7 ?_;refine BF ?_;refine Ac5 ?_;refine Aar ?_;refine BF ?_;refine CN ?_;refine Acj ?_;refine A6 ?_; rintro _ _ ⟨b,rfl,rfl⟩;refine AX ?_; rintro _ _ ⟨rfl,rfl⟩;refine Aat ?_;refine Aao ?_;refine Aae ?_
 revert b; intro b9
 refine AZ (ρ:=sng b9 _) takeZ ?_
 have bx304_3:=rdB b9 39 [int E,int 1,int se,int x.sr,int (x.a:Int),int (d.length:Int),.bool ck,str (cutD d x.a x.b),.slice none 0 0]
 have o0:=rdC bx304_3 0
 have o3:=rdC bx304_3 3
 by_cases hlate:e<E
 ·refine C9 ?_
  refine Abv ?_;refine Abr ?_;refine Aaz ?_;refine AW hfa rfl rfl rdZ rfl rfl ?_;rintro _ rfl;refine AX ?_; rintro _ _ ⟨rfl,rfl⟩;refine Aaa ?_;exact AK (resSE (v1:=[int c.f,int c.t,int c.s,int c.e,int c.r,int c.g,int c.l,int se,str d,int e,int busy,int sr,.slice p K.length k,int 0,int 3]) rfl rfl rfl rfl rfl (cells_own memZ)) rsubZ selZ (.inl ⟨hlate,rfl,rfl⟩)
 have hdu:=hdu (by omega)
 refine BP ?_;refine AB ?_;refine AF ?_;refine DF ?_;refine AG ?_;refine BP ?_;refine Aa3 ?_;refine AD ?_
 refine BD (.q 0 (.q 1 (.p 2 (.p 3 (.p 4 (.q 5 (.l 6 .b (.q 7 (.l 8 .b (.q 9 (.l 10 .b .nil))))))))))) [] rfl (by kernel_rfl) selZ ?_
 refine Aaj ?_;refine ET ?_;refine zp_fld ?_;refine GQ ?_;refine AU ?_;refine CO ?_; rintro _ _ ⟨rfl,rfl⟩;refine AU ?_;refine CO ?_; rintro _ _ ⟨rfl,rfl⟩;refine AU ?_;refine CO ?_; rintro _ _ ⟨rfl,rfl⟩;refine A7 ?_;refine Aaz ?_;refine AW hdu rfl rfl rdZ rfl rfl ?_;rintro _ rfl;refine AF ?_;refine BA ?_; rintro _ _ ⟨rfl,rfl⟩;refine AE ?_;refine Aaz ?_;refine AB ?_;refine AX ?_; rintro _ _ ⟨rfl,rfl⟩;refine Aaa ?_
 exact AK (H':=[σ]) (resSE (v1:=[int c.f,int c.t,int c.s,int c.e,int c.r,int c.g,int c.l,int se,str d,int e,int E,int x.sr,.slice p K.length k,int (E+2*c.g+1),int 1]) rfl rfl rfl rfl rfl (cells_own memZ)) rsubZ selZ (.inr ⟨by omega,_,_,σ,rfl,by have h:=hO; rw [htl] at h; exact h,rfl⟩)
end Go.Proofs.YtahbngakckbenaaGreatDoor
namespace Go.Eng
variable {C:Cx} {D:List Deferred} {R H:List PH} {L:Env} {K:List It}
variable {dst:Option Tmp} {ty:TypeId} {pos:String} {aft:Array Edge} {g:Option (Nat × Bool)}
def entv:Nat→List (Int × Value)→List MapEntry
  | _,[]=>[]
  | i,kv::m=>⟨int kv.1,kv.2,i⟩::entv (i+1) m
def mapV (m:List (Int × Value)):Obj:=.map (entv 0 m).toArray m.length
def midv (k:Int):List (Int × Value)→Option (Nat × Value)
  | []=>none
  | (a,v)::m=>if k=a then some (0,v) else (midv k m).map (fun p=>(p.1+1,p.2))
def mgev (k:Int) (m:List (Int × Value)):Option Value:=(midv k m).map (·.2)
def msev (k:Int) (v:Value):List (Int × Value)→List (Int × Value)
  | []=>[(k,v)]
  | (a,w)::m=>if k=a then (a,v)::m else (a,w)::msev k v m
theorem findNow_entv (k:Int):∀ (m:List (Int × Value)) (i j:Nat),Instr.findNow (.int .i64) (int k) (entv i m) j=some ((midv k m).map (fun p=>(j+p.1,p.2)))
  | [],i,j=>rfl
  | (a,v)::m,i,j=>by
    by_cases h:k=a
    · subst h
      simp [entv,Instr.findNow,Instr.sameNow,midv,int]
    · have ih:=findNow_entv k m (i+1) (j+1)
      have hs:Instr.sameNow (.int .i64) (int k) (int a)=some false:=by simp [Instr.sameNow,int,h]
      simp only [entv,Instr.findNow,hs,midv,if_neg h,ih,Option.map_map]
      congr 2
      funext p
      show (j+1+p.1,p.2)=(j+(p.1+1),p.2)
      rw [show j+1+p.1=j+(p.1+1) by omega]
theorem msev_none {k:Int} {v:Value}:∀ {m:List (Int × Value)} (i:Nat),midv k m=none→entv i m ++ [⟨int k,v,i+m.length⟩]=entv i (msev k v m)∧(msev k v m).length=m.length+1
  | [],i,_=>⟨rfl,rfl⟩
  | (a,w)::m,i,h=>by
    unfold midv at h
    split at h
    · exact absurd h (by simp)
    · rename_i hk
      have h':midv k m=none:=by simpa using h
      obtain ⟨e,l⟩:=msev_none (k:=k) (v:=v) (m:=m) (i+1) h'
      simp only [msev,if_neg hk,entv,List.cons_append,List.length_cons,l,and_true,← e]
      congr 4
      omega
theorem msev_some {k:Int} {v:Value}:∀ {m:List (Int × Value)} (i n:Nat) (w:Value),midv k m=some (n,w)→(entv i m).modify n (fun e=>{ e with key:=int k,val:=v })=entv i (msev k v m)∧(msev k v m).length=m.length∧n<m.length∧((entv i m)[n]?).map (·.key)=some (int k)
  | [],i,n,w,h=>by simp [midv] at h
  | (a,u)::m,i,n,w,h=>by
    unfold midv at h
    split at h
    · rename_i hk
      subst hk
      simp at h
      obtain ⟨rfl,rfl⟩:=h
      simp [entv,msev]
    · rename_i hk
      cases hm:midv k m with
      | none=>rw [hm] at h; simp at h
      | some p =>
        rw [hm] at h
        simp at h
        obtain ⟨rfl,rfl⟩:=h
        obtain ⟨e,l,l2,l3⟩:=msev_some (k:=k) (v:=v) (m:=m) (i+1) p.1 p.2 hm
        simp only [msev,if_neg hk,entv,List.length_cons,l,List.modify_succ_cons,e]
        refine ⟨trivial,trivial,by omega,?_⟩
        simpa using l3
theorem run_findKeyV {P:Program} {w:World} {kt:TypeId} {k:Int} {l:List (Int × Value)} (hkt:P.underlying kt=some (.int .i64)):(Instr.findKey kt (int k) (entv 0 l)).run P w=.ok ((midv k l).map (fun p=>(p.1,p.2))) w:=by
  have hf:=findNow_entv k l 0 0
  simp only [Nat.zero_add] at hf
  simp [Instr.findKey,Go.underlying,Sem.run,hkt,hf]
theorem run_lookupV {P:Program} {w:World} {t kt et:TypeId} {b:Nat} {k:Int} {l:List (Int × Value)} {ok:Bool} (ht:P.underlying t=some (.map kt et)) (hkt:P.underlying kt=some (.int .i64)) {z:Value} (hz:zeroP P et=some z) (hg:w.heap[b]?=some (mapV l)) :
    (Instr.lookup t (.map (some b)) (int k) ok).run P w=.ok (if ok then .tuple #[(mgev k l).getD z,.bool (mgev k l).isSome] else (mgev k l).getD z) w:=by
  have hf:=run_findKeyV (P:=P) (w:=w) (k:=k) (l:=l) hkt
  have hc:=fun e=>run_checkKey (P:=P) (w:=w) (k:=k) e 9999 hkt
  simp only [Nat.reduceAdd] at hc;unfold mgev
  cases hm:midv k l with
  | none =>
    rw [hm] at hf
    simp [Instr.lookup,Go.underlying,Sem.run,ht,getObj,hg,mapV,hc,hf,run_zeroValue hz]
    done
  | some p =>
    rw [hm] at hf
    simp [Instr.lookup,Go.underlying,Sem.run,ht,getObj,hg,mapV,hc,hf]
    done
def MapVAt (N:Bs) (R H:List PH) (b:Nat) (l:List (Int × Value)):Prop:=∀ w,Sat N R H w→w.heap[b]?=some (mapV l)
theorem mapVAt_own {N:Bs} {b:Nat} {l:List (Int × Value)} (m:Mem (sng b (mapV l)) H):MapVAt N R H b l:=fun w hs=>hs.h _ m.mem b _ (sng_self b _)
theorem FD {x y:Operand} {t kt et:TypeId} {b:Nat} {k:Int} {l:List (Int × Value)} (h:evalE L x=some (.map (some b))) (hk:evalE L y=some (int k)) (ht:C.P.underlying t=some (.map kt et)) (hkt:C.P.underlying kt=some (.int .i64)) {z:Value} (hz:zeroP C.P et=some z) (hm:MapVAt C.N R H b l) :
    Quiet C R H L ⟨dst,.lookup t x y true,ty,pos,aft,g⟩ (.tuple #[(mgev k l).getD z,.bool (mgev k l).isSome]):=
  ⟨by intro c; simp,fun a w hx hs=>by
    have e1:=hx x (by simp [Op.operands]) _ h
    have e2:=hx y (by simp [Op.operands]) _ hk
    simp [execOp,e1,e2,run_lookupV ht hkt hz (hm w hs)]⟩
theorem EV {x y:Operand} {t kt et:TypeId} {b:Nat} {k:Int} {l:List (Int × Value)} {v:Value} (h:evalE L x=some (.map (some b))) (hk:evalE L y=some (int k)) (ht:C.P.underlying t=some (.map kt et)) (hkt:C.P.underlying kt=some (.int .i64)) {z:Value} (hz:zeroP C.P et=some z) (hm:MapVAt C.N R H b l) (hv:mgev k l=some v) :
    Quiet C R H L ⟨dst,.lookup t x y true,ty,pos,aft,g⟩ (.tuple #[v,.bool true]):=by
  have:=FD (C:=C) (R:=R) (H:=H) (dst:=dst) (ty:=ty) (pos:=pos) (aft:=aft) (g:=g) h hk ht hkt hz hm
  rw [hv] at this;exact this
theorem FE {t:TypeId}:Loud C R H L ⟨dst,.makeMap t none,ty,pos,aft,g⟩ (fun v H'=>∃ b,v=.map (some b)∧H'=sng b (mapV [])::H):=FP
theorem run_mapUpdateV {P:Program} {w:World} {t kt et:TypeId} {b:Nat} {k:Int} {v:Value} {l:List (Int × Value)} (ht:P.underlying t=some (.map kt et)) (hkt:P.underlying kt=some (.int .i64)) (hg:w.heap[b]?=some (mapV l)) :
    (Instr.mapUpdate t (.map (some b)) (int k) (v)).run P w=.ok () { w with heap:=w.heap.setIfInBounds b (mapV (msev k v l)) }:=by
  have hf:=run_findKeyV (P:=P) (w:=w) (k:=k) (l:=l) hkt
  have hc:=fun e=>run_checkKey (P:=P) (w:=w) (k:=k) e 9999 hkt
  simp only [Nat.reduceAdd] at hc
  cases hm:midv k l with
  | none =>
    rw [hm] at hf
    obtain ⟨e,n⟩:=msev_none (k:=k) (v:=v) 0 hm
    have e2:mapV (msev k v l)=.map ((entv 0 l).toArray.push ⟨int k,v,l.length⟩) (l.length+1):=by
      unfold mapV; rw [n,← e]; simp
    rw [e2]
    simp [Instr.mapUpdate,Go.underlying,Sem.run,ht,getObj,hg,mapV,hc,hf,setObj]
    done
  | some p =>
    rw [hm] at hf
    obtain ⟨e,n,n2,n3⟩:=msev_some (k:=k) (v:=v) 0 p.1 p.2 hm
    have e2:mapV (msev k v l)=.map ((entv 0 l).toArray.modify p.1 (fun e=>{ e with key:=int k,val:=v })) l.length:=by
      unfold mapV; rw [n,← e]; simp
    rw [e2]
    have hsb:Instr.sameBits 10000 (int k) (int k)=true:=by simp [Instr.sameBits,int]
    have hks:(Instr.keyThatStays (int k) (int k)).run P w=.ok (int k) w:=by simp [Instr.keyThatStays,hsb]
    simp [Instr.mapUpdate,Go.underlying,Sem.run,ht,getObj,hg,mapV,hc,hf,setObj,n3,hks]
    done
theorem DR {x y z:Operand} {t kt et:TypeId} {b:Nat} {k:Int} {v:Value} {l:List (Int × Value)} {H':List PH} (h:evalE L x=some (.map (some b))) (hk:evalE L y=some (int k)) (hv:evalE L z=some (v)) (ht:C.P.underlying t=some (.map kt et)) (hkt:C.P.underlying kt=some (.int .i64)) (hm:Take (sng b (mapV l)) H H') :
    Loud C R H L ⟨dst,.insert t x y z,ty,pos,aft,g⟩ (fun u H2=>u=undef∧H2=sng b (mapV (msev k v l))::H'):=by
  refine ⟨fun a w hx hs next Q hnx=>?_⟩
  have hg:=hs.own hm
  have e1:=hx x (by simp [Op.operands]) _ h
  have e2:=hx y (by simp [Op.operands]) _ hk
  have e3:=hx z (by simp [Op.operands]) _ hv
  refine wpIn_skipv (w':={ w with heap:=w.heap.setIfInBounds b (mapV (msev k v l)) }) (by intro c; simp) ?_ (hnx _ _ _ ⟨rfl,rfl⟩ (hs.turn hm ?_ ?_ ?_))
  · simp [execOp,e1,e2,e3,run_mapUpdateV ht hkt hg]
  · simp
  · have:b<w.heap.size:=by
      rw [Array.getElem?_eq_some_iff] at hg; exact hg.1
    simp [this]
  · intro k hk; simp [Array.getElem?_setIfInBounds,Ne.symm hk]
end Go.Eng
namespace Go.Eng
variable {C:Cx} {D:List Deferred} {R Hf H:List PH} {L:Env} {K:List It} {ps ls:List Nat}
theorem Prom.mv {all:Array Oper} {o:Oper} {v:Value} {H':List PH} (h:Prom C R H L all o v) {x:Operand} (hx:o.op=.move x) {w0:World} (hs:Sat C.N R H w0):Prom C R H' L all o v:=by
  rcases h with ⟨h1,h2⟩|h
  · refine .inl ⟨h1,h2.nd,fun a w hon _=>?_⟩
    have:=h2.run a w0 hon hs
    simp only [execOp,hx] at this ⊢
    simpa using this
  · exact .inr h
end Go.Eng
namespace Go.Proofs.YtahbngakckbenaaGreatDoor
open Go.Eng Go.Step
set_option maxRecDepth 100000
set_option maxHeartbeats 64000000
theorem sndMissing_spec {ρ:PH} {c:Ct} {se e busy sr due st:Int} {d:List UInt8} {K:Iv} {p:Option Addr} {k:Nat} (hv:SpAt ρ (.slice p K.length k) K) (hn1:1≤d.length) (hn:d.length≤990) (hK:InI d.length K) :
  Makes Tryz.prog (fv 130) [.agg #[int c.f,int c.t,int c.s,int c.e,int c.r,int c.g,int c.l,int se,str d,int e,int busy,int sr,.slice p K.length k,int due,int st]] [ρ] (fun r σ=>∃ p' c',r=.slice p' (missI d.length K).length c'∧OwnS 49 2 (.slice p' (missI d.length K).length c') (missI d.length K).length ((missI d.length K).flatMap encS) σ):=by
 have hKl:=hK.len (by omega)
 have hwh:=InI.whole (n:=(d.length:Int)) (by omega)
 have hw:=sndWhole_spec d
 have hMi:=fun bn=>snMinus_spec (sng bn (.cells #[int 0,int (d.length:Int)] 49 (0,0))) ρ (.slice (some ⟨bn,0,none⟩) 1 1) _ [((0:Int),(d.length:Int))] K (slE_sng (l:=[((0:Int),(d.length:Int))]) encS_len) hv (hwh.chk (by omega) (by omega)) (hK.chk (by omega) (by omega)) (by simp; omega)
 refine spec_in (cap:=[]) Tryz.func130 rfl rfl Tryz.ntmps130 rfl envZ (fun N β=>?_)
 refine Aa ?_;refine BK (BM rfl) rfl rfl rfl ?_;rintro _ _ ⟨b1,rfl,rfl⟩;refine AZ (ρ:=sng b1 _) takeZ ?_
 have cs:=rdB b1 83 [int c.f,int c.t,int c.s,int c.e,int c.r,int c.g,int c.l,int se,str d,int e,int busy,int sr,.slice p K.length k,int due,int st]
 have cs0:=rdC cs 0
 have cs1:=rdC cs 1
 have cs2:=rdC cs 2
 have cs3:=rdC cs 3
 have cs4:=rdC cs 4
 have cs5:=rdC cs 5
 have cs6:=rdC cs 6
 have cs7:=rdC cs 7
 have cs8:=rdC cs 8
 have cs9:=rdC cs 9
 have cs10:=rdC cs 10
 have cs11:=rdC cs 11
 have cs12:=rdC cs 12
 have cs13:=rdC cs 13
 have cs14:=rdC cs 14
 refine Aaa ?_;refine AD ?_
 refine BD (.q 0 (.q 1 (.q 3 (.q 4 (.l 2 .e (.l 5 .e (.q 6 (.q 7 (.q 8 (.q 9 (.q 10 .nil))))))))))) [] rfl (by kernel_rfl) selZ ?_
 refine Ac9 ?_;refine BL (CY rfl hw rfl rfl rdZ rfl rfl ?_);rintro _ _ ⟨bn,rfl,rfl⟩
 skip
 refine BL (BO rfl (hMi bn) rfl rfl rdZ rfl rfl ?_);rintro _ _ ⟨σ,⟨p',c',rfl,hO⟩,rfl⟩;refine AJ ?_;refine A2 ?_;refine A2 ?_;refine Abk ?_;refine Abn ?_;exact AK (res1 rfl rfl) rsubZ selZ ⟨σ,⟨p',c',rfl,hO⟩,rfl⟩
theorem sndBatch_spec {ρ:PH} {c:Ct} {se e busy sr due st:Int} {d:List UInt8} {K:Iv} {p:Option Addr} {k:Nat} (hv:SpAt ρ (.slice p K.length k) K) (hn1:1≤d.length) (hn:d.length≤990) (hK:InI d.length K) (hw:K≠[((0:Int),(d.length:Int))]) (hse:0≤se∧se≤1099511627776) (hsr:0≤sr∧sr+1≤1099511627776) :
  Makes Tryz.prog (fv 79) [.agg #[int c.f,int c.t,int c.s,int c.e,int c.r,int c.g,int c.l,int se,str d,int e,int busy,int sr,.slice p K.length k,int due,int st]] [ρ] (fun r σ=>∃ p' c',r=.slice p' (bat (sr+1) (pcsAll (missI d.length K))).length c'∧OwnS 37 8 (.slice p' (bat (sr+1) (pcsAll (missI d.length K))).length c') (bat (sr+1) (pcsAll (missI d.length K))).length ((bat (sr+1) (pcsAll (missI d.length K))).flatMap (encG se d)) σ):=by
 have hmi:=sndMissing_spec (c:=c) (se:=se) (e:=e) (busy:=busy) (sr:=sr) (due:=due) (st:=st) hv hn1 hn hK
 have hMo:=(missI_ok hK (by omega)).1
 have hMn:=missI_ne hK (by omega) hw
 have hba:=fun {ρ:PH} {v:Value} (hv:SpAt ρ v (missI d.length K))=>segBatch_spec (se:=se) (sr:=sr+1) hv hMo hMn hn1 (by omega) hse (by omega)
 refine spec_in (cap:=[]) Tryz.func79 rfl rfl Tryz.ntmps79 rfl envZ (fun N β=>?_)
 refine Aa ?_;refine BK (BM rfl) rfl rfl rfl ?_;rintro _ _ ⟨b1,rfl,rfl⟩;refine AZ (ρ:=sng b1 _) takeZ ?_
 have cs:=rdB b1 83 [int c.f,int c.t,int c.s,int c.e,int c.r,int c.g,int c.l,int se,str d,int e,int busy,int sr,.slice p K.length k,int due,int st]
 have cs0:=rdC cs 0
 have cs1:=rdC cs 1
 have cs2:=rdC cs 2
 have cs3:=rdC cs 3
 have cs4:=rdC cs 4
 have cs5:=rdC cs 5
 have cs6:=rdC cs 6
 have cs7:=rdC cs 7
 have cs8:=rdC cs 8
 have cs9:=rdC cs 9
 have cs10:=rdC cs 10
 have cs11:=rdC cs 11
 have cs12:=rdC cs 12
 have cs13:=rdC cs 13
 have cs14:=rdC cs 14
 refine Aaa ?_;refine AD ?_
 refine BD (.q 0 (.q 1 (.q 2 (.q 3 (.q 4 (.q 5 (.q 6 (.q 7 (.l 8 .e (.l 9 .e (.q 10 (.q 11 (.q 12 (.q 13 (.q 14 .nil))))))))))))))) [] rfl (by kernel_rfl) selZ ?_
 refine Ac9 ?_;refine EL ?_;refine Aaj ?_;refine B8 ?_;refine BL (BO rfl hmi rfl rfl rdZ rfl rfl ?_);rintro _ _ ⟨σ,⟨p',c',rfl,hO⟩,rfl⟩
 skip
 refine BL (BO rfl (hba hO.at) rfl rfl rdZ rfl rfl ?_);rintro _ _ ⟨σ2,⟨p2,c2,rfl,hO2⟩,rfl⟩;refine AJ ?_;refine A2 ?_;refine A2 ?_;refine Abk ?_;refine Abn ?_;exact AK (res1 rfl rfl) rsubZ selZ ⟨σ2,⟨p2,c2,rfl,hO2⟩,rfl⟩
theorem sndStart_spec (c:Ct) {se t0 e:Int} {d:List UInt8} (hn:d.length≤990) (hse:0≤se∧se≤1099511627776) :
  Eng.Spec Tryz.prog (fv 36) [.agg #[int c.f,int c.t,int c.s,int c.e,int c.r,int c.g,int c.l],int se,str d,int t0,int e] [] [] (fun r H'=>(stE c d t0 e≠0∧r=.tuple #[.agg #[int 0,int 0,int 0,int 0,int 0,int 0,int 0,int 0,str [],int 0,int 0,int 0,.slice none 0 0,int 0,int 0],.slice none 0 0,int (stE c d t0 e)]∧H'=[]) ∨
   (stE c d t0 e=0∧(chkCt c=0∧1≤d.length∧c.s≤t0∧t0≤e∧e≤c.e∧(endG c.r t0 (bat 1 (pcsAll (missI d.length []))))≤e)∧∃ p' c' σ,r=.tuple #[.agg #[int c.f,int c.t,int c.s,int c.e,int c.r,int c.g,int c.l,int se,str d,int e,int (endG c.r t0 (bat 1 (pcsAll (missI d.length [])))),int 1,.slice none 0 0,int ((endG c.r t0 (bat 1 (pcsAll (missI d.length []))))+2*c.g+1),int 1],.slice p' (bat 1 (pcsAll (missI d.length []))).length c',int 0]∧OwnS 39 9 (.slice p' (timed c.r t0 (bat 1 (pcsAll (missI d.length [])))).length c') (timed c.r t0 (bat 1 (pcsAll (missI d.length [])))).length ((timed c.r t0 (bat 1 (pcsAll (missI d.length [])))).flatMap (encO se d)) σ∧H'=[σ])):=by
 have hcc:=ctCheck_spec c
 obtain ⟨h6,h7⟩:=hse
 refine spec_in (cap:=[]) Tryz.func36 rfl rfl Tryz.ntmps36 rfl envZ (fun N β=>?_)
 refine CB ?_;refine AZ (ρ:=emp) takeZ ?_;refine Aa ?_;refine BK (BM rfl) rfl rfl rfl ?_;rintro _ _ ⟨b5,rfl,rfl⟩;refine AZ (ρ:=sng b5 _) takeZ ?_
 have cc:=rdB b5 23 [int c.f,int c.t,int c.s,int c.e,int c.r,int c.g,int c.l]
 have cc0:=rdC cc 0
 have cc1:=rdC cc 1
 have cc2:=rdC cc 2
 have cc3:=rdC cc 3
 have cc4:=rdC cc 4
 have cc5:=rdC cc 5
 have cc6:=rdC cc 6
 refine A6 ?_; rintro _ _ ⟨b,rfl,rfl⟩;refine Ac7 ?_
 revert b; intro b10
 by_cases hc:chkCt c=0
 rotate_left
 ·have hE:stE c d t0 e=1:=if_pos hc
  refine AW hcc rfl rfl rdZ rfl rfl ?_;rintro _ rfl;refine DB ?_;refine Acr ?_
  focus ((refine BQ (CE (out:=[int 0,int 0,int 0,int 0,int 0,int 0,int 0,int 0,str [],int 0,int 0,int 0,.slice none 0 0,int 0,int 0]) rfl rfl rfl rfl rfl) rfl rfl rfl ?_))
  refine AX ?_; rintro _ _ ⟨rfl,rfl⟩;refine Aai ?_
  exact AK (resSEE (b1:=b10) (T:=83) (v1:=[int 0,int 0,int 0,int 0,int 0,int 0,int 0,int 0,str [],int 0,int 0,int 0,.slice none 0 0,int 0,int 0]) rfl rfl rfl rfl rfl rfl (cells_own memZ)) rsubZ selZ (.inl ⟨by rw [hE]; decide,by rw [hE],rfl⟩)
 rw [hc] at hcc;refine AW hcc rfl rfl rdZ rfl rfl ?_;rintro _ rfl;refine Abh ?_;refine Aah ?_;refine AW (sndIn_spec h6 h7) rfl rfl rdZ rfl rfl ?_;rintro _ rfl;refine Abm ?_;refine Aah ?_;refine BQ (EU rfl rfl) rfl rfl rfl ?_
 by_cases hd:d=[]
 ·have hE:stE c d t0 e=20:=by unfold stE; rw [if_neg (fun h=>h hc),if_pos hd]
  rw [show (d == [])=true by rw [hd]; rfl]
  refine Acr ?_
  focus ((refine BQ (CE (out:=[int 0,int 0,int 0,int 0,int 0,int 0,int 0,int 0,str [],int 0,int 0,int 0,.slice none 0 0,int 0,int 0]) rfl rfl rfl rfl rfl) rfl rfl rfl ?_))
  refine AX ?_; rintro _ _ ⟨rfl,rfl⟩;refine Aai ?_
  exact AK (resSEE (b1:=b10) (T:=83) (v1:=[int 0,int 0,int 0,int 0,int 0,int 0,int 0,int 0,str [],int 0,int 0,int 0,.slice none 0 0,int 0,int 0]) rfl rfl rfl rfl rfl rfl (cells_own memZ)) rsubZ selZ (.inl ⟨by rw [hE]; decide,by rw [hE],rfl⟩)
 have hd0:(d == [])=false:=by
  cases d with
  | nil=>exact absurd rfl hd
  | cons _ _=>rfl
 have hn1:1≤d.length:=List.length_pos_iff.2 hd
 rw [hd0];refine Acm ?_
 focus ((refine' BQ _ rfl rfl rfl _; rotate_left; (apply B4; exact rfl; exact rfl)))
 refine BP ?_;refine Acm ?_;refine Aae ?_
 by_cases hb:c.s≤t0∧t0≤e∧e≤c.e
 rotate_left
 ·have hE:stE c d t0 e=2:=by unfold stE; rw [if_neg (fun h=>h hc),if_neg hd,if_pos hb]
  by_cases hb1:t0<c.s
  ·refine CC ?_
   refine Ab9 ?_;refine A4 ?_;refine Abv ?_;refine Abr ?_;refine Aa ?_
   focus ((refine BQ (CE (out:=[int 0,int 0,int 0,int 0,int 0,int 0,int 0,int 0,str [],int 0,int 0,int 0,.slice none 0 0,int 0,int 0]) rfl rfl rfl rfl rfl) rfl rfl rfl ?_))
   refine AX ?_; rintro _ _ ⟨rfl,rfl⟩;refine Aai ?_
   exact AK (resSEE (b1:=b10) (T:=83) (v1:=[int 0,int 0,int 0,int 0,int 0,int 0,int 0,int 0,str [],int 0,int 0,int 0,.slice none 0 0,int 0,int 0]) rfl rfl rfl rfl rfl rfl (cells_own memZ)) rsubZ selZ (.inl ⟨by rw [hE]; decide,by rw [hE],rfl⟩)
  ·by_cases hb2:e<t0
   ·refine BN ?_
    refine Abl ?_;refine C9 ?_;refine AR ?_;refine Abv ?_;refine Abr ?_;refine Aa ?_
    focus ((refine BQ (CE (out:=[int 0,int 0,int 0,int 0,int 0,int 0,int 0,int 0,str [],int 0,int 0,int 0,.slice none 0 0,int 0,int 0]) rfl rfl rfl rfl rfl) rfl rfl rfl ?_))
    refine AX ?_; rintro _ _ ⟨rfl,rfl⟩;refine Aai ?_
    exact AK (resSEE (b1:=b10) (T:=83) (v1:=[int 0,int 0,int 0,int 0,int 0,int 0,int 0,int 0,str [],int 0,int 0,int 0,.slice none 0 0,int 0,int 0]) rfl rfl rfl rfl rfl rfl (cells_own memZ)) rsubZ selZ (.inl ⟨by rw [hE]; decide,by rw [hE],rfl⟩)
   ·refine BN ?_
    refine Abl ?_;refine Acu ?_;refine Aak ?_;refine Aae ?_;refine C9 ?_;refine AR ?_;refine Acr ?_
    focus ((refine BQ (CE (out:=[int 0,int 0,int 0,int 0,int 0,int 0,int 0,int 0,str [],int 0,int 0,int 0,.slice none 0 0,int 0,int 0]) rfl rfl rfl rfl rfl) rfl rfl rfl ?_))
    refine AX ?_; rintro _ _ ⟨rfl,rfl⟩;refine Aai ?_
    exact AK (resSEE (b1:=b10) (T:=83) (v1:=[int 0,int 0,int 0,int 0,int 0,int 0,int 0,int 0,str [],int 0,int 0,int 0,.slice none 0 0,int 0,int 0]) rfl rfl rfl rfl rfl rfl (cells_own memZ)) rsubZ selZ (.inl ⟨by rw [hE]; decide,by rw [hE],rfl⟩)
 obtain ⟨hb1,hb2,hb3⟩:=hb
 have hcs:=chkCt_se hc
 have hnil:([]:Iv)≠[((0:Int),(d.length:Int))]:=by simp
 have hba:=sndBatch_spec (ρ:=emp) (c:=⟨0,0,0,0,0,0,0⟩) (se:=se) (e:=0) (busy:=0) (sr:=0) (due:=0) (st:=0) (d:=d) (K:=[]) (p:=none) (k:=0) ((OwnS.nil 49 2).at) hn1 hn (InI.nil _) hnil ⟨h6,h7⟩ (by omega)
 obtain ⟨hMo,_⟩:=missI_ok (InI.nil (d.length:Int)) (by omega)
 have hMn:=missI_ne (InI.nil (d.length:Int)) (by omega) hnil
 have hG:=bat_ok (sr:=1) hMo (by omega) (by omega)
 obtain ⟨x,hx,hxs⟩:=bat_last (sr:=1) (pcsAll_ne hMo.1 (fun x hx=>(hMo.at x hx).1) hMn)
 have hbl:(bat 1 (pcsAll (missI d.length []))).length≤1000000:=by rw [bat_len]; have:=pcsAll_len hMo (by omega); omega
 have hse2:=fun {ρ:PH} {v:Value} (hv:SlE (encG se d) 8 ρ v (bat 1 (pcsAll (missI d.length []))))=>sndSend_spec (c:=c) (se:=se) (e:=e) (busy:=0) (sr:=0) (due:=0) (st:=0) (t0:=t0) (K:=[]) (p:=none) (k:=0) hv hG hn ⟨h6,h7⟩ hc hb3 (by omega) hbl hx
 rw [hxs] at hse2
 have hst:stE c d t0 e=if e<(endG c.r t0 (bat 1 (pcsAll (missI d.length [])))) then 16 else 0:=by unfold stE; rw [if_neg (fun h=>h hc),if_neg hd,if_neg (fun h=>h ⟨hb1,hb2,hb3⟩)]
 have z1:(0:Int)+1=1:=rfl
 simp only [z1] at hba
 generalize hGG:(bat 1 (pcsAll (missI d.length [])))=G at *
 generalize hEE:endG c.r t0 G=E at *
 refine BN ?_;refine Abl ?_;refine Acu ?_;refine Aak ?_;refine Aae ?_;refine BP ?_;refine Aa3 ?_;refine AD ?_
 refine C3 (X:=Nat × List Value × Value × List PH) [5,10] (fun z=>(e<E∧z.2.1=[int c.f,int c.t,int c.s,int c.e,int c.r,int c.g,int c.l,int se,str d,int e,int 0,int 0,.slice none 0 0,int 0,int 3]∧z.2.2.1=.slice none 0 0∧z.2.2.2=[])∨(E≤e∧z.2.1=[int c.f,int c.t,int c.s,int c.e,int c.r,int c.g,int c.l,int se,str d,int e,int E,int 1,.slice none 0 0,int (E+2*c.g+1),int 1]∧∃ p2 c2 σ2,z.2.2.1=.slice p2 G.length c2∧OwnS 39 9 (.slice p2 (timed c.r t0 G).length c2) (timed c.r t0 G).length ((timed c.r t0 G).flatMap (encO se d)) σ2∧z.2.2.2=[σ2])) (fun z=>[(13,.pointer (some ⟨z.1,0,none⟩)),(14,z.2.2.1)]) (fun z=>sng z.1 (.cells z.2.1.toArray 83 (0,0))::sng b10 (.cells #[int 0,int 0,int 0,int 0,int 0,int 0,int 0,int 0,str [],int 0,int 0,int 0,.slice none 0 0,int 0,int 0] 83 (0,0))::z.2.2.2) pickZ ?_ ?_
 ·refine BD (.q 0 (.q 1 (.q 2 (.q 3 (.q 4 (.q 5 (.q 6 (.q 7 (.q 8 (.l2 9 .e (.l2 10 .e (.q 11 (.q 12 (.p 13 (.l 14 .e (.l 15 .b (.q 16 .nil)))))) 14 .e (.l 10 .e (.q 11 (.q 12 (.p 13 (.l 15 .b (.q 16 .nil))))))) 14 .e (.l 9 .e (.l 10 .e (.q 11 (.q 12 (.p 13 (.l 15 .b (.q 16 .nil))))))))))))))))) [] rfl (by kernel_rfl) Sel.nil ?_
  repeat' (first
   | (refine AJ ?_)
   | (refine B8 ?_)
   | (focus ((refine CF rfl (CE (out:=[int c.f,int c.t,int c.s,int c.e,int c.r,int c.g,int c.l,int se,str d,int e,int 0,int 0,.slice none 0 0,int 0,int 0]) rfl rfl rfl rfl rfl) rfl rfl rfl rfl ?_)))
   | (focus ((refine CF rfl (CE (out:=[int 0,int 0,int 0,int 0,int 0,int 0,int 0,int se,str d,int 0,int 0,int 0,.slice none 0 0,int 0,int 0]) rfl rfl rfl rfl rfl) rfl rfl rfl rfl ?_)))
   | (refine CZ ?_ ?_)
   | (refine BZ ?_; rintro _ _ ⟨b,rfl,rfl⟩)
   | fail)
  ·refine BO rfl hba rfl rfl rdZ rfl rfl ?_
   rintro _ _ ⟨σ,⟨p',c',rfl,hO⟩,rfl⟩
   repeat' (first
    | (refine CZ ?_ ?_)
    | (refine BZ ?_; rintro _ _ ⟨b,rfl,rfl⟩)
    | fail)
   ·refine BO rfl (hse2 hO.at) rfl rfl rdZ rfl rfl ?_
    rintro _ _ (⟨hlate,rfl,rfl⟩|⟨hok,p2,c2,σ2,rfl,hO2,rfl⟩)
    ·refine AJ ?_
     refine Aau ?_;refine BV ?_; rintro _ _ ⟨b,rfl,rfl⟩
     revert b; intro b13
     skip
     refine BL ?_;refine' CG rfl _ rfl rfl _ _
     rotate_left
     ·apply A9; exact rfl; exact rfl; exact takeZ; exact oneZ; exact rfl; exact rfl
     ·rintro _ _ ⟨_,rfl⟩ w hw; exact hw.sel Sel.nil
     rintro _ _ ⟨rfl,rfl⟩;refine Aam ?_
     skip
     exact BB (b13,[int c.f,int c.t,int c.s,int c.e,int c.r,int c.g,int c.l,int se,str d,int e,int 0,int 0,.slice none 0 0,int 0,int 3],.slice none 0 0,[]) (.inl ⟨hlate,rfl,rfl,rfl⟩) covZ selZ
    ·refine AJ ?_
     refine Aau ?_;refine BV ?_; rintro _ _ ⟨b,rfl,rfl⟩
     revert b; intro b13
     skip
     refine BL ?_;refine' CG rfl _ rfl rfl _ _
     rotate_left
     ·apply A9; exact rfl; exact rfl; exact takeZ; exact oneZ; exact rfl; exact rfl
     ·rintro _ _ ⟨_,rfl⟩ w hw; exact hw.sel Sel.nil
     rintro _ _ ⟨rfl,rfl⟩;refine Aam ?_
     skip
     exact BB (b13,[int c.f,int c.t,int c.s,int c.e,int c.r,int c.g,int c.l,int se,str d,int e,int E,int 1,.slice none 0 0,int (E+2*c.g+1),int 1],.slice p2 G.length c2,[σ2]) (.inr ⟨by omega,rfl,p2,c2,σ2,rfl,hO2,rfl⟩) covZ selZ
   ·revert b; intro b13
    refine BL (BO rfl (hse2 hO.at) rfl rfl rdZ rfl rfl ?_);rintro _ _ (⟨hlate,rfl,rfl⟩|⟨hok,p2,c2,σ2,rfl,hO2,rfl⟩)
    ·refine AJ ?_
     refine Aa8 ?_;refine' CG rfl _ rfl rfl _ _
     rotate_left
     ·apply A9; exact rfl; exact rfl; exact takeZ; exact oneZ; exact rfl; exact rfl
     ·rintro _ _ ⟨_,rfl⟩ w hw; exact hw.sel Sel.nil
     rintro _ _ ⟨rfl,rfl⟩;refine Aam ?_
     skip
     exact BB (b13,[int c.f,int c.t,int c.s,int c.e,int c.r,int c.g,int c.l,int se,str d,int e,int 0,int 0,.slice none 0 0,int 0,int 3],.slice none 0 0,[]) (.inl ⟨hlate,rfl,rfl,rfl⟩) covZ selZ
    ·refine AJ ?_
     refine Aa8 ?_;refine' CG rfl _ rfl rfl _ _
     rotate_left
     ·apply A9; exact rfl; exact rfl; exact takeZ; exact oneZ; exact rfl; exact rfl
     ·rintro _ _ ⟨_,rfl⟩ w hw; exact hw.sel Sel.nil
     rintro _ _ ⟨rfl,rfl⟩;refine Aam ?_
     skip
     exact BB (b13,[int c.f,int c.t,int c.s,int c.e,int c.r,int c.g,int c.l,int se,str d,int e,int E,int 1,.slice none 0 0,int (E+2*c.g+1),int 1],.slice p2 G.length c2,[σ2]) (.inr ⟨by omega,rfl,p2,c2,σ2,rfl,hO2,rfl⟩) covZ selZ
  ·revert b; intro b13
   refine BL (BO rfl hba rfl rfl rdZ rfl rfl ?_);rintro _ _ ⟨σ,⟨p',c',rfl,hO⟩,rfl⟩
   skip
   refine BL (BO rfl (hse2 hO.at) rfl rfl rdZ rfl rfl ?_);rintro _ _ (⟨hlate,rfl,rfl⟩|⟨hok,p2,c2,σ2,rfl,hO2,rfl⟩)
   ·refine AJ ?_
    refine Aa8 ?_;refine' CG rfl _ rfl rfl _ _
    rotate_left
    ·apply A9; exact rfl; exact rfl; exact takeZ; exact oneZ; exact rfl; exact rfl
    ·rintro _ _ ⟨_,rfl⟩ w hw; exact hw.sel Sel.nil
    rintro _ _ ⟨rfl,rfl⟩;refine Aam ?_
    skip
    exact BB (b13,[int c.f,int c.t,int c.s,int c.e,int c.r,int c.g,int c.l,int se,str d,int e,int 0,int 0,.slice none 0 0,int 0,int 3],.slice none 0 0,[]) (.inl ⟨hlate,rfl,rfl,rfl⟩) covZ selZ
   ·refine AJ ?_
    refine Aa8 ?_;refine' CG rfl _ rfl rfl _ _
    rotate_left
    ·apply A9; exact rfl; exact rfl; exact takeZ; exact oneZ; exact rfl; exact rfl
    ·rintro _ _ ⟨_,rfl⟩ w hw; exact hw.sel Sel.nil
    rintro _ _ ⟨rfl,rfl⟩;refine Aam ?_
    skip
    exact BB (b13,[int c.f,int c.t,int c.s,int c.e,int c.r,int c.g,int c.l,int se,str d,int e,int E,int 1,.slice none 0 0,int (E+2*c.g+1),int 1],.slice p2 G.length c2,[σ2]) (.inr ⟨by omega,rfl,p2,c2,σ2,rfl,hO2,rfl⟩) covZ selZ
 rintro ⟨b13,vs,u,Hl⟩ hz
 dsimp only at hz ⊢
 rcases hz with ⟨hlate,rfl,rfl,rfl⟩|⟨hok,rfl,p2,c2,σ2,rfl,hO2,rfl⟩
 ·have hE:stE c d t0 e=16:=by rw [hst,if_pos hlate]
  refine AZ (ρ:=sng b13 (.cells #[int c.f,int c.t,int c.s,int c.e,int c.r,int c.g,int c.l,int se,str d,int e,int 0,int 0,.slice none 0 0,int 0,int 3] 83 (0,0))) takeZ ?_
  have bx447_3:=rdB b13 83 [int c.f,int c.t,int c.s,int c.e,int c.r,int c.g,int c.l,int se,str d,int e,int 0,int 0,.slice none 0 0,int 0,int 3]
  have s14:=rdC bx447_3 14
  refine Aba ?_;refine CM ?_;refine Acr ?_
  focus ((refine BQ (CE (out:=[int 0,int 0,int 0,int 0,int 0,int 0,int 0,int 0,str [],int 0,int 0,int 0,.slice none 0 0,int 0,int 0]) rfl rfl rfl rfl rfl) rfl rfl rfl ?_))
  refine AX ?_; rintro _ _ ⟨rfl,rfl⟩;refine Aai ?_
  exact AK (resSEE (b1:=b10) (T:=83) (v1:=[int 0,int 0,int 0,int 0,int 0,int 0,int 0,int 0,str [],int 0,int 0,int 0,.slice none 0 0,int 0,int 0]) rfl rfl rfl rfl rfl rfl (cells_own memZ)) rsubZ selZ (.inl ⟨by rw [hE]; decide,by rw [hE],rfl⟩)
 ·have hE:stE c d t0 e=0:=by rw [hst,if_neg (by omega)]
  refine AZ (ρ:=sng b13 (.cells #[int c.f,int c.t,int c.s,int c.e,int c.r,int c.g,int c.l,int se,str d,int e,int E,int 1,.slice none 0 0,int (E+2*c.g+1),int 1] 83 (0,0))) takeZ ?_
  have bx466_3:=rdB b13 83 [int c.f,int c.t,int c.s,int c.e,int c.r,int c.g,int c.l,int se,str d,int e,int E,int 1,.slice none 0 0,int (E+2*c.g+1),int 1]
  have s14:=rdC bx466_3 14
  have sw:=rdB b13 83 [int c.f,int c.t,int c.s,int c.e,int c.r,int c.g,int c.l,int se,str d,int e,int E,int 1,.slice none 0 0,int (E+2*c.g+1),int 1]
  refine Aba ?_;refine Ac5 ?_;refine Aaz ?_;refine AB ?_;refine AX ?_; rintro _ _ ⟨rfl,rfl⟩;refine Aai ?_;exact AK (H':=[σ2]) (resSEE (b1:=b10) (T:=83) (v1:=[int c.f,int c.t,int c.s,int c.e,int c.r,int c.g,int c.l,int se,str d,int e,int E,int 1,.slice none 0 0,int (E+2*c.g+1),int 1]) rfl rfl rfl rfl rfl rfl (cells_own memZ)) rsubZ selZ (.inr ⟨hE,⟨hc,hn1,hb1,hb2,hb3,hok⟩,p2,c2,σ2,rfl,hO2,rfl⟩)
end Go.Proofs.YtahbngakckbenaaGreatDoor
