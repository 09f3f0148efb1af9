/- Texts of this proof, one after the other; no conditions. -/
import Derived.Test.YtnijkofdlepfjaaGreatWA
import Derived.Lib.LazyBuf
import Derived.Test.YtnijkofdlepfjaaGreatWB0
set_option linter.all false
namespace Go.Eng
section
variable {C:Cx} {D:List Deferred} {R H Hf:List PH} {L:Env} {K:List It} {ps ls:List Nat}
inductive Kd where
  | e|b
def iG (all:Array Oper) (i:Nat):List Nat:=match all[i]? with
  | some o=>o.after.toList.filterMap (fun e=>if Region.binds .any e then some e.on else none)
  | none=>[]
def gP (all:Array Oper) (i:Nat):List Nat:=match all[i]? with
  | some o=>o.dst.toList
  | none=>[]
def kQ (all:Array Oper) (i:Nat):List Nat:=match all[i]? with
  | some o=>iK all o
  | none=>[]
def lQ (all:Array Oper) (done:List Nat):List Nat:=
  (List.range all.size).filter fun i=>!done.contains i && (iG all i).all (done.contains ·)
def qU (all:Array Oper):Nat->List Nat->List Nat->List Nat
  | 0,_,acc=>acc
  | _,[],acc=>acc
  | f+1,j::todo,acc=>if acc.contains j then qU all f todo acc else qU all f (iG all j ++ todo) (j::acc)
def pN (all:Array Oper) (done:List Nat) (i:Nat):Bool:=
  (gP all i).all fun d=>!(kQ all i).contains d && done.all fun j=>!(kQ all j).contains d && !(gP all j).contains d
def tN (all:Array Oper) (done:List Nat) (i:Nat):Bool:=
  done.all fun j=>(gP all j).all fun d=>!(kQ all i).contains d || (iG all i).contains j
inductive Pl where
  | nil
  | q (i:Nat) (r:Pl)
  | p (i:Nat) (r:Pl)
  | l (i:Nat) (k:Kd) (r:Pl)
  | l2 (i:Nat) (k:Kd) (r:Pl) (j:Nat) (k':Kd) (r':Pl)
  | l3 (i:Nat) (k:Kd) (r:Pl) (j:Nat) (k':Kd) (r':Pl) (m:Nat) (k'':Kd) (r'':Pl)
def aEz (all:Array Oper) (done:List Nat) (i:Nat):Bool:=(lQ all done).contains i && pN all done i && tN all done i
def nU (all:Array Oper) (done ps ls:List Nat) (i:Nat):Kd->Bool
  | .e=>pN all done i && tN all done i
  | .b=>done.all fun j=>((qU all (all.size*all.size) (iG all i) []).contains j || ls.contains j) || (ps.contains j && pN all [j] i && tN all [j] i)
def kA (all:Array Oper):List Nat->List Nat->List Nat->Pl->Bool
  | done,_,_,.nil=>(lQ all done).isEmpty
  | done,ps,ls,.q i r=>aEz all done i && kA all (i::done) ps ls r
  | done,ps,ls,.p i r=>aEz all done i && kA all (i::done) (i::ps) ls r
  | done,ps,ls,.l i k r=>lQ all done == [i] && (nU all done ps ls i k && kA all (i::done) ps (i::ls) r)
  | done,ps,ls,.l2 i k r j k' r'=>lQ all done == [i,j] && ((nU all done ps ls i k && kA all (i::done) ps (i::ls) r) && (nU all done ps ls j k' && kA all (j::done) ps (j::ls) r'))
  | done,ps,ls,.l3 i k r j k' r' m k'' r''=>lQ all done == [i,j,m] && ((nU all done ps ls i k && kA all (i::done) ps (i::ls) r) && ((nU all done ps ls j k' && kA all (j::done) ps (j::ls) r') && (nU all done ps ls m k'' && kA all (m::done) ps (m::ls) r'')))
def isL (listed:Array Bool) (i:Nat):Prop:=listed.getD i true=true
theorem mem_ready {all:Array Oper} {listed:Array Bool} {i:Nat}:i∈Region.ready .any all listed↔i<all.size/\¬ isL listed i/\∀ j∈iG all i,listed.getD j false=true:=by
  unfold Region.ready isL iG;simp only [bT,List.mem_range,aJ,dH]
  constructor
  · rintro ⟨h1,h2,h3⟩
    refine ⟨h1,by simp [h2],?_⟩
    rw [Array.getElem?_eq_getElem h1] at h3 ⊢;simp only [fC,cO,Array.all_eq_true',eG,dH] at h3
    intro j hj
    simp only [eJ] at hj
    obtain ⟨e,he,hje⟩:=hj
    split at hje
    · rename_i hb
      simp at hje; subst hje
      rcases h3 e (by simpa using he) with h|h
      · rw [hb] at h; simp at h
      · exact h
    · simp at hje
  · rintro ⟨h1,h2,h3⟩
    refine ⟨h1,by simpa using h2,?_⟩
    rw [Array.getElem?_eq_getElem h1] at h3 ⊢;simp only [fC,cO,Array.all_eq_true',eG,dH]
    intro e he
    cases hb:Region.binds .any e with
    | false=>exact .inl rfl
    | true=>exact .inr (h3 e.on (by simp only [eJ]; exact ⟨e,by simpa using he,by simp [hb]⟩))
theorem kH {all:Array Oper} {done:List Nat} {i:Nat}:i∈lQ all done↔i<all.size/\i∉done/\∀ j∈iG all i,j∈done:=by
  unfold lQ
  simp [bT]
def wQ (C:Cx) (R H:List PH) (L:Env) (all:Array Oper) (o:Oper) (v:Value):Prop:=
  (gT all L o=some true/\fO C R H L o v)\/(gT all L o=some false/\v=undef)
def aPz (all:Array Oper):List Nat->Prop
  | []=>True
  | i::rest=>i<all.size/\(∀ j∈iG all i,j∈rest)/\aPz all rest
structure tO (C:Cx) (D:List Deferred) (R Hf H:List PH) (L:Env) (all:Array Oper) (done ps ls:List Nat) (listed:Array Bool) (fuel:Nat) (a:Act) (w:World):Prop where
  size:listed.size=all.size
  dc:∀ i,i<all.size->isL listed i->∀ j∈iG all i,j<all.size/\isL listed j
  sub:∀ i,i<all.size->isL listed i->i∈done
  fuel:((List.range all.size).filter fun i=>!listed.getD i true).length<=fuel
  tm:a.tmps.size=C.M
  df:a.defers=D
  sat:Sat C.N R H w
  get:∀ t v,look L t=some v->a.tmps.getD t undef=v\/∃ i∈done,¬ isL listed i/\t∈gP all i
  prom:∀ i∈done,¬ isL listed i->∃ o d v,all[i]?=some o/\o.dst=some d/\Nat.blt d C.M=true/\look L d=some v/\wQ C R (if ps.contains i then Hf else H) L all o v
  hf:∀ w,Sat C.N R H w->Sat C.N R Hf w
  lds:∀ i∈ls,isL listed i
  data:∀ i∈done,¬ isL listed i->∀ j∈done,∀ d∈gP all j,d∈kQ all i->j∈iG all i
  uniq:∀ i∈done,¬ isL listed i->∀ j∈done,j≠i->∀ d∈gP all i,d∉gP all j
  chron:aPz all done
theorem gB {listed:Array Bool} {i j:Nat} (hi:i<listed.size):isL (listed.setIfInBounds i true) j↔j=i\/isL listed j:=by
  unfold isL;simp only [aP,cG]
  by_cases e:i=j
  · subst e; simp [hi]
  · have:j≠i:=fun h=>e h.symm
    simp [e,this]
theorem kS {listed:Array Bool} {i n:Nat} (hn:listed.size=n) (hi:i<n):listed.getD i false=true↔isL listed i:=by
  unfold isL;subst hn
  simp [hi]
theorem filter_lt {l:List Nat} {p q:Nat->Bool} {i:Nat} (hi:i∈l) (hp:p i=true) (hq:q i=false) (hqp:∀ j,q j=true->p j=true):(l.filter q).length<(l.filter p).length:=by
  induction l with
  | nil=>simp at hi
  | cons x l ih =>
    have hle:(l.filter q).length<=(l.filter p).length:=by
      clear ih hi
      induction l with
      | nil=>simp
      | cons y l ih =>
        simp only [List.filter_cons]
        cases hqy:q y with
        | true=>simp [hqp y hqy]; omega
        | false=>cases p y <;> simp <;> omega
    simp only [List.filter_cons]
    by_cases e:x=i
    · subst e; simp [hp,hq]; omega
    · have hi':i∈l:=by simp at hi; exact hi.resolve_left (fun h=>e h.symm)
      have:=ih hi'
      cases hqy:q x with
      | true=>simp [hqp x hqy]; omega
      | false=>cases p x <;> simp <;> omega
theorem tO.on {all:Array Oper} {done:List Nat} {listed:Array Bool} {fuel:Nat} {a:Act} {w:World} (h:tO C D R Hf H L all done ps ls listed fuel a w) {m:Nat} {o:Oper} (ho:all[m]?=some o)
    (hd:∀ j∈done,∀ d∈gP all j,d∈kQ all m->j∈iG all m) (hr:m∈Region.ready .any all listed) :
    (∀ t∈iK all o,∀ v,look L t=some v->a.tmps.getD t undef=v):=by
  intro t ht v hv
  rcases h.get t v hv with hg|⟨i,hi,hni,hit⟩
  · exact hg
  · exfalso
    have hp:=hd i hi t hit (by unfold kQ; rw [ho]; exact ht)
    have hl:=(mem_ready.1 hr).2.2 i hp
    apply hni
    unfold isL
    cases hb:listed[i]? with
    | none=>simp [aP,hb]
    | some b=>simp [aP,hb] at hl ⊢; exact hl
theorem aAk {all:Array Oper} {a:Act} {o:Oper} (h:∀ t∈iK all o,∀ v,look L t=some v->a.tmps.getD t undef=v):∀ x∈o.op.operands,OnE L a x:=by
  intro x hx v hv
  cases x with
  | tmp t=>exact h t (by unfold iK; simp only [aM,eJ]; exact .inl ⟨.tmp t,by simpa using hx,rfl⟩) v hv
  | const c=>simp [fM] at hv; simp [Act.eval,hv]
  | global g=>simp [fM] at hv; simp [Act.eval,hv]
  | func f=>simp [fM] at hv; simp [Act.eval,hv]
theorem tO.listed {all:Array Oper} {done:List Nat} {listed:Array Bool} {fuel:Nat} {a:Act} {w:World} (h:tO C D R Hf H L all done ps ls listed (fuel+1) a w) {m:Nat} (hr:m∈Region.ready .any all listed) :
    (listed.setIfInBounds m true).size=all.size/\(∀ i,i<all.size->isL (listed.setIfInBounds m true) i->∀ j∈iG all i,j<all.size/\isL (listed.setIfInBounds m true) j) /\
    ((List.range all.size).filter fun i=>!(listed.setIfInBounds m true).getD i true).length<=fuel:=by
  obtain ⟨h1,h2,h3⟩:=mem_ready.1 hr
  have hms:m<listed.size:=by rw [h.size]; exact h1
  refine ⟨by simp [h.size],fun i hi hl j hj=>?_,?_⟩
  · rcases (gB hms).1 hl with rfl|hl
    · have h4:=h3 j hj
      have hj2:j<all.size:=by
        rw [← h.size]
        cases hb:listed[j]? with
        | none=>simp [aP,hb] at h4
        | some b=>exact (bP.1 hb).1
      exact ⟨hj2,(gB hms).2 (.inr ((kS h.size hj2).1 h4))⟩
    · have:=h.dc i hi hl j hj
      exact ⟨this.1,(gB hms).2 (.inr this.2)⟩
  · have:=filter_lt (l:=List.range all.size) (p:=fun i=>!listed.getD i true) (q:=fun i=>!(listed.setIfInBounds m true).getD i true) (i:=m) (by simpa using h1) (by unfold isL at h2; simpa using h2)
      (by
        have:isL (listed.setIfInBounds m true) m:=(gB hms).2 (.inl rfl)
        unfold isL at this; simp only [this,Bool.not_true])
      (fun j hj=>by
        simp only [dH] at hj ⊢
        have h5:¬ isL (listed.setIfInBounds m true) j:=by unfold isL; simp [hj]
        have h6:¬ isL listed j:=fun h=>h5 ((gB hms).2 (.inr h))
        unfold isL at h6; simpa using h6)
    have:=h.fuel
    omega
theorem uO {all:Array Oper} {listed:Array Bool} (hs:listed.size=all.size):∀ (done:List Nat),aPz all done->(∃ i∈done,¬ isL listed i)->∃ m,m∈Region.ready .any all listed:=by
  intro done
  induction done with
  | nil=>rintro _ ⟨i,hi,_⟩; simp at hi
  | cons k rest ih =>
    rintro ⟨hk,hp,hc⟩ ⟨i,hi,hni⟩
    by_cases hr:∃ i∈rest,¬ isL listed i
    · exact ih hc hr
    · have hall:∀ j∈rest,isL listed j:=fun j hj=>by
        by_cases hl:isL listed j
        · exact hl
        · exact absurd ⟨j,hj,hl⟩ hr
      have hik:i=k:=by
        simp at hi
        rcases hi with rfl|hi
        · rfl
        · exact absurd (hall i hi) hni
      subst hik
      refine ⟨i,mem_ready.2 ⟨hk,hni,fun j hj=>?_⟩⟩
      have hjr:=hp j hj
      have hjs:j<all.size:=by
        clear ih hall hr hi hni hp
        induction rest with
        | nil=>simp at hjr
        | cons x xs ih =>
          simp at hjr
          rcases hjr with rfl|hjr
          · exact hc.1
          · exact ih hc.2.2 hjr
      exact (kS hs hjs).2 (hall j hjr)
theorem aP0 {all:Array Oper} {done:List Nat}
    (hnew:∀ fuel listed a w,tO C D R Hf H L all done ps ls listed (fuel+1) a w->∀ m∈Region.ready .any all listed,m∉done->wpOpIn (gS C.r) 0 C.P all (wpK C K) m (wpAnyIn (gS C.r) 0 C.P .any all (wpK C K) fuel (listed.setIfInBounds m true)) a w)
    (hend:∀ fuel listed a w,tO C D R Hf H L all done ps ls listed fuel a w->Region.ready .any all listed=[]->wpK C K .normal a w) :
    ∀ fuel listed a w,tO C D R Hf H L all done ps ls listed fuel a w->wpAnyIn (gS C.r) 0 C.P .any all (wpK C K) fuel listed a w:=by
  intro fuel
  induction fuel with
  | zero =>
    intro listed a w h
    have hr:Region.ready .any all listed=[]:=by
      cases hr:Region.ready .any all listed with
      | nil=>rfl
      | cons m rest =>
        exfalso
        have hm:m∈Region.ready .any all listed:=by rw [hr]; simp
        obtain ⟨h1,h2,_⟩:=mem_ready.1 hm
        have:=h.fuel
        have hmem:m∈(List.range all.size).filter fun i=>!listed.getD i true:=by
          simp only [bT,List.mem_range]
          exact ⟨h1,by unfold isL at h2; simpa using h2⟩
        have hz:((List.range all.size).filter fun i=>!listed.getD i true)=[]:=dE (by omega)
        rw [hz] at hmem
        simp at hmem
    exact ⟨hr,hend 0 listed a w h hr⟩
  | succ fuel ih =>
    intro listed a w h
    refine ⟨fun hr=>hend _ listed a w h hr,fun m hm=>?_⟩
    by_cases hmd:m∈done
    · obtain ⟨h1,h2,h3⟩:=mem_ready.1 hm
      obtain ⟨o,d,v,ho,hd,hM,hl,hp⟩:=h.prom m hmd h2
      have hon:=h.on ho (h.data m hmd h2) hm
      have hms:m<listed.size:=by rw [h.size]; exact h1
      obtain ⟨k1,k2,k3⟩:=h.listed hm
      have hdm:d∈gP all m:=by unfold gP; rw [ho]; simp [hd]
      have hlt:d<C.M:=aT hM
      have hinv:tO C D R Hf H L all done ps ls (listed.setIfInBounds m true) fuel (a.put o.dst v) w:=by
        refine ⟨k1,k2,fun i hi hil=>?_,k3,by rw [hd]; simp [Act.put,h.tm],by rw [hd]; exact h.df,h.sat,fun t u hu=>?_,fun i hi hni=>?_,?_,?_,fun i hi hni=>?_,fun i hi hni=>?_,h.chron⟩
        · rcases (gB hms).1 hil with rfl|hil
          · exact hmd
          · exact h.sub i hi hil
        · rw [hd]
          by_cases e:d=t
          · subst e
            rw [hl] at hu; simp only [aD] at hu; subst hu
            left
            simp [Act.put,h.tm,hlt]
          · rcases h.get t u hu with hg|⟨i,hi,hni,hit⟩
            · left
              simpa [Act.put,aP,e] using hg
            · right
              refine ⟨i,hi,fun hil=>?_,hit⟩
              rcases (gB hms).1 hil with rfl|hil
              · unfold gP at hit; rw [ho] at hit; simp [hd] at hit; exact e hit.symm
              · exact hni hil
        · exact h.prom i hi (fun hl=>hni ((gB hms).2 (.inr hl)))
        · exact h.hf
        · exact fun i hi=>(gB hms).2 (.inr (h.lds i hi))
        · exact h.data i hi (fun hl=>hni ((gB hms).2 (.inr hl)))
        · exact h.uniq i hi (fun hl=>hni ((gB hms).2 (.inr hl)))
      unfold wpOpIn;rw [ho];simp only
      rcases hp with ⟨hw,hq⟩|⟨hw,rfl⟩
      · rw [if_pos (lA hw hon)]
        have hsat:Sat C.N R (if ps.contains m then Hf else H) w:=by
          split
          · exact h.hf w h.sat
          · exact h.sat
        exact aAh hq (aAk hon) hsat (ih _ _ _ hinv)
      · rw [if_neg (by rw [lA hw hon]; simp)]
        exact ⟨fun _ _=>trivial,ih _ _ _ hinv⟩
    · exact hnew fuel listed a w h m hm hmd
structure DJ (C:Cx) (D:List Deferred) (R Hf H:List PH) (L:Env) (all:Array Oper) (done ps ls:List Nat) (plan:Pl) (K:List It):Prop where
  run:kA all done ps ls plan=true->∀ fuel listed a w,tO C D R Hf H L all done ps ls listed fuel a w->wpAnyIn (gS C.r) 0 C.P .any all (wpK C K) fuel listed a w
theorem A9 {id:Nat} {all:Array Oper} (plan:Pl) (Hf:List PH) (hm:C.P.follows .mixedOrders=true) (hp:kA all [] [] [] plan=true) (hf:Sel H Hf) (h:DJ C D R Hf H L all [] [] [] plan K):JK C D R H L (.code (.region id all true)::K):=by
  refine ⟨fun a w hfr hd hs=>wpIn_region_any hm (h.run hp _ _ _ _ ?_)⟩
  have hno:∀ i,i<all.size->¬ isL (Array.replicate all.size false) i:=fun i hi=>by
    unfold isL; simp [hi]
  refine ⟨by simp,fun i hi hl=>absurd hl (hno i hi),fun i hi hl=>absurd hl (hno i hi),?_,hfr.size,hd,hs.heap rfl rfl rfl rfl (Nat.le_succ _),fun t v hv=>.inl (hfr.get t v hv),by simp,fun w hw=>hw.sel hf,by simp,by simp,by simp,trivial⟩
  have:=cD (fun i=>!(Array.replicate all.size false).getD i true) (List.range all.size)
  simpa using this
theorem wQ.cons {all:Array Oper} {o:Oper} {v u:Value} {d:Nat} (h:wQ C R H L all o v) (hd:d∉iK all o):wQ C R H ((d,u)::L) all o v:=by
  have hw:gT all ((d,u)::L) o=gT all L o:=by
    unfold gT
    cases hg:o.guard with
    | none=>rfl
    | some jw =>
      obtain ⟨j,pS⟩:=jw
      simp only
      cases hj:(all[j]?).bind (·.dst) with
      | none=>rfl
      | some d' =>
        simp only
        have:d≠d':=fun e=>by
          subst e
          apply hd
          unfold iK; rw [hg]; simp [hj]
        rw [gV,if_neg this]
  unfold wQ;rw [hw]
  rcases h with ⟨h1,h2⟩|h
  · refine .inl ⟨h1,h2.nd,fun a w hx hs=>h2.run a w (fun x hxm v hv=>hx x hxm v ?_) hs⟩
    cases x with
    | tmp t =>
      have:d≠t:=fun e=>by
        subst e
        apply hd
        unfold iK;simp only [aM,eJ]
        exact .inl ⟨.tmp d,by simpa using hxm,rfl⟩
      simp only [fM] at hv ⊢;rw [gV,if_neg this]; exact hv
    | const c=>exact hv
    | global g=>exact hv
    | func f=>exact hv
  · exact .inr h
theorem wQ.heap {all:Array Oper} {o:Oper} {v:Value} {H':List PH} (h:wQ C R H L all o v) (hs:∀ w,Sat C.N R H' w->Sat C.N R H w):wQ C R H' L all o v:=by
  rcases h with ⟨h1,h2⟩|h
  · exact .inl ⟨h1,h2.nd,fun a w hx hsat=>h2.run a w hx (hs w hsat)⟩
  · exact .inr h
theorem qV {all:Array Oper} {done:List Nat} {i d:Nat} (h:pN all done i=true) (hd:d∈gP all i):d∉kQ all i/\∀ j∈done,d∉kQ all j/\d∉gP all j:=by
  unfold pN at h;rw [dA] at h
  have:=h d hd
  simp only [aJ,dH,dA] at this
  refine ⟨by simpa using this.1,fun j hj=>?_⟩
  have h2:=this.2 j hj
  exact ⟨by simpa using h2.1,by simpa using h2.2⟩
theorem uP {all:Array Oper} {done:List Nat} {i:Nat} (h:tN all done i=true):∀ j∈done,∀ d∈gP all j,d∈kQ all i->j∈iG all i:=by
  unfold tN at h
  intro j hj d hd hr
  rw [dA] at h
  have h2:=h j hj
  rw [dA] at h2
  have h3:=h2 d hd
  simp only [eG,dH] at h3
  rcases h3 with h3|h3
  · simp at h3; exact absurd hr h3
  · simpa using h3
theorem E8 {all:Array Oper} {done:List Nat} {i d:Nat} {rest:Pl} {o:Oper} {v:Value} {p:Bool} (ho:all[i]?=some o) (hd:o.dst=some d) (hM:Nat.blt d C.M=true) (hp:wQ C R (if p then Hf else H) L all o v)
    (h:DJ C D R Hf H ((d,v)::L) all (i::done) (if p then i::ps else ps) ls rest K) (hni':i∉done->∀ j∈ps,j≠i\/p=true) (hr:aEz all done i=true) (hpl:kA all (i::done) (if p then i::ps else ps) ls rest=true) :
    ∀ fuel listed a w,tO C D R Hf H L all done ps ls listed fuel a w->wpAnyIn (gS C.r) 0 C.P .any all (wpK C K) fuel listed a w:=by
  intro fuel listed a w hinv
  simp only [aEz,aJ] at hr
  obtain ⟨⟨h1,h2⟩,h3⟩:=hr
  obtain ⟨k1,k2,k3⟩:=kH.1 (by simpa using h1)
  have hdi:d∈gP all i:=by unfold gP; rw [ho]; simp [hd]
  obtain ⟨f1,f2⟩:=qV h2 hdi
  have hri:kQ all i=iK all o:=by unfold kQ; rw [ho]
  have hni:¬ isL listed i:=fun hl=>k2 (hinv.sub i k1 hl)
  have hps:∀ j,j≠i->(if p then i::ps else ps).contains j=ps.contains j:=fun j hj=>by
    cases p
    · simp
    · simp [hj]
  refine h.run hpl fuel listed a w ⟨hinv.size,hinv.dc,fun j hj hl=>by simp [hinv.sub j hj hl],hinv.fuel,hinv.tm,hinv.df,hinv.sat,fun t u hu=>?_,fun j hj hnl=>?_,hinv.hf,hinv.lds,fun j hj hnl k hk d' hd' hr=>?_,fun j hj hnl k hk hkj d' hd'=>?_,⟨k1,k3,hinv.chron⟩⟩
  · rw [gV] at hu
    by_cases e:d=t
    · subst e; exact .inr ⟨i,by simp,hni,hdi⟩
    · rw [if_neg e] at hu
      rcases hinv.get t u hu with hg|⟨j,hj,hnj,hjt⟩
      · exact .inl hg
      · exact .inr ⟨j,by simp [hj],hnj,hjt⟩
  · by_cases e:j=i
    · subst e
      refine ⟨o,d,v,ho,hd,hM,by rw [gV,if_pos rfl],?_⟩
      have hpp:=hp.cons (u:=v) (by rw [← hri]; exact f1)
      cases p with
      | true=>simpa using hpp
      | false =>
        have hnp:j∉ps:=fun hm=>by
          rcases hni' k2 j hm with h|h
          · exact h rfl
          · simp at h
        simpa [hnp] using hpp
    · have hj':j∈done:=by simp at hj; exact hj.resolve_left e
      obtain ⟨o',d',v',e1,e2,e3,e4,e5⟩:=hinv.prom j hj' hnl
      have hne:d≠d':=fun h=>by
        subst h
        apply (f2 j hj').2
        unfold gP; rw [e1]; simp [e2]
      rw [hps j e]
      refine ⟨o',d',v',e1,e2,e3,by rw [gV,if_neg hne]; exact e4,e5.cons ?_⟩
      have:=(f2 j hj').1
      unfold kQ at this; rw [e1] at this; exact this
  · by_cases ej:j=i
    · subst ej
      by_cases ek:k=j
      · subst ek
        have:d'=d:=by unfold gP at hd'; rw [ho] at hd'; simpa [hd] using hd'
        subst this;exact absurd hr f1
      · exact uP h3 k (by simp at hk; exact hk.resolve_left ek) d' hd' hr
    · have hj':j∈done:=by simp at hj; exact hj.resolve_left ej
      by_cases ek:k=i
      · subst ek
        have:d'=d:=by unfold gP at hd'; rw [ho] at hd'; simpa [hd] using hd'
        subst this;exact absurd hr (f2 j hj').1
      · exact hinv.data j hj' hnl k (by simp at hk; exact hk.resolve_left ek) d' hd' hr
  · by_cases ej:j=i
    · subst ej
      have:d'=d:=by unfold gP at hd'; rw [ho] at hd'; simpa [hd] using hd'
      subst this
      exact (f2 k (by simp at hk; exact hk.resolve_left hkj)).2
    · have hj':j∈done:=by simp at hj; exact hj.resolve_left ej
      by_cases ek:k=i
      · subst ek
        intro hdk
        have:d'=d:=by unfold gP at hdk; rw [ho] at hdk; simpa [hd] using hdk
        subst this;exact (f2 j hj').2 hd'
      · exact hinv.uniq j hj' hnl k (by simp at hk; exact hk.resolve_left ek) hkj d' hd'
theorem CX {all:Array Oper} {done:List Nat} {i d:Nat} {rest:Pl} {o:Oper} {v:Value} (ho:all[i]?=some o) (hq:fO C R H L o v) (hg:gT all L o=some true) (hd:o.dst=some d) (hM:Nat.blt d C.M=true) (hin:(ps.all (done.contains ·))=true)
    (h:DJ C D R Hf H ((d,v)::L) all (i::done) ps ls rest K):DJ C D R Hf H L all done ps ls (.q i rest) K:=by
  refine ⟨fun hpl=>?_⟩
  simp only [kA,aJ] at hpl
  refine E8 (p:=false) ho hd hM (.inl ⟨hg,hq⟩) h (fun hni j hj=>.inl (fun e=>?_)) hpl.1 hpl.2
  subst e;rw [dA] at hin
  have:=hin j hj
  simp at this
  exact hni this
theorem AX {all:Array Oper} {done:List Nat} {i d:Nat} {rest:Pl} {o:Oper} (ho:all[i]?=some o) (hg:gT all L o=some false) (hd:o.dst=some d) (hM:Nat.blt d C.M=true) (hin:(ps.all (done.contains ·))=true)
    (h:DJ C D R Hf H ((d,undef)::L) all (i::done) ps ls rest K):DJ C D R Hf H L all done ps ls (.q i rest) K:=by
  refine ⟨fun hpl=>?_⟩
  simp only [kA,aJ] at hpl
  refine E8 (p:=false) ho hd hM (.inr ⟨hg,rfl⟩) h (fun hni j hj=>.inl (fun e=>?_)) hpl.1 hpl.2
  subst e;rw [dA] at hin
  have:=hin j hj
  simp at this
  exact hni this
theorem E6 {all:Array Oper} {done:List Nat} {i d:Nat} {rest:Pl} {o:Oper} {v:Value} (ho:all[i]?=some o) (hq:fO C R Hf L o v) (hg:gT all L o=some true) (hd:o.dst=some d) (hM:Nat.blt d C.M=true)
    (h:DJ C D R Hf H ((d,v)::L) all (i::done) (i::ps) ls rest K):DJ C D R Hf H L all done ps ls (.p i rest) K:=by
  refine ⟨fun hpl=>?_⟩
  simp only [kA,aJ] at hpl
  exact E8 (p:=true) ho hd hM (.inl ⟨hg,hq⟩) h (fun _ _ _=>.inr rfl) hpl.1 hpl.2
theorem tO.full {all:Array Oper} {done:List Nat} {listed:Array Bool} {fuel:Nat} {a:Act} {w:World} (h:tO C D R Hf H L all done ps ls listed fuel a w) (hall:∀ i∈done,isL listed i):Frm C.M L a:=
  ⟨h.tm,fun t v hv=>(h.get t v hv).resolve_right (fun ⟨i,hi,hni,_⟩=>hni (hall i hi))⟩
theorem BC {all:Array Oper} {done:List Nat} (h:JK C D R H L K):DJ C D R Hf H L all done ps ls .nil K:=by
  refine ⟨fun hpl=>aP0 (fun fuel listed a w hinv m hm hmd=>?_) (fun fuel listed a w hinv hr=>?_)⟩
  · exfalso
    simp only [kA,List.isEmpty_iff] at hpl
    obtain ⟨h1,h2,h3⟩:=mem_ready.1 hm
    have:m∈lQ all done:=kH.2 ⟨h1,hmd,fun j hj=>by
      have hlj:=h3 j hj
      have hjs:j<all.size:=by
        rw [← hinv.size]
        cases hb:listed[j]? with
        | none=>simp [aP,hb] at hlj
        | some b=>exact (bP.1 hb).1
      exact hinv.sub j hjs ((kS hinv.size hjs).1 hlj)⟩
    rw [hpl] at this
    simp at this
  · refine h.run a w (hinv.full fun i hi=>?_) hinv.df hinv.sat
    by_cases hl:isL listed i
    · exact hl
    · obtain ⟨m,hm⟩:=uO hinv.size done hinv.chron ⟨i,hi,hl⟩
      rw [hr] at hm; simp at hm
theorem yE {all:Array Oper} {done:List Nat} {listed:Array Bool} {fuel:Nat} {a:Act} {w:World} (hinv:tO C D R Hf H L all done ps ls listed fuel a w) {m:Nat} (hm:m∈Region.ready .any all listed) (hmd:m∉done):m∈lQ all done:=by
  obtain ⟨h1,h2,h3⟩:=mem_ready.1 hm
  exact kH.2 ⟨h1,hmd,fun j hj=>by
    have hlj:=h3 j hj
    have hjs:j<all.size:=by
      rw [← hinv.size]
      cases hb:listed[j]? with
      | none=>simp [aP,hb] at hlj
      | some b=>exact (bP.1 hb).1
    exact hinv.sub j hjs ((kS hinv.size hjs).1 hlj)⟩
theorem aDo {all:Array Oper} {done:List Nat} {listed:Array Bool} {fuel:Nat} {a:Act} {w:World} (hinv:tO C D R Hf H L all done ps ls listed fuel a w) {i:Nat} (hi:i∈lQ all done) (he:Region.ready .any all listed=[]):False:=by
  obtain ⟨k1,k2,k3⟩:=kH.1 hi
  by_cases hp:∃ j∈done,¬ isL listed j
  · obtain ⟨m,hm⟩:=uO hinv.size done hinv.chron hp
    rw [he] at hm; simp at hm
  · have hall:∀ j∈done,isL listed j:=fun j hj=>by
      by_cases hl:isL listed j
      · exact hl
      · exact absurd ⟨j,hj,hl⟩ hp
    have hjs:∀ j∈done,j<all.size:=by
      have hc:=hinv.chron
      clear hall hp k3 k2 k1 hi he hinv
      induction done with
      | nil=>intro j hj; simp at hj
      | cons x xs ih =>
        intro j hj
        simp at hj
        rcases hj with rfl|hj
        · exact hc.1
        · exact ih hc.2.2 j hj
    have:i∈Region.ready .any all listed:=mem_ready.2 ⟨k1,fun hl=>k2 (hinv.sub i k1 hl),fun j hj=>(kS hinv.size (hjs j (k3 j hj))).2 (hall j (k3 j hj))⟩
    rw [he] at this; simp at this
def mV (C:Cx) (D:List Deferred) (R Hf H:List PH) (L:Env) (all:Array Oper) (done ps ls:List Nat) (i:Nat) (k:Kd) (rest:Pl) (K:List It):Prop:=
  nU all done ps ls i k=true->kA all (i::done) ps (i::ls) rest=true->i∈lQ all done ->
    ∀ fuel listed a w,tO C D R Hf H L all done ps ls listed (fuel+1) a w->i∈Region.ready .any all listed ->
      wpOpIn (gS C.r) 0 C.P all (wpK C K) i (wpAnyIn (gS C.r) 0 C.P .any all (wpK C K) fuel (listed.setIfInBounds i true)) a w
theorem BZ {all:Array Oper} {done:List Nat} {i:Nat} {k:Kd} {rest:Pl} (h:mV C D R Hf H L all done ps ls i k rest K):DJ C D R Hf H L all done ps ls (.l i k rest) K:=by
  refine ⟨fun hpl=>?_⟩
  simp only [kA,aJ,beq_iff_eq] at hpl
  obtain ⟨h1,h2,h3⟩:=hpl
  have hi:i∈lQ all done:=by rw [h1]; simp
  refine aP0 (fun fuel listed a w hinv m hm hmd=>?_) (fun fuel listed a w hinv hr=>(aDo hinv hi hr).elim)
  have:=yE hinv hm hmd
  rw [h1] at this
  simp at this
  subst this;exact h h2 h3 hi fuel listed a w hinv hm
theorem EP {all:Array Oper} {done:List Nat} {i j:Nat} {k k':Kd} {rest rest':Pl} (h:mV C D R Hf H L all done ps ls i k rest K) (h':mV C D R Hf H L all done ps ls j k' rest' K):DJ C D R Hf H L all done ps ls (.l2 i k rest j k' rest') K:=by
  refine ⟨fun hpl=>?_⟩
  simp only [kA,aJ,beq_iff_eq] at hpl
  obtain ⟨h1,⟨h2,h3⟩,h4,h5⟩:=hpl
  have hi:i∈lQ all done:=by rw [h1]; simp
  have hj:j∈lQ all done:=by rw [h1]; simp
  refine aP0 (fun fuel listed a w hinv m hm hmd=>?_) (fun fuel listed a w hinv hr=>(aDo hinv hi hr).elim)
  have:=yE hinv hm hmd
  rw [h1] at this
  simp at this
  rcases this with rfl|rfl
  · exact h h2 h3 hi fuel listed a w hinv hm
  · exact h' h4 h5 hj fuel listed a w hinv hm
theorem a_e {all:Array Oper} {done:List Nat} {i d:Nat} {rest:Pl} {o:Oper} {post:Value->List PH->Prop} (ho:all[i]?=some o) (hl:iX C R H L o post) (hg:gT all L o=some true) (hd:o.dst=some d) (hM:Nat.blt d C.M=true)
    (hsub:∀ v H',post v H'->∀ w,Sat C.N R H' w->Sat C.N R H w)
    (h:∀ v H',post v H'->DJ C D R Hf H' ((d,v)::L) all (i::done) ps (i::ls) rest K):mV C D R Hf H L all done ps ls i .e rest K:=by
  intro hlo hpl hrd fuel listed a w hinv hm
  simp only [nU,aJ] at hlo
  obtain ⟨h2,h3⟩:=hlo
  obtain ⟨k1,k2,k3⟩:=kH.1 hrd
  have hon:=hinv.on ho (uP h3) hm
  have hdi:d∈gP all i:=by unfold gP; rw [ho]; simp [hd]
  obtain ⟨f1,f2⟩:=qV h2 hdi
  have hms:i<listed.size:=by rw [hinv.size]; exact k1
  obtain ⟨l1,l2,l3⟩:=hinv.listed hm
  have hlt:d<C.M:=aT hM
  unfold wpOpIn;rw [ho];simp only;rw [if_pos (lA hg hon)]
  refine hl.run a w (aAk hon) hinv.sat _ _ (fun v H' w' hp hs'=>(h v H' hp).run hpl _ _ _ _ ?_)
  have back:∀ j∈done,¬ isL (listed.setIfInBounds i true) j->¬ isL listed j:=fun j _ hn hl=>hn ((gB hms).2 (.inr hl))
  have cs:∀ j,j∈i::done->¬ isL (listed.setIfInBounds i true) j->j∈done:=fun j hj hn=>by
    simp at hj
    rcases hj with rfl|hj
    · exact absurd ((gB hms).2 (.inl rfl)) hn
    · exact hj
  have hlds:∀ j∈i::ls,isL (listed.setIfInBounds i true) j:=fun j hj=>by
    simp at hj
    rcases hj with rfl|hj
    · exact (gB hms).2 (.inl rfl)
    · exact (gB hms).2 (.inr (hinv.lds j hj))
  refine ⟨l1,l2,fun j hj hlj=>?_,l3,by rw [hd]; simp [Act.put,hinv.tm],by rw [hd]; exact hinv.df,hs',fun t u hu=>?_,fun j hj hnl=>?_,fun w hw=>hinv.hf w (hsub v H' hp w hw),hlds,fun j hj hnl k hk d' hd' hr=>?_,fun j hj hnl k hk hkj d' hd'=>?_,⟨k1,k3,hinv.chron⟩⟩
  · rcases (gB hms).1 hlj with rfl|hlj
    · simp
    · simp [hinv.sub j hj hlj]
  · rw [hd]
    rw [gV] at hu
    by_cases e:d=t
    · subst e
      simp only [if_true,aD] at hu; subst hu
      left
      simp [Act.put,hinv.tm,hlt]
    · rw [if_neg e] at hu
      rcases hinv.get t u hu with hg'|⟨j,hj,hnj,hjt⟩
      · left; simpa [Act.put,aP,e] using hg'
      · right
        refine ⟨j,by simp [hj],fun hlj=>?_,hjt⟩
        rcases (gB hms).1 hlj with rfl|hlj
        · exact k2 hj
        · exact hnj hlj
  · have hj':=cs j hj hnl
    obtain ⟨o',d',v',e1,e2,e3,e4,e5⟩:=hinv.prom j hj' (back j hj' hnl)
    have hne:d≠d':=fun h=>by
      subst h
      apply (f2 j hj').2
      unfold gP; rw [e1]; simp [e2]
    refine ⟨o',d',v',e1,e2,e3,by rw [gV,if_neg hne]; exact e4,(e5.cons ?_).heap (fun w hw=>?_)⟩
    · have:=(f2 j hj').1
      unfold kQ at this; rw [e1] at this; exact this
    · split
      · rename_i hc; rw [if_pos hc] at hw; exact hw
      · rename_i hc; rw [if_neg hc] at hw; exact hsub v H' hp w hw
  · have hj':=cs j hj hnl
    by_cases ek:k=i
    · subst ek
      have:d'=d:=by unfold gP at hd'; rw [ho] at hd'; simpa [hd] using hd'
      subst this;exact absurd hr (f2 j hj').1
    · exact hinv.data j hj' (back j hj' hnl) k (by simp at hk; exact hk.resolve_left ek) d' hd' hr
  · have hj':=cs j hj hnl
    by_cases ek:k=i
    · subst ek
      intro hdk
      have:d'=d:=by unfold gP at hdk; rw [ho] at hdk; simpa [hd] using hdk
      subst this;exact (f2 j hj').2 hd'
    · exact hinv.uniq j hj' (back j hj' hnl) k (by simp at hk; exact hk.resolve_left ek) hkj d' hd'
theorem wR {all:Array Oper} {E:Nat->Prop} (hdc:∀ i,E i->∀ j∈iG all i,E j):∀ (f:Nat) (todo acc:List Nat),(∀ j∈todo,E j)->(∀ j∈acc,E j)->∀ j∈qU all f todo acc,E j:=by
  intro f
  induction f with
  | zero=>intro todo acc _ ha j hj; cases todo <;> simp only [qU] at hj <;> exact ha j hj
  | succ f ih =>
    intro todo acc ht ha
    cases todo with
    | nil=>intro j hj; simp only [qU] at hj; exact ha j hj
    | cons x todo =>
      simp only [qU]
      split
      · exact ih todo acc (fun j hj=>ht j (by simp [hj])) ha
      · refine ih _ _ (fun j hj=>?_) (fun j hj=>?_)
        · simp at hj
          rcases hj with hj|hj
          · exact hdc x (ht x (by simp)) j hj
          · exact ht j (by simp [hj])
        · simp at hj
          rcases hj with rfl|hj
          · exact ht j (by simp)
          · exact ha j hj
theorem aVq {all:Array Oper} {done:List Nat} {i:Nat} {rest:Pl} {o:Oper} {post:Value->List PH->Prop} {L':Value->Env} (ho:all[i]?=some o) (hl:iX C R H L o post) (hg:gT all L o=some true)
    (hL:(∃ d,o.dst=some d/\Nat.blt d C.M=true/\L'=fun v=>(d,v)::L)\/(o.dst=none/\L'=fun _=>L))
    (hsub:∀ v H',post v H'->∀ w,Sat C.N R H' w->Sat C.N R Hf w)
    (h:∀ v H',post v H'->DJ C D R Hf H' (L' v) all (i::done) ps (i::ls) rest K):mV C D R Hf H L all done ps ls i .b rest K:=by
  intro hlo hpl hrd fuel listed a w hinv hm
  simp only [nU] at hlo
  obtain ⟨k1,k2,k3⟩:=kH.1 hrd
  have hms:i<listed.size:=by rw [hinv.size]; exact k1
  have hrdy:=(mem_ready.1 hm).2.2
  have bnd:∀ j,listed.getD j false=true->j<all.size/\isL listed j:=fun j hlj=>by
    have hjs:j<all.size:=by
      rw [← hinv.size]
      cases hb:listed[j]? with
      | none=>simp [aP,hb] at hlj
      | some b=>exact (bP.1 hb).1
    exact ⟨hjs,(kS hinv.size hjs).1 hlj⟩
  have hpend:∀ j∈done,¬ isL listed j->ps.contains j=true/\pN all [j] i=true/\tN all [j] i=true:=fun j hj hnj=>by
    rw [dA] at hlo
    have h3:=hlo j hj
    simp only [eG,aJ] at h3
    rcases h3 with (h3|h3)|⟨⟨h3,h4⟩,h5⟩
    rotate_left
    · exact absurd (hinv.lds j (by simpa using h3)) hnj
    rotate_left
    · exact absurd (wR (all:=all) (E:=fun j=>j<all.size/\isL listed j) (fun i hi=>hinv.dc i hi.1 hi.2) _ (iG all i) [] (fun j hj=>bnd j (hrdy j hj)) (by simp) j (by simpa using h3)).2 hnj
    · exact ⟨h3,h4,h5⟩
  have hdata:∀ j∈done,¬ isL listed j->∀ d∈gP all j,d∉kQ all i:=fun j hj hnj d hd hr=>by
    have:=uP (hpend j hj hnj).2.2 j (by simp) d hd hr
    exact hnj (bnd j (hrdy j this)).2
  have hon:∀ t∈iK all o,∀ v,look L t=some v->a.tmps.getD t undef=v:=fun t ht v hv=>by
    rcases hinv.get t v hv with hg'|⟨j,hj,hnj,hjt⟩
    · exact hg'
    · exact absurd (by unfold kQ; rw [ho]; exact ht) (hdata j hj hnj t hjt)
  obtain ⟨l1,l2,l3⟩:=hinv.listed hm
  unfold wpOpIn;rw [ho];simp only;rw [if_pos (lA hg hon)]
  refine hl.run a w (aAk hon) hinv.sat _ _ (fun v H' w' hp hs'=>(h v H' hp).run hpl _ _ _ _ ?_)
  have back:∀ j∈done,¬ isL (listed.setIfInBounds i true) j->¬ isL listed j:=fun j _ hn hl=>hn ((gB hms).2 (.inr hl))
  have cs:∀ j,j∈i::done->¬ isL (listed.setIfInBounds i true) j->j∈done:=fun j hj hn=>by
    simp at hj
    rcases hj with rfl|hj
    · exact absurd ((gB hms).2 (.inl rfl)) hn
    · exact hj
  have hlds:∀ j∈i::ls,isL (listed.setIfInBounds i true) j:=fun j hj=>by
    simp at hj
    rcases hj with rfl|hj
    · exact (gB hms).2 (.inl rfl)
    · exact (gB hms).2 (.inr (hinv.lds j hj))
  have hfr:∀ j∈done,¬ isL listed j->∀ d∈gP all i,d∉kQ all j/\d∉gP all j:=fun j hj hnj d hd=>(qV (hpend j hj hnj).2.1 hd).2 j (by simp)
  refine ⟨l1,l2,fun j hj hlj=>?_,l3,?_,?_,hs',fun t u hu=>?_,fun j hj hnl=>?_,fun w hw=>hsub v H' hp w hw,hlds,fun j hj hnl k hk d' hd' hr=>?_,fun j hj hnl k hk hkj d' hd'=>?_,⟨k1,k3,hinv.chron⟩⟩
  · rcases (gB hms).1 hlj with rfl|hlj
    · simp
    · simp [hinv.sub j hj hlj]
  · have:=hinv.tm
    cases hd:o.dst <;> simpa [Act.put] using this
  · have:=hinv.df
    cases hd:o.dst <;> simpa [Act.put] using this
  · rcases hL with ⟨d,hd,hM,rfl⟩|⟨hd,rfl⟩
    · rw [hd]
      simp only at hu;rw [gV] at hu
      by_cases e:d=t
      · subst e
        simp only [if_true,aD] at hu; subst hu
        left
        simp [Act.put,hinv.tm,show d<C.M from aT hM]
      · rw [if_neg e] at hu
        rcases hinv.get t u hu with hg'|⟨j,hj,hnj,hjt⟩
        · left; simpa [Act.put,aP,e] using hg'
        · right
          refine ⟨j,by simp [hj],fun hlj=>?_,hjt⟩
          rcases (gB hms).1 hlj with rfl|hlj
          · exact k2 hj
          · exact hnj hlj
    · rw [hd]
      simp only [Act.put] at hu ⊢
      rcases hinv.get t u hu with hg'|⟨j,hj,hnj,hjt⟩
      · exact .inl hg'
      · right
        refine ⟨j,by simp [hj],fun hlj=>?_,hjt⟩
        rcases (gB hms).1 hlj with rfl|hlj
        · exact k2 hj
        · exact hnj hlj
  · have hj':=cs j hj hnl
    have hnj:=back j hj' hnl
    obtain ⟨o',d',v',e1,e2,e3,e4,e5⟩:=hinv.prom j hj' hnj
    have hc:=(hpend j hj' hnj).1
    rw [if_pos hc] at e5 ⊢
    rcases hL with ⟨d,hd,hM,rfl⟩|⟨hd,rfl⟩
    · have hdi:d∈gP all i:=by unfold gP; rw [ho]; simp [hd]
      have hf2:=hfr j hj' hnj d hdi
      have hne:d≠d':=fun h=>by
        subst h
        apply hf2.2
        unfold gP; rw [e1]; simp [e2]
      refine ⟨o',d',v',e1,e2,e3,by simp only; rw [gV,if_neg hne]; exact e4,e5.cons ?_⟩
      have:=hf2.1
      unfold kQ at this; rw [e1] at this; exact this
    · exact ⟨o',d',v',e1,e2,e3,e4,e5⟩
  · have hj':=cs j hj hnl
    by_cases ek:k=i
    · subst ek
      exact absurd hr (hfr j hj' (back j hj' hnl) d' hd').1
    · exact hinv.data j hj' (back j hj' hnl) k (by simp at hk; exact hk.resolve_left ek) d' hd' hr
  · have hj':=cs j hj hnl
    by_cases ek:k=i
    · subst ek
      intro hdk
      exact (hfr j hj' (back j hj' hnl) d' hdk).2 hd'
    · exact hinv.uniq j hj' (back j hj' hnl) k (by simp at hk; exact hk.resolve_left ek) hkj d' hd'
theorem a_b {all:Array Oper} {done:List Nat} {i d:Nat} {rest:Pl} {o:Oper} {post:Value->List PH->Prop} (ho:all[i]?=some o) (hl:iX C R H L o post) (hg:gT all L o=some true) (hd:o.dst=some d) (hM:Nat.blt d C.M=true)
    (hsub:∀ v H',post v H'->∀ w,Sat C.N R H' w->Sat C.N R Hf w)
    (h:∀ v H',post v H'->DJ C D R Hf H' ((d,v)::L) all (i::done) ps (i::ls) rest K):mV C D R Hf H L all done ps ls i .b rest K:=
  aVq (L':=fun v=>(d,v)::L) ho hl hg (.inl ⟨d,hd,hM,rfl⟩) hsub h
theorem D7 {all:Array Oper} {done:List Nat} {i:Nat} {rest:Pl} {o:Oper} {post:Value->List PH->Prop} (ho:all[i]?=some o) (hl:iX C R H L o post) (hg:gT all L o=some true) (hd:o.dst=none)
    (hsub:∀ v H',post v H'->∀ w,Sat C.N R H' w->Sat C.N R Hf w)
    (h:∀ v H',post v H'->DJ C D R Hf H' L all (i::done) ps (i::ls) rest K):mV C D R Hf H L all done ps ls i .b rest K:=
  aVq (L':=fun _=>L) ho hl hg (.inr ⟨hd,rfl⟩) hsub h
theorem a_bq {all:Array Oper} {done:List Nat} {i d:Nat} {rest:Pl} {o:Oper} {v:Value} (ho:all[i]?=some o) (hq:fO C R H L o v) (hg:gT all L o=some true) (hd:o.dst=some d) (hM:Nat.blt d C.M=true) (hf:Sel H Hf)
    (h:DJ C D R Hf H ((d,v)::L) all (i::done) ps (i::ls) rest K):mV C D R Hf H L all done ps ls i .b rest K:=
  a_b ho hq.loud hg hd hM (fun _ _ ⟨_,e2⟩ w hw=>by subst e2; exact hw.sel hf) (fun u H' ⟨e1,e2⟩=>by subst e1; subst e2; exact h)
end
section
variable {C : Cx} {D : List Deferred} {R H : List PH} {L : Env} {K : List It}

abbrev fv (f : Nat) : Value := .func (.func f) #[] #[]
inductive tP : Nat -> List Value -> Env -> Prop
  | nil {k : Nat} : tP k [] []
  | cons {k : Nat} {v : Value} {vs : List Value} {L : Env} : tP (k + 1) vs L -> tP k (v :: vs) ((k, v) :: L)
theorem tP.eq {k : Nat} {vs : List Value} {L : Env} (h : tP k vs L) : uM k vs = L := by
  induction h with
  | nil => rfl
  | cons _ ih => simp [uM, ih]
inductive oP : Nat -> List Value -> List Value -> Env -> Prop
  | nil {k : Nat} {cap : List Value} {L : Env} : tP k cap L -> oP k [] cap L
  | cons {k : Nat} {v : Value} {vs cap : List Value} {L : Env} : oP (k + 1) vs cap L -> oP k (v :: vs) cap ((k, v) :: L)
theorem oP.eq {k : Nat} {vs cap : List Value} {L : Env} (h : oP k vs cap L) : uM k (vs ++ cap) = L := by
  induction h with
  | nil h => exact h.eq
  | cons _ ih => simp [uM, ih]
theorem aMf {P : Program} {f : FuncId} {fn : Func} {c : Code} {args cap : List Value} {R H : List PH} {post : Value -> List PH -> Prop} {M : Nat} {L : Env} (hf : P.funcs[f]? = some fn) (hb : fn.body = some c)
    (hname : (fn.name == "runtime.NumGoroutine") = false) (hM : fn.ntmps = M) (hle : Nat.ble (args ++ cap).length M = true) (hL : oP 0 args cap L)
    (h : ∀ N β, JK ⟨none, P, FnQ P fn N (β :: R) post, N, M⟩ [] (β :: R) H L [.code c]) : Spec P (.func (.func f) #[] cap.toArray) args R H post := by
  subst hM
  exact aKi hf hb hname hle (fun N β => by rw [hL.eq]; exact h N β)

theorem aP1 {N : Bs} {ρ : PH} {b o : Nat} {v : Value} (h : rdc ρ b o = some v) (m : Mem ρ R) : aG8 N R H b o v := aV9 m h
theorem aP2 {N : Bs} {ρ : PH} {b o : Nat} {v : Value} (h : rdc ρ b o = some v) (m : Mem ρ H) : aG8 N R H b o v := aPx m h
def RdN (ρ : PH) (b o : Nat) (vs : List Value) : Prop := ∀ j v, vs[j]? = some v -> rdc ρ b (o + j) = some v
theorem tQ {N : Bs} {ρ : PH} {b o : Nat} {vs : List Value} (h : RdN ρ b o vs) (m : Mem ρ R) : mU N R H b o vs := fun _ hs j v hv => qS (hs.r ρ m.mem) (h j v hv)
theorem aAl {N : Bs} {ρ : PH} {b o : Nat} {vs : List Value} (h : RdN ρ b o vs) (m : Mem ρ H) : mU N R H b o vs := fun _ hs j v hv => qS (hs.h ρ m.mem) (h j v hv)
section
variable {dst : Option Tmp} {ty : TypeId} {pos : String} {aft : Array Edge} {g : Option (Nat × Bool)}
theorem GO {x : Operand} {s : TypeId} {f : Nat} {b o : Nat} (h : fM L x = some (.pointer (some ⟨b, o, none⟩))) (hf : aN1 C.P s f = some 0) :
    fO C R H L ⟨dst, .fieldAddr s x f, ty, pos, aft, g⟩ (.pointer (some ⟨b, o, none⟩)) := GF h hf
theorem EH {x y : Operand} {xT yT : TypeId} {j : Nat} (h1 : fM L x = some (.int .i64 (j : Int))) (h2 : fM L y = some (.int .i64 1)) (hr : 1 <= j) (hj : j <= 9223372036854775807) : fO C R H L ⟨dst, .binOp .sub xT x y yT, ty, pos, aft, g⟩ (.int .i64 ((j - 1 : Nat) : Int)) := by
  have := GT (C := C) (R := R) (H := H) (dst := dst) (ty := ty) (pos := pos) (aft := aft) (g := g) (xT := xT) (yT := yT) h1 h2 ⟨by omega, by omega⟩
  rwa [show (j : Int) - 1 = ((j - 1 : Nat) : Int) from by omega] at this
end

/-! tests -/
section
variable {all : Array Oper} {rest : List Oper} {d : Nat} {op : BinOp} {xT yT ty : TypeId} {x y : Operand} {pos : String} {aft : Array Edge} {g : Option (Nat × Bool)} {k : IntKind} {m n : Int}
theorem DR {p : Prop} [Decidable p] (h1 : fM L x = some (.int k m)) (h2 : fM L y = some (.int k n)) (hb : oY op m n = some (decide p)) (hg : gT all L ⟨some d, .binOp op xT x y yT, ty, pos, aft, g⟩ = some true) (hM : Nat.blt d C.M = true)
    (ht : p -> JK C D R H ((d, .bool true) :: L) (.ops all rest :: K)) (hf : ¬ p -> JK C D R H ((d, .bool false) :: L) (.ops all rest :: K)) :
    JK C D R H L (.ops all (⟨some d, .binOp op xT x y yT, ty, pos, aft, g⟩ :: rest) :: K) := by
  refine CN (D6 h1 h2 hb) hg rfl hM ?_
  by_cases hp : p
  · simp only [hp, decide_true]; exact ht hp
  · simp only [hp, decide_false]; exact hf hp
variable {done ps ls : List Nat} {i : Nat} {plan : Pl} {Hf : List PH}
end
theorem aP3 (m n : Int) : oY .eql m n = some (decide (m = n)) := rfl
theorem aWa (m n : Int) : oY .neq m n = some (decide (m ≠ n)) := by simp [oY]
theorem aAm (m n : Int) : oY .lss m n = some (decide (m < n)) := rfl
theorem aKj (m n : Int) : oY .leq m n = some (decide (m <= n)) := rfl
abbrev Ans (P : Program) (f : Value) (args : List Value) (R : List PH) (post : Value -> Prop) : Prop := Spec P f args R [] (fun v H' => H' = [] /\ post v)

section
variable {dst : Option Tmp} {ty : TypeId} {pos : String} {aft : Array Edge} {g : Option (Nat × Bool)}
theorem EU {x : Operand} {t : TypeId} {b o : Nat} {vs : List Value} (h : fM L x = some (.pointer (some ⟨b, o, none⟩))) (ht : lP C.P t = some true) (hc : mU C.N R H b o vs) (hn : szP C.P t = some vs.length) :
    fO C R H L ⟨dst, .load t x, ty, pos, aft, g⟩ (.agg vs.toArray) := GX h ht hn hc
theorem EB {t : TypeId} {vs : List Value} (hz : kD C.P t = some (.agg vs.toArray)) :
    iX C R H L ⟨dst, .alloc t, ty, pos, aft, g⟩ (fun v H' => ∃ b, v = .pointer (some ⟨b, 0, none⟩) /\ H' = sng b (.cells vs.toArray t (0, 0)) :: H) := FX hz
theorem DH {t : TypeId} {z : Value} (hz : kD C.P t = some z) (h1 : z.oneCell' = true) :
    iX C R H L ⟨dst, .alloc t, ty, pos, aft, g⟩ (fun v H' => ∃ b, v = .pointer (some ⟨b, 0, none⟩) /\ H' = sng b (.cells #[z] t (0, 0)) :: H) := by
  have hc : z.cells = #[z] := by cases z <;> first | rfl | simp [Value.oneCell'] at h1
  have := FX (C := C) (R := R) (H := H) (L := L) (dst := dst) (ty := ty) (pos := pos) (aft := aft) (g := g) hz
  rwa [hc] at this
theorem FI {t : TypeId} {x : Operand} {vs : List Value} (hv : fM L x = some (.agg vs.toArray)) :
    iX C R H L ⟨dst, .box t x, ty, pos, aft, g⟩ (fun u H' => ∃ b, u = .pointer (some ⟨b, 0, none⟩) /\ H' = sng b (.cells vs.toArray t (0, 0)) :: H) := aVp hv
theorem aWb {t : TypeId} {x : Operand} {v : Value} (hv : fM L x = some v) (h1 : v.oneCell' = true) :
    iX C R H L ⟨dst, .box t x, ty, pos, aft, g⟩ (fun u H' => ∃ b, u = .pointer (some ⟨b, 0, none⟩) /\ H' = sng b (.cells #[v] t (0, 0)) :: H) := by
  have hc : v.cells = #[v] := by cases v <;> first | rfl | simp [Value.oneCell'] at h1
  have := aVp (C := C) (R := R) (H := H) (L := L) (dst := dst) (ty := ty) (pos := pos) (aft := aft) (g := g) (t := t) hv
  rwa [hc] at this
theorem DB {t T : TypeId} {x y : Operand} {b : Nat} {c : Array Value} {vs : List Value} {H' : List PH} (h : fM L x = some (.pointer (some ⟨b, 0, none⟩))) (hv : fM L y = some (.agg vs.toArray)) (ht : gU (sng b (.cells c T (0, 0))) H H') (h1 : ∀ v ∈ vs, v.oneCell' = true) (hn : szP C.P t = some vs.length)
    (ho : c.size = vs.length) :
    iX C R H L ⟨dst, .store t x y, ty, pos, aft, g⟩ (fun u H2 => u = undef /\ H2 = sng b (.cells vs.toArray T (0, 0)) :: H') := by
  have := FH (C := C) (R := R) (L := L) (dst := dst) (ty := ty) (pos := pos) (aft := aft) (g := g) h hv h1 hn ht (by omega)
  have hd : c.toList.drop (0 + vs.length) = [] := cE (by simp; omega)
  rw [hd] at this
  simpa using this
end
section
variable {all : Array Oper} {rest : List Oper} {d : Nat} {ty : TypeId} {x : Operand} {xs : Array Operand} {ts : Array TypeId} {pos : String} {aft : Array Edge} {g : Option (Nat × Bool)} {f : Value} {vs : List Value} {R1 : List PH}
theorem BT {post : Value -> Prop} (hs : Ans C.P f vs R1 post) (hf : fM L x = some f) (ha : jP L xs.toList = some vs) (hr : jK R1 R H) (hg : gT all L ⟨some d, .call ⟨.value x, xs, ts⟩, ty, pos, aft, g⟩ = some true) (hM : Nat.blt d C.M = true)
    (h : ∀ v, post v -> JK C D R H ((d, v) :: L) (.ops all rest :: K)) : JK C D R H L (.ops all (⟨some d, .call ⟨.value x, xs, ts⟩, ty, pos, aft, g⟩ :: rest) :: K) :=
  CR (mI hs hf ha gA.nil hr) hg rfl hM (fun v H' ⟨H1, e, e2, hp⟩ => by subst e2; subst e; exact h v hp)
abbrev aVr (P : Program) (f : Value) (args : List Value) (R : List PH) (post : Value -> PH -> Prop) : Prop := Spec P f args R [] (fun v H' => ∃ ρ, post v ρ /\ (H' = [ρ] \/ (H' = [] /\ ρ ∈ R)))
theorem GG {post : Value -> PH -> Prop} (hs : aVr C.P f vs R1 post) (hf : fM L x = some f) (ha : jP L xs.toList = some vs) (hr : ∀ ρ ∈ R1, ρ ∈ R) (hg : gT all L ⟨some d, .call ⟨.value x, xs, ts⟩, ty, pos, aft, g⟩ = some true) (hM : Nat.blt d C.M = true)
    (h : ∀ v ρ, post v ρ -> JK C D (ρ :: R) H ((d, v) :: L) (.ops all rest :: K)) : JK C D R H L (.ops all (⟨some d, .call ⟨.value x, xs, ts⟩, ty, pos, aft, g⟩ :: rest) :: K) :=
  CR (mI hs hf ha gA.nil (fun ρ hρ => .inl (hr ρ hρ))) hg rfl hM (fun v H' ⟨H1, e, ρ, hp, e2⟩ => by
    subst e
    rcases e2 with rfl | ⟨rfl, hm⟩
    · exact AW gU.here (h v ρ hp)
    · refine ⟨fun a w hfr hd hsat => (h v ρ hp).run a w hfr hd ⟨hsat.sz, fun σ hσ => ?_, hsat.h, hsat.hd, fun σ hσ => ?_⟩⟩
      · simp at hσ
        rcases hσ with rfl | hσ
        · exact hsat.r σ (hr σ hm)
        · exact hsat.r σ hσ
      · simp at hσ
        rcases hσ with rfl | hσ
        · exact hsat.rd σ (hr σ hm)
        · exact hsat.rd σ hσ)
abbrev jM (P : Program) (f : Value) (args : List Value) (R : List PH) (post : Value -> PH -> Prop) : Prop := Spec P f args R [] (fun v H' => ∃ ρ, post v ρ /\ H' = [ρ])
theorem B4 {post : Value -> PH -> Prop} (hs : jM C.P f vs R1 post) (hf : fM L x = some f) (ha : jP L xs.toList = some vs) (hr : jK R1 R H) (hg : gT all L ⟨some d, .call ⟨.value x, xs, ts⟩, ty, pos, aft, g⟩ = some true) (hM : Nat.blt d C.M = true)
    (h : ∀ v ρ, post v ρ -> JK C D R (ρ :: H) ((d, v) :: L) (.ops all rest :: K)) : JK C D R H L (.ops all (⟨some d, .call ⟨.value x, xs, ts⟩, ty, pos, aft, g⟩ :: rest) :: K) :=
  CR (mI hs hf ha gA.nil hr) hg rfl hM (fun v H' ⟨H1, e, ρ, hp, e2⟩ => by subst e2; subst e; exact h v ρ hp)
variable {done ps ls : List Nat} {i : Nat} {plan : Pl} {Hf : List PH}
theorem BQ {post : Value -> Prop} (ho : all[i]? = some ⟨some d, .call ⟨.value x, xs, ts⟩, ty, pos, aft, g⟩) (hs : Ans C.P f vs R1 post) (hf : fM L x = some f) (ha : jP L xs.toList = some vs) (hr : jK R1 R H) (hg : gT all L ⟨some d, .call ⟨.value x, xs, ts⟩, ty, pos, aft, g⟩ = some true) (hM : Nat.blt d C.M = true)
    (h : ∀ v, post v -> DJ C D R Hf H ((d, v) :: L) all (i :: done) ps (i :: ls) plan K) : mV C D R Hf H L all done ps ls i .e plan K :=
  a_e ho (mI hs hf ha gA.nil hr) hg rfl hM (fun v H' ⟨H1, e, e2, hp⟩ w hw => by subst e2; subst e; exact hw) (fun v H' ⟨H1, e, e2, hp⟩ => by subst e2; subst e; exact h v hp)
end
theorem aWc {R : List PH} : ∀ ρ ∈ ([] : List PH), ρ ∈ R := by intro ρ h; simp at h
theorem aT1 {σ : PH} {R1 R : List PH} (m : Mem σ R) (h : ∀ ρ ∈ R1, ρ ∈ R) : ∀ ρ ∈ σ :: R1, ρ ∈ R := by
  intro ρ hρ; simp at hρ
  rcases hρ with rfl | hρ
  · exact m.mem
  · exact h ρ hρ
theorem A8 {P : Program} {f : FuncId} {fn : Func} {c : Code} {args : List Value} {R H : List PH} {post : Value -> List PH -> Prop} {M : Nat} {L : Env} (hf : P.funcs[f]? = some fn) (hM : fn.ntmps = M) (h : ∀ N β, JK ⟨none, P, FnQ P fn N (β :: R) post, N, M⟩ [] (β :: R) H L [.code c]) (hb : fn.body = some c := by exact rfl) (hn : (fn.name == "runtime.NumGoroutine") = false := by exact rfl) (hle : Nat.ble (args ++ []).length M = true := by exact rfl) (hL : oP 0 args [] L := by (repeat (first | exact oP.nil tP.nil | apply oP.cons | apply oP.nil | exact tP.nil | apply tP.cons)); first | done | fail) : Go.Eng.Spec P (.func (.func f) #[] #[]) args R H post := aMf (cap := []) hf hb hn hM hle hL h
theorem CU {P : Program} {f : FuncId} {fn : Func} {c : Code} {args : List Value} (cap : List Value) {R H : List PH} {post : Value -> List PH -> Prop} {M : Nat} {L : Env} (hf : P.funcs[f]? = some fn) (hM : fn.ntmps = M) (h : ∀ N β, JK ⟨none, P, FnQ P fn N (β :: R) post, N, M⟩ [] (β :: R) H L [.code c]) (hb : fn.body = some c := by exact rfl) (hn : (fn.name == "runtime.NumGoroutine") = false := by exact rfl) (hle : Nat.ble (args ++ cap).length M = true := by exact rfl) (hL : oP 0 args cap L := by (repeat (first | exact oP.nil tP.nil | apply oP.cons | apply oP.nil | exact tP.nil | apply tP.cons)); first | done | fail) : Go.Eng.Spec P (.func (.func f) #[] cap.toArray) args R H post := aMf (cap := cap) hf hb hn hM hle hL h
end
section
variable {C : Cx} {D : List Deferred} {R H T : List PH} {L : Env} {K : List It}

def RQ (P : Program) (l : Nat) (N : Bs) (R : List PH) (post : Value -> List PH -> Prop) : Exit -> Act -> World -> Prop :=
  roundPost P l (fun e w' => ∃ v, e = .returned v /\ ∃ H', post v H' /\ Sat N R H' w')
abbrev yv (l : Nat) : Value := .func (.yield l) #[] #[]
inductive zI : List Nat -> List Value -> Env -> Env -> Prop
  | nil {L : Env} : zI [] [] L L
  | cons {p : Nat} {v : Value} {ps : List Nat} {vs : List Value} {L L' : Env} : zI ps vs ((p, v) :: L) L' -> zI (p :: ps) (v :: vs) L L'
theorem zI.frm {M : Nat} {ps : List Nat} {vs : List Value} {L L' : Env} (h : zI ps vs L L') (hps : ∀ p ∈ ps, p < M) : ∀ {tmps : Array Value}, Frm M L ⟨tmps, []⟩ -> Frm M L' ⟨(ps.zip vs).foldl (fun tmps (x : Nat × Value) => tmps.setIfInBounds x.1 x.2) tmps, []⟩ := by
  induction h with
  | nil => intro tmps hf; exact hf
  | @cons p v ps vs L L' _ ih =>
    intro tmps hf
    simp only [List.zip_cons_cons, eZ]
    exact ih (fun q hq => hps q (by simp [hq])) (hf.put (d := p) (hps p (by simp)) v)
theorem zI.len {ps : List Nat} {vs : List Value} {L L' : Env} (h : zI ps vs L L') : ps.length = vs.length := by
  induction h with
  | nil => rfl
  | cons _ ih => simp [ih]

theorem jN {P : Program} {w : World} {l : Nat} {r : Loop} (h : w.heap[l]? = some (.loop r)) : (Instr.getLoop l).run P w = .ok r w := by
  simp [Instr.getLoop, getObj, Sem.run, h]
theorem mW {P : Program} {w : World} {l : Nat} {r : Loop} {o : Obj} (h : w.heap[l]? = some (.loop r)) : (setObj l o).run P w = .ok () { w with heap := w.heap.setIfInBounds l o } := by
  simp [setObj, Sem.run, h]
theorem Sat.turnAny {N : Bs} {w : World} {b : Nat} {o o' : Obj} {H' : List PH} (h : Sat N R H w) (t : gU (sng b o) H H') : Sat N R (sng b o' :: H') { w with heap := w.heap.setIfInBounds b o' } := by
  have hb := h.own t
  have hlt : b < w.heap.size := (bP.1 hb).1
  refine h.turn t (by simp) (by simp [hlt]) (fun k hk => ?_)
  simp [Ne.symm hk]

theorem DI {l : Nat} {r : Loop} {H' : List PH} (t : gU (sng l (.loop r)) H H') (hs : r.state = .ready) (h : JK C D R (sng l (.loop { r with state := .busy }) :: H') L K) : JK C D R H L (.sem (Instr.beginRound l) :: K) := by
  refine ⟨fun a w hf hd hsat => ⟨{ w with heap := w.heap.setIfInBounds l (.loop { r with state := .busy }) }, ?_, h.run a _ hf hd (hsat.turnAny t)⟩⟩
  have hb := hsat.own t
  simp [Instr.beginRound, jN hb, mW hb, hs]

theorem pO {P : Program} {w : World} {l : Nat} {r : Loop} (jump : Option Code) (h : w.heap[l]? = some (.loop r)) :
    (Instr.endRound l jump).run P w = .ok (.bool jump.isNone) { w with heap := w.heap.setIfInBounds l (.loop { r with state := if jump.isNone then .ready else .done, pending := jump }) } := by
  simp [Instr.endRound, jN h, mW h]
section
variable {P : Program} {N : Bs} {l M : Nat} {R0 : List PH} {post : Value -> List PH -> Prop} {r : Loop} {H1 H2 : List PH}
theorem CD (t : gU (sng l (.loop r)) H H1) (hR : ∀ ρ ∈ R0, ρ ∈ R) (hH : Sel (sng l (.loop { r with state := .ready, pending := none }) :: H1) H2) (hp : post (.bool true) H2) :
    JK ⟨some l, P, RQ P l N R0 post, N, M⟩ D R H L [] := by
  refine ⟨fun a w hf hd hsat => ?_⟩
  exact ⟨_, _, pO none (hsat.own t), _, rfl, H2, hp, ((hsat.turnAny t).rsub hR).sel hH⟩
theorem E9 (t : gU (sng l (.loop r)) H H1) (hR : ∀ ρ ∈ R0, ρ ∈ R) (hH : Sel (sng l (.loop { r with state := .done, pending := some .ret }) :: H1) H2) (hp : post (.bool false) H2) :
    JK ⟨some l, P, RQ P l N R0 post, N, M⟩ D R H L (.code .ret :: K) := by
  refine ⟨fun a w hf hd hsat => wpIn_ret (lO K a w ?_)⟩
  exact ⟨_, _, pO (some .ret) (hsat.own t), _, rfl, H2, hp, ((hsat.turnAny t).rsub hR).sel hH⟩
end

theorem lF {P : Program} {l M : Nat} {r : Loop} {ps : List Nat} {vs : List Value} {L' : Env} {post : Value -> List PH -> Prop} (hf : Frm M L ⟨r.tmps, []⟩) (hps : r.params = ps.toArray) (hpl : ∀ p ∈ ps, p < M) (hL : zI ps vs L L')
    (h : ∀ N β, JK ⟨some l, P, fun _ _ _ => False, N, M⟩ [] (β :: R) (sng l (.loop r) :: H) L' [.code r.assign, .till (wpK ⟨some l, P, RQ P l N (β :: R) post, N, M⟩ [.sem (Instr.beginRound l), .code r.body] .normal)]) :
    Spec P (yv l) vs R (sng l (.loop r) :: H) post := by
  intro N0 w hs
  unfold kG
  have hb : w.heap[l]? = some (.loop r) := hs.h _ (by simp) l _ (jT _ _)
  have hrun : ((do let d ← Deferred.ofValue (yv l) vs.toArray; invoke d.target d.args : Sem Next).run P w) = .ok (.round l r.fn ((ps.zip vs).foldl (fun tmps (x : Nat × Value) => tmps.setIfInBounds x.1 x.2) r.tmps) r.assign r.body) w := by
    have hlen := hL.len
    simp [Deferred.ofValue, invoke, Instr.yield, jN hb, hps, hlen]
  rw [hrun];simp only
  obtain ⟨β, hsat, hup⟩ := lG hs
  have hj := h (.of w) β
  refine roundIn_of_wpIn (F := Fence.wide) trivial ?_
  have hrun2 := hj.run _ w (hL.frm hpl hf) rfl hsat
  refine wpIn_mono (show r.assign.wpIn (Fence.wide.inRound l) 0 P (wpK _ _) _ w from hrun2) (fun e a' w' hq => ?_)
  have bodyQ : ∀ e a' w', RQ P l (.of w) (β :: R) post e a' w' -> roundPost P l (fun e w' => ∃ v, e = .returned v /\ ∃ H', post v H' /\ Upd (sng l (.loop r) :: H) H' w w') e a' w' := by
    intro e a' w' hq
    cases e with
    | normal => obtain ⟨v, w2, h1, v', h2, H', h3, h4⟩ := hq; exact ⟨v, w2, h1, v', h2, H', h3, hup H' w2 h4⟩
    | ret => obtain ⟨v, w2, h1, v', h2, H', h3, h4⟩ := hq; exact ⟨v, w2, h1, v', h2, H', h3, hup H' w2 h4⟩
    | exit id => obtain ⟨v, w2, h1, v', h2, H', h3, h4⟩ := hq; exact ⟨v, w2, h1, v', h2, H', h3, hup H' w2 h4⟩
    | goto t => obtain ⟨v, w2, h1, v', h2, H', h3, h4⟩ := hq; exact ⟨v, w2, h1, v', h2, H', h3, hup H' w2 h4⟩
    | panic c => exact hq.elim
    | outgrown => exact hq.elim
  cases e with
  | normal =>
    obtain ⟨w2, h1, h2⟩ := (hq : ∃ w2, _ /\ _)
    refine ⟨w2, h1, wpIn_mono (show r.body.wpIn (Fence.wide.inRound l) 0 P (wpK _ []) a' w2 from h2) (fun e a3 w3 hq => ?_)⟩
    exact bodyQ e a3 w3 hq
  | _ => exact hq.elim
theorem C7 {C2 : Cx} {K2 : List It} (hN : C2.N = C.N) (hM : C2.M = C.M) (h : JK C2 D R H L K2) : JK C D R H L (.till (wpK C2 K2 .normal) :: K) :=
  ⟨fun a w hf hd hs => h.run a w (by rw [hM]; exact hf) hd (by rw [hN]; exact hs)⟩

theorem Sat.perm {N : Bs} {H' : List PH} {w : World} (h : Sat N R H w) (p : H.Perm H') : Sat N R H' w :=
  ⟨h.sz, h.r, fun ρ hρ => h.h ρ (p.mem_iff.2 hρ), (p.pairwise_iff (fun hd => PH.disj.symm hd)).1 h.hd, fun ρ hρ σ hσ => h.rd ρ hρ σ (p.mem_iff.2 hσ)⟩
theorem Sat.left {N : Bs} {H1 H2 : List PH} {w : World} (h : Sat N R (H1 ++ H2) w) : Sat N R H1 w :=
  ⟨h.sz, h.r, fun ρ hρ => h.h ρ (by simp [hρ]), (cC.1 h.hd).1, fun ρ hρ σ hσ => h.rd ρ hρ σ (by simp [hσ])⟩
/-! ### iterators -/
def aP4 (P : Program) (gv : Value) (R1 : List PH) (xs : List (List Value)) : Prop :=
  ∀ (y : Value) (S : Type) (Own : S -> List PH) (Inv : Nat -> S -> Prop) (Stop : S -> Prop) (Ry : List PH),
    (∀ i σ vs, xs[i]? = some vs -> Inv i σ -> Spec P y vs Ry (Own σ) (fun v H' => ∃ σ', H' = Own σ' /\ ((v = .bool true /\ Inv (i + 1) σ') \/ (v = .bool false /\ Stop σ')))) ->
    (∃ l, y = yv l) -> ∀ σ, Inv 0 σ -> Spec P gv [y] (R1 ++ Ry) (Own σ) (fun _ H' => ∃ σ', H' = Own σ' /\ (Inv xs.length σ' \/ Stop σ'))

abbrev mk (b : Nat) : Deferred := { target := .collected b, args := #[] }
abbrev aAn : Obj := .deferred (some [])

theorem DL {P : Program} {Q : Exit -> Act -> World -> Prop} {N : Bs} {M : Nat} {g : Operand} {gf : FuncId} {cap : List Value} {ps : List Nat} {assign body : Code} {X : Type} {R1 Hr : List PH} {xs : List (List Value)} {fn : Func} {gc : Code}
    (hg : fM L g = some (.func (.func gf) #[] cap.toArray)) (hgf : P.funcs[gf]? = some fn) (hgb : fn.body = some gc) (hname : (fn.name == "runtime.NumGoroutine") = false)
    (hit : aP4 P (.func (.func gf) #[] cap.toArray) R1 xs) (hR1 : ∀ ρ ∈ R1, ρ ∈ R)
    (I : Nat -> X -> Prop) (Hx : X -> List PH) (J : Code -> X -> Prop) (x0 : X) (hx0 : Hx x0 = T) (hT : gA H T Hr) (h0 : I 0 x0)
    (hround : ∀ l (r : Loop) i x vs, xs[i]? = some vs -> I i x -> r.params = ps.toArray -> r.assign = assign -> r.body = body -> r.state = .ready -> r.pending = none -> Frm M L ⟨r.tmps, []⟩ ->
      Spec P (yv l) vs R (sng l (.loop r) :: Hx x) (fun v H' => ∃ x', (v = .bool true /\ I (i + 1) x' /\ H' = sng l (.loop r) :: Hx x') \/ (v = .bool false /\ ∃ c, J c x' /\ H' = sng l (.loop { r with state := .done, pending := some c }) :: Hx x')))
    (hdone : ∀ b x, I xs.length x -> JK ⟨none, P, Q, N, M⟩ (mk b :: D) R (sng b aAn :: (Hx x ++ Hr)) L K)
    (hjump : ∀ b c x, J c x -> JK ⟨none, P, Q, N, M⟩ (mk b :: D) R (sng b aAn :: (Hx x ++ Hr)) L (.code c :: K)) :
    JK ⟨none, P, Q, N, M⟩ D R H L (.code (.rangeFunc g ps.toArray assign body) :: K) := by
  subst hx0
  refine ⟨fun a w hf hd hs => wpIn_rangeFunc (fun fnn _ => ?_)⟩
  let r : Loop := { state := .ready, pending := none, fn := fnn, tmps := a.tmps, params := ps.toArray, assign, body, defers := w.heap.size }
  let w1 : World := (w.alloc aAn).alloc (.loop r)
  have hs2 := hT.sat hs
  have hs3 := (hs2.alloc aAn).alloc (.loop r)
  have hl : (w.alloc aAn).heap.size = w.heap.size + 1 := by simp
  rw [hl] at hs3
  refine ⟨w.heap.size + 1, [mk w.heap.size], w1, ⟨.fn (.func gf) cap.toArray, #[yv (w.heap.size + 1)]⟩, w1, gf, ([yv (w.heap.size + 1)] ++ cap).toArray, w1, ?_, ?_, fun _ _ => trivial, ?_, fun h => by simp [Fence.wide] at h, ?_⟩
  · simp [Instr.enterLoop, w1, r]
  · have hgv' : a.eval g = .func (.func gf) #[] cap.toArray := hf.on g _ hg
    have hc : a.eval (.const (yv (w.heap.size + 1))) = yv (w.heap.size + 1) := rfl
    simp [resolve, Deferred.ofValue, hgv', hc]
  · have hname' : ¬ fn.name = "runtime.NumGoroutine" := by simpa using hname
    simp [invoke, callFunc, program, Sem.run, bind, Sem.bind, pure, hgf, hgb, hname']
  · let Own : X × Option Code -> List PH := fun σ => match σ.2 with
      | none => sng (w.heap.size + 1) (.loop r) :: Hx σ.1
      | some c => sng (w.heap.size + 1) (.loop { r with state := .done, pending := some c }) :: Hx σ.1
    have hspec := hit (yv (w.heap.size + 1)) (X × Option Code) Own (fun i σ => σ.2 = none /\ I i σ.1) (fun σ => ∃ c, σ.2 = some c /\ J c σ.1) R
      (fun i σ vs hvs ⟨h1, h2⟩ => by
        obtain ⟨x, o⟩ := σ
        simp only at h1 h2;subst h1;refine (hround (w.heap.size + 1) r i x vs hvs h2 rfl rfl rfl rfl rfl ⟨hf.size, hf.get⟩).mono ?_;rintro v H' ⟨x', ⟨e1, e2, e3⟩ | ⟨e1, c, e2, e3⟩⟩
        · exact ⟨(x', none), e3, .inl ⟨e1, rfl, e2⟩⟩
        · exact ⟨(x', some c), e3, .inr ⟨e1, c, rfl, e2⟩⟩)
      ⟨_, rfl⟩ (x0, none) ⟨rfl, h0⟩
    have hs4 : Sat N R (Own (x0, none) ++ (sng w.heap.size aAn :: Hr)) w1 := hs3.perm (by
      simp only [Own, aG]
      exact (List.perm_middle.symm).cons _)
    have hs5 : Sat N (R1 ++ R) (Own (x0, none)) w1 := (hs4.rsub (R' := R1 ++ R) (fun ρ hρ => by
      rcases aM.1 hρ with h | h
      · exact hR1 ρ h
      · exact h)).left
    have hc := hspec N w1 hs5
    unfold kG at hc
    have hname' : ¬ fn.name = "runtime.NumGoroutine" := by simpa using hname
    have hrun : ((do let d ← Deferred.ofValue (.func (.func gf) #[] cap.toArray) [yv (w.heap.size + 1)].toArray; invoke d.target d.args : Sem Next).run P w1) = .ok (.enter gf ([yv (w.heap.size + 1)] ++ cap).toArray) w1 := by
      simp [Deferred.ofValue, invoke, callFunc, program, Sem.run, bind, Sem.bind, pure, hgf, hgb, hname']
    rw [hrun] at hc;simp only at hc
    refine CallsIn.mono (show CallsIn (gS none) 0 P gf _ w1 _ from hc) ?_
    rintro e w3 ⟨v, rfl, H', ⟨⟨x, o⟩, rfl, hfin⟩, hu⟩
    have hs6 := hs4.upd hu
    have hfin' : ∃ r', r'.state ≠ .busy /\ Own (x, o) = sng (w.heap.size + 1) (.loop r') :: Hx x /\ ((r'.pending = none /\ I xs.length x) \/ ∃ c, r'.pending = some c /\ J c x) := by
      rcases hfin with ⟨h1, h2⟩ | ⟨c, h1, h2⟩
      · simp only at h1 h2; subst h1; exact ⟨r, by simp [r], rfl, .inl ⟨rfl, h2⟩⟩
      · simp only at h1 h2; subst h1; exact ⟨{ r with state := .done, pending := some c }, by simp, rfl, .inr ⟨c, rfl, h2⟩⟩
    obtain ⟨r', hb, ho, hfin'⟩ := hfin'
    rw [ho] at hs6;simp only [aG] at hs6
    have hown := hs6.own gU.here
    have hend : (Instr.endLoop (w.heap.size + 1)).run P w3 = .ok r'.pending { w3 with heap := w3.heap.setIfInBounds (w.heap.size + 1) (.loop { r' with state := .exhausted }) } := by
      simp [Instr.endLoop, jN hown, mW hown, hb]
    refine ⟨r'.pending, _, hend, ?_⟩
    have hs7 : Sat N R (sng w.heap.size aAn :: (Hx x ++ Hr)) { w3 with heap := w3.heap.setIfInBounds (w.heap.size + 1) (.loop { r' with state := .exhausted }) } :=
      ((hs6.turnAny (o' := .loop { r' with state := .exhausted }) gU.here).tail).perm eT
    have hfr : Frm M L { a with defers := [mk w.heap.size] ++ a.defers } := ⟨hf.size, hf.get⟩
    have hdf : ({ a with defers := [mk w.heap.size] ++ a.defers } : Act).defers = mk w.heap.size :: D := by simp [hd]
    rcases hfin' with ⟨hp, hI⟩ | ⟨c, hp, hJ⟩
    · rw [hp] at hs7 ⊢
      exact (hdone w.heap.size x hI).run _ _ hfr hdf hs7
    · rw [hp] at hs7 ⊢
      exact (hjump w.heap.size c x hJ).run _ _ hfr hdf hs7

/-! ### the return of a function whose body held such loops -/
inductive uQ : List Deferred -> List PH -> List PH -> Prop
  | nil {H : List PH} : uQ [] H H
  | cons {b : Nat} {ds : List Deferred} {H H1 H2 : List PH} : gU (sng b aAn) H H1 -> uQ ds H1 H2 -> uQ (mk b :: ds) H H2
theorem uQ.run {P : Program} {fn : Func} {tmps : Array Value} {S : Value -> World -> Prop} {N : Bs} {ds : List Deferred} {H H2 : List PH} (m : uQ ds H H2) : ∀ {w : World}, Sat N R H w -> (∀ w', Sat N R H2 w' -> ∃ v, (results fn tmps).run P w' = .ok v w' /\ S v w') -> jZ P fn tmps S ds w := by
  induction m with
  | nil => intro w hs h; exact h w hs
  | @cons b ds H H1 H2 t _ ih =>
    intro w hs h
    have hb := hs.own t
    refine ⟨b, { w with heap := w.heap.setIfInBounds b (.deferred none) }, rfl, ?_, ih (hs.turnAny t).tail h⟩
    simp [Instr.takeDeferred, getObj, setObj, Sem.run, hb]
theorem FA {P : Program} {fn : Func} {N : Bs} {M : Nat} {R R0 H H1 H' : List PH} {L : Env} {K : List It} {post : Value -> List PH -> Prop} {v : Value} {D : List Deferred} (m : uQ D H H1)
    (hv : ∀ a w, Frm M L a -> Sat N R H1 w -> (results fn a.tmps).run P w = .ok v w) (hR : ∀ ρ ∈ R0, ρ ∈ R) (hH : Sel H1 H') (hp : post v H') :
    JK ⟨none, P, FnQ P fn N R0 post, N, M⟩ D R H L (.code .ret :: K) := by
  refine ⟨fun a w hf hd hs => wpIn_ret (lO K a w ?_)⟩
  show jZ _ _ _ _ a.defers w
  rw [hd]
  exact m.run hs (fun w' hs' => ⟨v, hv a w' hf hs', H', hp, (hs'.rsub hR).sel hH⟩)
end
section
variable {C:Cx} {D:List Deferred} {R H:List PH} {L:Env} {K:List It}
def SlE {α:Type} (enc:α->List Value) (s:Nat) (ρ:PH) (v:Value) (l:List α):Prop:=qO ρ s v l.length (l.flatMap enc)
theorem kT {α:Type} {enc:α->List Value} {s:Nat} (he:∀ x,(enc x).length=s):∀ l:List α,(l.flatMap enc).length=l.length*s:=by
  intro l
  induction l with
  | nil=>simp
  | cons x l ih=>simp [he,ih,cZ]; omega
theorem aHa {α:Type} {enc:α->List Value} {s:Nat} (he:∀ x,(enc x).length=s):∀ (l:List α) (i:Nat) (x:α),l[i]?=some x->∀ j v,(enc x)[j]?=some v->(l.flatMap enc)[i*s+j]?=some v:=by
  intro l
  induction l with
  | nil=>intro i x h; simp at h
  | cons y l ih =>
    intro i x h j v hv
    have hj:j<s:=by
      have:=(aC.1 hv).1
      rw [he] at this; exact this
    cases i with
    | zero =>
      simp at h; subst h
      rw [cU,cM (by rw [he]; omega)]
      simpa using hv
    | succ i =>
      simp at h
      rw [cU,bY (by rw [he,cZ]; omega)]
      rw [he,show (i+1)*s+j-s=i*s+j from by rw [cZ]; omega]
      exact ih i x h j v hv
def nH {α:Type} (enc:α->List Value) (s:Nat) (ρ:PH) (p:Option Addr) (l:List α):Prop:=∀ i x,l[i]?=some x->∃ b o,p=some ⟨b,o,none⟩/\RdN ρ b (o+i*s) (enc x)
theorem SlE.val {α:Type} {enc:α->List Value} {s:Nat} {ρ:PH} {v:Value} {l:List α} (he:∀ x,(enc x).length=s) (h:SlE enc s ρ v l):∃ p c,v=.slice p l.length c/\nH enc s ρ p l:=by
  obtain ⟨hl,⟨hn,p,c,rfl⟩|⟨b,o,c,rfl,hr⟩⟩:=h
  · refine ⟨p,c,by rw [hn],fun i x hx=>?_⟩
    have:l=[]:=dE hn
    subst this
    simp at hx
  · refine ⟨_,c,rfl,fun i x hx=>⟨b,o,rfl,fun j u hu=>?_⟩⟩
    have:=hr (i*s+j) u (aHa he l i x hx j u hu)
    rwa [← dL] at this
theorem RdN.get {ρ:PH} {b o:Nat} {vs:List Value} (h:RdN ρ b o vs) {j:Nat} {v:Value} (hv:vs[j]?=some v):rdc ρ b (o+j)=some v:=h j v hv
theorem RdN.get0 {ρ:PH} {b o:Nat} {v:Value} {vs:List Value} (h:RdN ρ b o (v::vs)):rdc ρ b o=some v:=h 0 v rfl
abbrev int (n:Int):Value:=.int .i64 n
def encI (n:Int):List Value:=[int n]
abbrev gC (ρ:PH) (v:Value) (l:List Int):Prop:=SlE encI 1 ρ v l
theorem encI_len (x:Int):(encI x).length=1:=rfl
theorem nH.int {ρ:PH} {p:Option Addr} {l:List Int} (h:nH encI 1 ρ p l) {i:Nat} {x:Int} (hx:l[i]?=some x):∃ b o,p=some ⟨b,o,none⟩/\rdc ρ b (o+i)=some (int x):=by
  obtain ⟨b,o,e,hr⟩:=h i x hx
  refine ⟨b,o,e,?_⟩
  have:=hr.get0
  rwa [fJ] at this
section
variable {N:Bs} {b i:Nat} {t:TypeId} {fr:Nat × Nat}
end
section
variable {dst:Option Tmp} {ty:TypeId} {pos:String} {aft:Array Edge} {g:Option (Nat × Bool)}
end
/-! chunks that are variables -/
theorem gA.all:∀ {H:List PH},gA H H []
  | []=>gA.nil
  | _::_=>gA.cons gU.here gA.all
theorem gA.skip {σ:PH} {H T H':List PH} (h:gA H T H'):gA (σ::H) T (σ::H'):=by
  induction h with
  | nil=>exact gA.nil
  | cons t _ ih=>exact gA.cons (gU.there t) ih
theorem Sel.refl:∀ {H:List PH},Sel H H
  | []=>Sel.nil
  | _::_=>Sel.cons gU.here Sel.refl
theorem Sel.skip {σ:PH} {H H':List PH} (h:Sel H H'):Sel (σ::H) H':=by
  induction h with
  | nil=>exact Sel.nil
  | cons t _ ih=>exact Sel.cons (gU.there t) ih
def PH.sub (ρ γ:PH):Prop:=∀ b o,ρ b=some o->γ b=some o
theorem PH.sub.rdc {ρ γ:PH} (h:PH.sub ρ γ) {b o:Nat} {v:Value} (hv:Eng.rdc ρ b o=some v):Eng.rdc γ b o=some v:=by
  unfold Eng.rdc at hv ⊢
  cases e:ρ b with
  | none=>rw [e] at hv; simp at hv
  | some ob=>rw [e] at hv; rw [h b ob e]; exact hv
theorem PH.sub.slE {α:Type} {enc:α->List Value} {s:Nat} {ρ γ:PH} (h:PH.sub ρ γ) {v:Value} {l:List α} (hv:SlE enc s ρ v l):SlE enc s γ v l:=by
  obtain ⟨h1,h2|⟨b,o,c,e,h2⟩⟩:=hv
  · exact ⟨h1,.inl h2⟩
  · exact ⟨h1,.inr ⟨b,o,c,e,fun j u hu=>h.rdc (h2 j u hu)⟩⟩
theorem PH.sub.trans {ρ σ τ:PH} (h:PH.sub ρ σ) (h':PH.sub σ τ):PH.sub ρ τ:=fun b o hb=>h' b o (h b o hb)
theorem DF {ρ σ:PH} {H1 H2:List PH} (t1:gU ρ H H1) (t2:gU σ H1 H2) (h:∀ γ,PH.sub ρ γ->PH.sub σ γ->JK C D R (γ::H2) L K):JK C D R H L K:=by
  by_cases hd:ρ.disj σ
  · let γ:PH:=fun b=>match ρ b with
      | some o=>some o
      | none=>σ b
    have g1:PH.sub ρ γ:=fun b o hb=>by simp only [γ,hb]
    have g2:PH.sub σ γ:=fun b o hb=>by
      have:=(hd b).resolve_right (by simp [hb])
      simp only [γ,this,hb]
    have g3:∀ b,γ b≠none->ρ b≠none\/σ b≠none:=fun b hb=>by
      cases e:ρ b with
      | some o=>left; simp
      | none=>right; simp only [γ,e] at hb; exact hb
    refine ⟨fun a w hf hdf hs=>(h γ g1 g2).run a w hf hdf ?_⟩
    have s1:=hs.take t1
    have s2:=s1.tail.take t2
    have p1:=t1.pw hs.hd
    have p2:=t2.pw p1.1
    have hγ:∀ τ:PH,ρ.disj τ->σ.disj τ->γ.disj τ:=fun τ a1 a2 b=>by
      by_cases e:γ b=none
      · exact .inl e
      · rcases g3 b e with e1|e1
        · exact .inr ((a1 b).resolve_left e1)
        · exact .inr ((a2 b).resolve_left e1)
    refine ⟨hs.sz,hs.r,fun τ hτ=>?_,aW.2 ⟨fun τ hτ=>hγ τ (p1.2 τ (t2.sub τ hτ)) (p2.2 τ hτ),p2.1⟩,fun τ hτ υ hυ=>?_⟩
    · simp at hτ
      rcases hτ with rfl|hτ
      · intro b o hb
        cases e:ρ b with
        | some o' =>
          simp only [γ,e] at hb
          have:=hs.h ρ t1.mem b o' e
          rw [this]; exact hb
        | none =>
          simp only [γ,e] at hb;exact hs.h σ (t1.sub σ t2.mem) b o hb
      · exact hs.h τ (t1.sub τ (t2.sub τ hτ))
    · simp at hυ
      rcases hυ with rfl|hυ
      · exact (hγ τ (hs.rd τ hτ ρ t1.mem).symm (hs.rd τ hτ σ (t1.sub σ t2.mem)).symm).symm
      · exact hs.rd τ hτ υ (t1.sub υ (t2.sub υ hυ))
  · refine ⟨fun a w hf hdf hs=>?_⟩
    exact absurd ((t1.pw hs.hd).2 σ t2.mem) hd
section
variable {all:Array Oper} {rest:List Oper} {d:Nat} {ty:TypeId} {x:Operand} {xs:Array Operand} {ts:Array TypeId} {pos:String} {aft:Array Edge} {g:Option (Nat × Bool)} {f:Value} {vs:List Value} {R1 H1 H2:List PH}
theorem BG {post:Value->List PH->Prop} (hs:Spec C.P f vs R1 H1 post) (hf:fM L x=some f) (ha:jP L xs.toList=some vs) (ht:gA H H1 H2) (hr:jK R1 R H2) (hg:gT all L ⟨some d,.call ⟨.value x,xs,ts⟩,ty,pos,aft,g⟩=some true) (hM:Nat.blt d C.M=true)
    (h:∀ v H',post v H'->JK C D R (H' ++ H2) ((d,v)::L) (.ops all rest::K)):JK C D R H L (.ops all (⟨some d,.call ⟨.value x,xs,ts⟩,ty,pos,aft,g⟩::rest)::K):=
  CR (mI hs hf ha ht hr) hg rfl hM (fun v H' ⟨H1',e,hp⟩=>by subst e; exact h v H1' hp)
variable {done ps ls:List Nat} {i:Nat} {plan:Pl} {Hf:List PH}
theorem CS {post:Value->List PH->Prop} (ho:all[i]?=some ⟨some d,.call ⟨.value x,xs,ts⟩,ty,pos,aft,g⟩) (hs:Spec C.P f vs R1 H1 post) (hf:fM L x=some f) (ha:jP L xs.toList=some vs) (ht:gA H H1 H2) (hr:jK R1 R H2) (hg:gT all L ⟨some d,.call ⟨.value x,xs,ts⟩,ty,pos,aft,g⟩=some true) (hM:Nat.blt d C.M=true)
    (hsub:∀ v H',post v H'->∀ w,Sat C.N R (H' ++ H2) w->Sat C.N R Hf w)
    (h:∀ v H',post v H'->DJ C D R Hf (H' ++ H2) ((d,v)::L) all (i::done) ps (i::ls) plan K):mV C D R Hf H L all done ps ls i .b plan K:=
  a_b ho (mI hs hf ha ht hr) hg rfl hM (fun v H' ⟨H1',e,hp⟩ w hw=>by subst e; exact hsub v H1' hp w hw) (fun v H' ⟨H1',e,hp⟩=>by subst e; exact h v H1' hp)
theorem C8 {post:Value->List PH->Prop} (ho:all[i]?=some ⟨some d,.call ⟨.value x,xs,ts⟩,ty,pos,aft,g⟩) (hs:Spec C.P f vs R1 [] post) (hf:fM L x=some f) (ha:jP L xs.toList=some vs) (hr:jK R1 R H) (hg:gT all L ⟨some d,.call ⟨.value x,xs,ts⟩,ty,pos,aft,g⟩=some true) (hM:Nat.blt d C.M=true)
    (h:∀ v H',post v H'->DJ C D R Hf (H' ++ H) ((d,v)::L) all (i::done) ps (i::ls) plan K):mV C D R Hf H L all done ps ls i .e plan K:=
  a_e ho (mI hs hf ha gA.nil hr) hg rfl hM (fun v H' ⟨H1',e,hp⟩ w hw=>by
    subst e
    exact ⟨hw.sz,hw.r,fun ρ hρ=>hw.h ρ (by simp [hρ]),(cC.1 hw.hd).2.1,fun ρ hρ σ hσ=>hw.rd ρ hρ σ (by simp [hσ])⟩) (fun v H' ⟨H1',e,hp⟩=>by subst e; exact h v H1' hp)
end
end
section
variable {C:Cx} {D:List Deferred} {R H:List PH} {L:Env} {K:List It}
variable {dst:Option Tmp} {ty:TypeId} {pos:String} {aft:Array Edge} {g:Option (Nat × Bool)}
inductive uR (v:Value):List Value->Nat->List Value->Prop
  | here {u:Value} {l:List Value}:uR v (u::l) 0 (v::l)
  | there {u:Value} {l l':List Value} {i:Nat}:uR v l i l'->uR v (u::l) (i+1) (u::l')
theorem uR.eq {v:Value} {l l':List Value} {i:Nat} (h:uR v l i l'):i<l.length/\l'=l.set i v:=by
  induction h with
  | here=>simp
  | there _ ih=>simp [ih.1,ih.2]
theorem EC {t T:TypeId} {x y:Operand} {b o:Nat} {l l':List Value} {v:Value} {H':List PH} (h:fM L x=some (.pointer (some ⟨b,o,none⟩))) (hv:fM L y=some v) (h1:v.oneCell'=true) (hn:szP C.P t=some 1)
    (ht:gU (sng b (.cells l.toArray T (0,0))) H H') (hs:uR v l o l') :
    iX C R H L ⟨dst,.store t x y,ty,pos,aft,g⟩ (fun u H2=>u=undef/\H2=sng b (.cells l'.toArray T (0,0))::H'):=by
  have:=GY (C:=C) (R:=R) (L:=L) (dst:=dst) (ty:=ty) (pos:=pos) (aft:=aft) (g:=g) h hv h1 hn ht (by simpa using hs.eq.1)
  rw [hs.eq.2]
  simpa using this
end
section
variable {C:Cx} {D:List Deferred} {R H:List PH} {L:Env} {K:List It}
def sS (μ:PH) (ms:List Nat):Prop:=ms.Nodup/\∀ b∈ms,μ b=some aAn
theorem sS.nil:sS emp []:=⟨by simp,by simp⟩
theorem C9 {b:Nat} {μ:PH} {ms:List Nat} {H1 H2:List PH} (t1:gU (sng b aAn) H H1) (t2:gU μ H1 H2) (hm:sS μ ms) (h:∀ μ',sS μ' (b::ms)->JK C D R (μ'::H2) L K):JK C D R H L K:=by
  by_cases hb:μ b=none
  · refine DF t1 t2 (fun γ g1 g2=>h γ ⟨eM.2 ⟨fun hin=>?_,hm.1⟩,fun c hc=>?_⟩)
    · rw [hm.2 b hin] at hb; simp at hb
    · simp at hc
      rcases hc with rfl|hc
      · exact g1 _ _ (jT _ _)
      · exact g2 _ _ (hm.2 c hc)
  · refine ⟨fun a w hf hd hs=>?_⟩
    have:=(t1.pw hs.hd).2 μ t2.mem b
    rcases this with e|e
    · simp [jT] at e
    · exact absurd e hb
theorem sS.run {P:Program} {fn:Func} {tmps:Array Value} {S:Value->World->Prop} {N:Bs}:∀ {ms:List Nat} {μ:PH} {w:World},sS μ ms->Sat N R (μ::H) w->(∀ w',Sat N R H w'->∃ v,(results fn tmps).run P w'=.ok v w'/\S v w')->jZ P fn tmps S (ms.map mk) w:=by
  intro ms
  induction ms with
  | nil=>intro μ w _ hs h; exact h w hs.tail
  | cons b ms ih =>
    intro μ w hm hs h
    have hb:w.heap[b]?=some aAn:=hs.h μ (by simp) b _ (hm.2 b (by simp))
    refine ⟨b,{ w with heap:=w.heap.setIfInBounds b (.deferred none) },rfl,by simp [Instr.takeDeferred,getObj,setObj,Sem.run,hb],?_⟩
    have hnd:=eM.1 hm.1
    let μ':PH:=fun c=>if c=b then none else μ c
    have hμ':sS μ' ms:=⟨hnd.2,fun c hc=>by
      have hne:c≠b:=fun e=>by subst e; exact hnd.1 hc
      simp only [μ',if_neg hne]
      exact hm.2 c (by simp [hc])⟩
    have hp:=aW.1 hs.hd
    have keep:∀ ρ:PH,ρ b=none->ρ.le w->ρ.le { w with heap:=w.heap.setIfInBounds b (.deferred none) }:=fun ρ hn hr c o hc=>by
      have hne:b≠c:=fun e=>by subst e; rw [hn] at hc; simp at hc
      simp only [cG,if_neg hne];exact hr c o hc
    have hμb:μ b≠none:=by rw [hm.2 b (by simp)]; simp
    have dj:∀ τ:PH,μ.disj τ->μ'.disj τ:=fun τ hd c=>by
      by_cases e:c=b
      · left; simp only [μ',if_pos e]
      · simp only [μ',if_neg e]; exact hd c
    refine ih hμ' (μ:=μ') ⟨by simp; exact hs.sz,fun ρ hρ=>keep ρ ((hs.rd ρ hρ μ (by simp) b).resolve_right hμb) (hs.r ρ hρ),fun ρ hρ=>?_,aW.2 ⟨fun τ hτ=>dj τ (hp.1 τ hτ),hp.2⟩,fun ρ hρ σ hσ=>?_⟩ h
    · simp at hρ
      rcases hρ with rfl|hρ
      · refine keep μ' (by simp only [μ',if_true]) (fun c o hc=>?_)
        simp only [μ'] at hc
        split at hc
        · simp at hc
        · exact hs.h μ (by simp) c o hc
      · exact keep ρ ((hp.1 ρ hρ b).resolve_left hμb) (hs.h ρ (by simp [hρ]))
    · simp at hσ
      rcases hσ with rfl|hσ
      · exact (dj ρ (hs.rd ρ hρ μ (by simp)).symm).symm
      · exact hs.rd ρ hρ σ (by simp [hσ])
theorem DY {P:Program} {fn:Func} {N:Bs} {M:Nat} {R R0 H H1 H':List PH} {L:Env} {K:List It} {post:Value->List PH->Prop} {v:Value} {ms:List Nat} {μ:PH} (m:sS μ ms) (t:gU μ H H1)
    (hv:∀ a w,Frm M L a->Sat N R H1 w->(results fn a.tmps).run P w=.ok v w) (hR:∀ ρ∈R0,ρ∈R) (hH:Sel H1 H') (hp:post v H') :
    JK ⟨none,P,FnQ P fn N R0 post,N,M⟩ (ms.map mk) R H L (.code .ret::K):=by
  refine ⟨fun a w hf hd hs=>wpIn_ret (lO K a w ?_)⟩
  show jZ _ _ _ _ a.defers w
  rw [hd]
  exact m.run (hs.take t) (fun w' hs'=>⟨v,hv a w' hf hs',H',hp,(hs'.rsub hR).sel hH⟩)
theorem ED {R':List PH} (hR:∀ ρ∈R',ρ∈R) (h:JK C D R' H L K):JK C D R H L K:=
  ⟨fun a w hf hd hs=>h.run a w hf hd (hs.rsub hR)⟩
def aP5 {X:Type} (C:Cx) (Dx:X->List Deferred) (R:List PH) (Inv:X->Prop) (Lx:X->Env) (Hx:X->List PH) (μ:X->Nat) (m:Nat) (a:Act) (w:World):Prop:=
  ∃ x,Inv x/\μ x<m/\Frm C.M (Lx x) a/\a.defers=Dx x/\Sat C.N R (Hx x) w
theorem EE {X:Type} {c:Code} {Lk:Env} (keep:List Nat) (x0:X) (Dx:X->List Deferred) (Inv:X->Prop) (Lx:X->Env) (Hx:X->List PH) (μ:X->Nat)
    (hk:wP L keep Lk) (hD:D=Dx x0) (h0:Inv x0) (hL:nG L (Lx x0)) (hH:Sel H (Hx x0))
    (round:∀ x,Inv x->JK C (Dx x) R (Hx x) (Lx x ++ Lk) (.code c::.till (aP5 C Dx R Inv (fun y=>Lx y ++ Lk) Hx μ (μ x))::K)) :
    JK C D R H L (.code (.loop c)::K):=by
  refine ⟨fun a w hf hd hs=>?_⟩
  refine tC (fun m a w=>∃ x,Inv x/\μ x=m/\Frm C.M (Lx x ++ Lk) a/\a.defers=Dx x/\Sat C.N R (Hx x) w) (m:=μ x0)
    ⟨x0,h0,rfl,hf.cover (hL.append hk.cover),hd.trans hD,hs.sel hH⟩ ?_
  rintro m a w ⟨x,hI,rfl,hf,hd,hs⟩
  refine wpIn_mono ((round x hI).run a w hf hd hs) (fun e a' w' hq=>?_)
  cases e with
  | normal =>
    obtain ⟨y,h1,h2,h3,h4,h5⟩:=hq
    exact ⟨μ y,h2,y,h1,rfl,h3,h4,h5⟩
  | _=>exact hq
theorem DZ {X:Type} {Dx:X->List Deferred} {Inv:X->Prop} {Lx:X->Env} {Hx:X->List PH} {μ:X->Nat} {m:Nat} (y:X) (hD:D=Dx y) (h1:Inv y) (h2:μ y<m) (h3:nG L (Lx y)) (h4:Sel H (Hx y)) :
    JK C D R H L (.till (aP5 C Dx R Inv Lx Hx μ m)::K):=
  ⟨fun _ _ hf hd hs=>⟨y,h1,h2,hf.cover h3,hd.trans hD,hs.sel h4⟩⟩
end
section
variable {C:Cx} {D:List Deferred} {R Hf H:List PH} {L:Env} {K:List It} {ps ls:List Nat}
section
variable {dst:Option Tmp} {ty:TypeId} {pos:String} {aft:Array Edge} {g:Option (Nat × Bool)}
end
theorem DM {H':List PH} (hp:H.Perm H') (h:JK C D R H' L K):JK C D R H L K:=
  ⟨fun a w hf hd hs=>h.run a w hf hd (hs.perm hp)⟩
theorem ER:∀ {A B:List PH},(∀ γ,(∀ ρ∈A,PH.sub ρ γ)->JK C D R (γ::B) L K)->JK C D R (A ++ B) L K
  | [],B,h=>B9 (h emp (by simp))
  | ρ::A,B,h=>by
    refine DM (H':=A ++ (ρ::B)) (by simpa using List.perm_middle.symm) (ER (fun γ hγ=>?_))
    refine DF (gU.there gU.here) gU.here (fun δ g1 g2=>h δ (fun σ hσ=>?_))
    simp at hσ
    rcases hσ with rfl|hσ
    · exact g1
    · exact (hγ σ hσ).trans g2
end
section
variable {C:Cx} {D:List Deferred} {R H:List PH} {L:Env} {K:List It}
theorem Upd.frame {N:Bs} {H H1 F:List PH} {w w':World} (hs:Sat N R (H ++ F) w) (u:Upd H H1 w w'):Upd (H ++ F) (H1 ++ F) w w' where
  size:=u.size
  keep:=fun b hb hno=>u.keep b hb (fun ρ hρ=>hno ρ (by simp [hρ]))
  own:=fun ρ hρ=>(hs.upd u).h ρ hρ
  hd:=(hs.upd u).hd
  new:=fun ρ hρ b hb=>by
    rcases aM.1 hρ with h|h
    · rcases u.new ρ h b hb with ⟨σ,hσ,h2⟩|h2
      · exact .inl ⟨σ,by simp [hσ],h2⟩
      · exact .inr h2
    · exact .inl ⟨ρ,by simp [h],hb⟩
end
section
variable {C:Cx} {D:List Deferred} {R H:List PH} {L:Env} {K:List It}
def aVs {α:Type} (enc:α->List Value) (l:List α):Array Value:=(l.flatMap enc).toArray
theorem aHb {α:Type} {enc:α->List Value} {s:Nat} (he:∀ x,(enc x).length=s):∀ (l:List α) (i:Nat) (x:α),i<l.length->(l.set i x).flatMap enc=(l.flatMap enc).take (i*s) ++ enc x ++ (l.flatMap enc).drop (i*s+s)
  | [],i,x,h=>by simp at h
  | y::l,0,x,_=>by
    have:(enc y).length=s:=he y
    simp only [List.set_cons_zero,cU,Nat.zero_mul,List.take_zero,aH,bZ];rw [← this,List.drop_left]
  | y::l,i+1,x,h=>by
    have ih:=aHb he l i x (by simpa using h)
    have hy:(enc y).length=s:=he y
    simp only [List.set_cons_succ,cU]
    have e1:(i+1)*s=(enc y).length+i*s:=by rw [hy,cZ]; omega
    have e2:(i+1)*s+s=(enc y).length+(i*s+s):=by rw [e1]; omega
    have h1:(enc y ++ l.flatMap enc).take ((enc y).length+i*s)=enc y ++ (l.flatMap enc).take (i*s):=by
      rw [fH,bV (l:=enc y) (by omega)]
      congr 2
      omega
    have h2:(enc y ++ l.flatMap enc).drop ((enc y).length+(i*s+s))=(l.flatMap enc).drop (i*s+s):=by
      rw [List.drop_append,cE (l:=enc y) (by omega),aH]
      congr 1
      omega
    rw [ih,e2,e1,h1,h2]
    simp
theorem oI {α:Type} {enc:α->List Value} {s:Nat} (he:∀ x,(enc x).length=s) {b:Nat} {l:List α} {t:TypeId} {fr:Nat × Nat} {c:Nat}:SlE enc s (sng b (.cells (aVs enc l) t fr)) (.slice (some ⟨b,0,none⟩) l.length c) l:=by
  refine ⟨kT he l,.inr ⟨b,0,c,rfl,fun j u hu=>?_⟩⟩
  rw [kE,bZ]
  simpa [aVs] using hu
section
variable {dst:Option Tmp} {ty:TypeId} {pos:String} {aft:Array Edge} {g:Option (Nat × Bool)}
theorem q_dbl {x y:Operand} {xT yT:TypeId} {j:Nat} (h1:fM L x=some (.int .i64 2)) (h2:fM L y=some (.int .i64 (j:Int))) (hr:j<=4611686018427387903):fO C R H L ⟨dst,.binOp .mul xT x y yT,ty,pos,aft,g⟩ (.int .i64 ((2*j:Nat):Int)):=by
  have:=GU (C:=C) (R:=R) (H:=H) (dst:=dst) (ty:=ty) (pos:=pos) (aft:=aft) (g:=g) (xT:=xT) (yT:=yT) h1 h2 ⟨by omega,by omega⟩
  rwa [show 2*(j:Int)=((2*j:Nat):Int) from by omega] at this
end
end
section
variable {C:Cx} {D:List Deferred} {R H:List PH} {L:Env} {K:List It}
section
variable {dst:Option Tmp} {ty:TypeId} {pos:String} {aft:Array Edge} {g:Option (Nat × Bool)}
theorem GP {x y:Operand} {t e yT:TypeId} {a:Option Addr} {n c:Nat} (h:fM L x=some (.slice a n c)) (h2:fM L y=some (.slice none 0 0)) (ht:mT C.P t=some e) :
    fO C R H L ⟨dst,.binOp .eql t x y yT,ty,pos,aft,g⟩ (.bool a.isNone):=
  ⟨by intro c; simp,fun ac w hx _=>by
    have e1:=hx x (by simp [Op.operands]) _ h
    have e2:=hx y (by simp [Op.operands]) _ h2
    have hr:=Go.run_eql_slice_nil (P:=C.P) w t e a n c (jU ht)
    simp [execOp,e1,e2,eqGuard,hr]⟩
theorem FD {x y:Operand} {t e yT:TypeId} {n c:Nat} (h:fM L x=some (.slice none n c)) (h2:fM L y=some (.slice none 0 0)) (ht:mT C.P t=some e) :
    fO C R H L ⟨dst,.binOp .eql t x y yT,ty,pos,aft,g⟩ (.bool true):=GP h h2 ht
theorem F0 {x y:Operand} {t e yT:TypeId} {a:Addr} {n c:Nat} (h:fM L x=some (.slice (some a) n c)) (h2:fM L y=some (.slice none 0 0)) (ht:mT C.P t=some e) :
    fO C R H L ⟨dst,.binOp .eql t x y yT,ty,pos,aft,g⟩ (.bool false):=GP h h2 ht
end
theorem fS.empty {e:TypeId} {size b:Nat}:fS e size (.slice (some ⟨b,0,none⟩) 0 0) 0 [] (sng b (.cells #[] e (0,0))):=⟨by simp,.inr ⟨b,0,#[],rfl,rfl,by omega,by simp,by simp,by simp⟩⟩
theorem fS.block {α:Type} {enc:α->List Value} {s:Nat} {e:TypeId} {v:Value} {l:List α} {ρ:PH} (h:fS e s v l.length (l.flatMap enc) ρ) :
    (v=.slice none 0 0/\l=[]/\ρ=emp)\/∃ b cap cur,v=.slice (some ⟨b,0,none⟩) l.length cap/\ρ=sng b (.cells cur e (0,0))/\l.length<=cap/\cap<=maxLen/\cur.size=cap*s/\cur.toList.take (l.length*s)=l.flatMap enc:=by
  obtain ⟨_,⟨rfl,h2,rfl⟩|⟨b,cap,cur,rfl,rfl,h1,h2,h3,h4⟩⟩:=h
  · exact .inl ⟨rfl,dE h2,rfl⟩
  · exact .inr ⟨b,cap,cur,rfl,rfl,h1,h2,h3,h4⟩
theorem DU {dst:Option Tmp} {ty:TypeId} {pos:String} {aft:Array Edge} {g:Option (Nat × Bool)} {α:Type} {enc:α->List Value} {s:Nat} (he:∀ x,(enc x).length=s) {t e:TypeId} {x y:Operand} {b o cap:Nat} {l:List α} {a:α} {ρ:PH} {H':List PH} (i:Nat)
    (hO:fS e s (.slice (some ⟨b,0,none⟩) l.length cap) l.length (l.flatMap enc) ρ) (h:fM L x=some (.pointer (some ⟨b,o,none⟩))) (ho:o=i*s) (hv:fM L y=some (.agg (enc a).toArray)) (h1:∀ v∈enc a,v.oneCell'=true)
    (hn:szP C.P t=some s) (ht:gU ρ H H') (hi:i<l.length) :
    iX C R H L ⟨dst,.store t x y,ty,pos,aft,g⟩ (fun u H2=>u=undef/\∃ ρ',fS e s (.slice (some ⟨b,0,none⟩) (l.set i a).length cap) (l.set i a).length ((l.set i a).flatMap enc) ρ'/\H2=ρ'::H'):=by
  subst ho
  obtain ⟨h0,⟨h2,_⟩|⟨b',cap',cur,h2,rfl,k1,k2,k3,k4⟩⟩:=hO
  · simp at h2
  · simp only [aN,aD,eI,and_true,true_and] at h2
    obtain ⟨rfl,rfl⟩:=h2
    have hle:i*s+s<=l.length*s:=by
      have:=dG s (show i+1<=l.length from hi)
      rw [cZ] at this; omega
    have hle2:l.length*s<=cap*s:=dG s k1
    have:=FH (C:=C) (R:=R) (L:=L) (dst:=dst) (ty:=ty) (pos:=pos) (aft:=aft) (g:=g) h hv h1 (by rw [he]; exact hn) ht (by rw [he]; omega)
    rw [he] at this
    refine ⟨fun ac w hx hs next Q hnx=>this.run ac w hx hs next Q (fun v H2 w' hp hs'=>?_)⟩
    obtain ⟨rfl,rfl⟩:=hp
    refine hnx _ _ _ ⟨rfl,_,⟨kT he _,.inr ⟨b,cap,_,rfl,rfl,by simpa using k1,k2,?_,?_⟩⟩,rfl⟩ hs'
    · simp only [dN,aB,aL,cB,cI,he]
      omega
    · rw [aHb he l i a hi,← k4,cQ]
      have e1:(cur.toList.take (l.length*s)).take (i*s)=cur.toList.take (i*s):=by rw [List.take_take]; congr 1; omega
      have e2:(cur.toList.take (l.length*s)).drop (i*s+s)=(cur.toList.drop (i*s+s)).take (l.length*s-(i*s+s)):=List.drop_take ..
      rw [e1,e2]
      have hl1:(cur.toList.take (i*s)).length=i*s:=by rw [aL,cI]; omega
      rw [aR,aR,fH,hl1,bV (by omega),fH,he,bV (l:=enc a) (by rw [he]; omega)]
      congr 3
      omega
end
variable {C:Cx} {D:List Deferred} {R H:List PH} {L:Env} {K:List It}
end Go.Eng
