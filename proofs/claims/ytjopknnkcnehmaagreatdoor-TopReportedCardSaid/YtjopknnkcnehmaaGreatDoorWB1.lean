/- Texts of this proof, one after the other; no conditions. -/
import Derived.Test.YtjopknnkcnehmaaGreatDoorWB0
set_option linter.all false
/- A region that draws its order: reads may come at any time, what acts comes in its place. No conditions. -/
namespace Go.Eng
variable {C:Cx} {D:List Deferred} {R H Hf:List PH} {L:Env} {K:List It} {ps ls:List Nat}
inductive Kd where
  | e|b
def predsOf (all:Array Oper) (i:Nat):List Nat:=match all[i]? with
  | some o=>o.after.toList.filterMap (fun e=>if Region.binds .any e then some e.on else none)
  | none=>[]
def dstOf (all:Array Oper) (i:Nat):List Nat:=match all[i]? with
  | some o=>o.dst.toList
  | none=>[]
def rdsOf (all:Array Oper) (i:Nat):List Nat:=match all[i]? with
  | some o=>readsOf all o
  | none=>[]
def readyL (all:Array Oper) (done:List Nat):List Nat:=
  (List.range all.size).filter fun i=>!done.contains i && (predsOf all i).all (done.contains ·)
def closeP (all:Array Oper):Nat→List Nat→List Nat→List Nat
  | 0,_,acc=>acc
  | _,[],acc=>acc
  | f+1,j::todo,acc=>if acc.contains j then closeP all f todo acc else closeP all f (predsOf all j ++ todo) (j::acc)
def freshOK (all:Array Oper) (done:List Nat) (i:Nat):Bool:=
  (dstOf all i).all fun d=>!(rdsOf all i).contains d && done.all fun j=>!(rdsOf all j).contains d && !(dstOf all j).contains d
def dataOK (all:Array Oper) (done:List Nat) (i:Nat):Bool:=
  done.all fun j=>(dstOf all j).all fun d=>!(rdsOf all i).contains d || (predsOf all i).contains j
inductive Pl where
  | nil
  | q (i:Nat) (r:Pl)
  | p (i:Nat) (r:Pl)
  | l (i:Nat) (k:Kd) (r:Pl)
  | l2 (i:Nat) (k:Kd) (r:Pl) (j:Nat) (k':Kd) (r':Pl)
  | l3 (i:Nat) (k:Kd) (r:Pl) (j:Nat) (k':Kd) (r':Pl) (m:Nat) (k'':Kd) (r'':Pl)
def readOK (all:Array Oper) (done:List Nat) (i:Nat):Bool:=(readyL all done).contains i && freshOK all done i && dataOK all done i
def loudOK (all:Array Oper) (done ps ls:List Nat) (i:Nat):Kd→Bool
  | .e=>freshOK all done i && dataOK all done i
  | .b=>done.all fun j=>((closeP all (all.size*all.size) (predsOf all i) []).contains j || ls.contains j) || (ps.contains j && freshOK all [j] i && dataOK all [j] i)
def planOK (all:Array Oper):List Nat→List Nat→List Nat→Pl→Bool
  | done,_,_,.nil=>(readyL all done).isEmpty
  | done,ps,ls,.q i r=>readOK all done i && planOK all (i::done) ps ls r
  | done,ps,ls,.p i r=>readOK all done i && planOK all (i::done) (i::ps) ls r
  | done,ps,ls,.l i k r=>readyL all done == [i] && (loudOK all done ps ls i k && planOK all (i::done) ps (i::ls) r)
  | done,ps,ls,.l2 i k r j k' r'=>readyL all done == [i,j] && ((loudOK all done ps ls i k && planOK all (i::done) ps (i::ls) r) && (loudOK all done ps ls j k' && planOK all (j::done) ps (j::ls) r'))
  | done,ps,ls,.l3 i k r j k' r' m k'' r''=>readyL all done == [i,j,m] && ((loudOK all done ps ls i k && planOK all (i::done) ps (i::ls) r) && ((loudOK all done ps ls j k' && planOK all (j::done) ps (j::ls) r') && (loudOK all done ps ls m k'' && planOK all (m::done) ps (m::ls) r'')))
def isL (listed:Array Bool) (i:Nat):Prop:=listed.getD i true=true
theorem mem_ready {all:Array Oper} {listed:Array Bool} {i:Nat}:i∈Region.ready .any all listed↔i<all.size∧¬ isL listed i∧∀ j∈predsOf all i,listed.getD j false=true:=by
  unfold Region.ready isL predsOf;simp only [List.mem_filter,List.mem_range,Bool.and_eq_true,Bool.not_eq_true']
  constructor
  · rintro ⟨h1,h2,h3⟩
    refine ⟨h1,by simp [h2],?_⟩
    rw [Array.getElem?_eq_getElem h1] at h3 ⊢;simp only [Option.map_some,Option.getD_some,Array.all_eq_true',Bool.or_eq_true,Bool.not_eq_true'] at h3
    intro j hj
    simp only [List.mem_filterMap] at hj
    obtain ⟨e,he,hje⟩:=hj
    split at hje
    · rename_i hb
      simp at hje; subst hje
      rcases h3 e (by simpa using he) with h|h
      · rw [hb] at h; simp at h
      · exact h
    · simp at hje
  · rintro ⟨h1,h2,h3⟩
    refine ⟨h1,by simpa using h2,?_⟩
    rw [Array.getElem?_eq_getElem h1] at h3 ⊢;simp only [Option.map_some,Option.getD_some,Array.all_eq_true',Bool.or_eq_true,Bool.not_eq_true']
    intro e he
    cases hb:Region.binds .any e with
    | false=>exact .inl rfl
    | true=>exact .inr (h3 e.on (by simp only [List.mem_filterMap]; exact ⟨e,by simpa using he,by simp [hb]⟩))
theorem mem_readyL {all:Array Oper} {done:List Nat} {i:Nat}:i∈readyL all done↔i<all.size∧i∉done∧∀ j∈predsOf all i,j∈done:=by
  unfold readyL
  simp [List.mem_filter]
def Prom (C:Cx) (R H:List PH) (L:Env) (all:Array Oper) (o:Oper) (v:Value):Prop:=
  (wantE all L o=some true∧Quiet C R H L o v)∨(wantE all L o=some false∧v=undef)
def Chron (all:Array Oper):List Nat→Prop
  | []=>True
  | i::rest=>i<all.size∧(∀ j∈predsOf all i,j∈rest)∧Chron all rest
structure DInv (C:Cx) (D:List Deferred) (R Hf H:List PH) (L:Env) (all:Array Oper) (done ps ls:List Nat) (listed:Array Bool) (fuel:Nat) (a:Act) (w:World):Prop where
  size:listed.size=all.size
  dc:∀ i,i<all.size→isL listed i→∀ j∈predsOf all i,j<all.size∧isL listed j
  sub:∀ i,i<all.size→isL listed i→i∈done
  fuel:((List.range all.size).filter fun i=>!listed.getD i true).length≤fuel
  tm:a.tmps.size=C.M
  df:a.defers=D
  sat:Sat C.N R H w
  get:∀ t v,look L t=some v→a.tmps.getD t undef=v∨∃ i∈done,¬ isL listed i∧t∈dstOf all i
  prom:∀ i∈done,¬ isL listed i→∃ o d v,all[i]?=some o∧o.dst=some d∧Nat.blt d C.M=true∧look L d=some v∧Prom C R (if ps.contains i then Hf else H) L all o v
  hf:∀ w,Sat C.N R H w→Sat C.N R Hf w
  lds:∀ i∈ls,isL listed i
  data:∀ i∈done,¬ isL listed i→∀ j∈done,∀ d∈dstOf all j,d∈rdsOf all i→j∈predsOf all i
  uniq:∀ i∈done,¬ isL listed i→∀ j∈done,j≠i→∀ d∈dstOf all i,d∉dstOf all j
  chron:Chron all done
theorem isL_set {listed:Array Bool} {i j:Nat} (hi:i<listed.size):isL (listed.setIfInBounds i true) j↔j=i∨isL listed j:=by
  unfold isL;simp only [Array.getD_eq_getD_getElem?,Array.getElem?_setIfInBounds]
  by_cases e:i=j
  · subst e; simp [hi]
  · have:j≠i:=fun h=>e h.symm
    simp [e,this]
theorem getD_isL {listed:Array Bool} {i n:Nat} (hn:listed.size=n) (hi:i<n):listed.getD i false=true↔isL listed i:=by
  unfold isL;subst hn
  simp [hi]
theorem filter_lt {l:List Nat} {p q:Nat→Bool} {i:Nat} (hi:i∈l) (hp:p i=true) (hq:q i=false) (hqp:∀ j,q j=true→p j=true):(l.filter q).length<(l.filter p).length:=by
  induction l with
  | nil=>simp at hi
  | cons x l ih =>
    have hle:(l.filter q).length≤(l.filter p).length:=by
      clear ih hi
      induction l with
      | nil=>simp
      | cons y l ih =>
        simp only [List.filter_cons]
        cases hqy:q y with
        | true=>simp [hqp y hqy]; omega
        | false=>cases p y <;> simp <;> omega
    simp only [List.filter_cons]
    by_cases e:x=i
    · subst e; simp [hp,hq]; omega
    · have hi':i∈l:=by simp at hi; exact hi.resolve_left (fun h=>e h.symm)
      have:=ih hi'
      cases hqy:q x with
      | true=>simp [hqp x hqy]; omega
      | false=>cases p x <;> simp <;> omega
theorem DInv.on {all:Array Oper} {done:List Nat} {listed:Array Bool} {fuel:Nat} {a:Act} {w:World} (h:DInv C D R Hf H L all done ps ls listed fuel a w) {m:Nat} {o:Oper} (ho:all[m]?=some o)
    (hd:∀ j∈done,∀ d∈dstOf all j,d∈rdsOf all m→j∈predsOf all m) (hr:m∈Region.ready .any all listed) :
    (∀ t∈readsOf all o,∀ v,look L t=some v→a.tmps.getD t undef=v):=by
  intro t ht v hv
  rcases h.get t v hv with hg|⟨i,hi,hni,hit⟩
  · exact hg
  · exfalso
    have hp:=hd i hi t hit (by unfold rdsOf; rw [ho]; exact ht)
    have hl:=(mem_ready.1 hr).2.2 i hp
    apply hni
    unfold isL
    cases hb:listed[i]? with
    | none=>simp [Array.getD_eq_getD_getElem?,hb]
    | some b=>simp [Array.getD_eq_getD_getElem?,hb] at hl ⊢; exact hl
theorem onE_of {all:Array Oper} {a:Act} {o:Oper} (h:∀ t∈readsOf all o,∀ v,look L t=some v→a.tmps.getD t undef=v):∀ x∈o.op.operands,OnE L a x:=by
  intro x hx v hv
  cases x with
  | tmp t=>exact h t (by unfold readsOf; simp only [List.mem_append,List.mem_filterMap]; exact .inl ⟨.tmp t,by simpa using hx,rfl⟩) v hv
  | const c=>simp [evalE] at hv; simp [Act.eval,hv]
  | global g=>simp [evalE] at hv; simp [Act.eval,hv]
  | func f=>simp [evalE] at hv; simp [Act.eval,hv]
theorem DInv.listed {all:Array Oper} {done:List Nat} {listed:Array Bool} {fuel:Nat} {a:Act} {w:World} (h:DInv C D R Hf H L all done ps ls listed (fuel+1) a w) {m:Nat} (hr:m∈Region.ready .any all listed) :
    (listed.setIfInBounds m true).size=all.size∧(∀ i,i<all.size→isL (listed.setIfInBounds m true) i→∀ j∈predsOf all i,j<all.size∧isL (listed.setIfInBounds m true) j) ∧
    ((List.range all.size).filter fun i=>!(listed.setIfInBounds m true).getD i true).length≤fuel:=by
  obtain ⟨h1,h2,h3⟩:=mem_ready.1 hr
  have hms:m<listed.size:=by rw [h.size]; exact h1
  refine ⟨by simp [h.size],fun i hi hl j hj=>?_,?_⟩
  · rcases (isL_set hms).1 hl with rfl|hl
    · have h4:=h3 j hj
      have hj2:j<all.size:=by
        rw [← h.size]
        cases hb:listed[j]? with
        | none=>simp [Array.getD_eq_getD_getElem?,hb] at h4
        | some b=>exact (Array.getElem?_eq_some_iff.1 hb).1
      exact ⟨hj2,(isL_set hms).2 (.inr ((getD_isL h.size hj2).1 h4))⟩
    · have:=h.dc i hi hl j hj
      exact ⟨this.1,(isL_set hms).2 (.inr this.2)⟩
  · have:=filter_lt (l:=List.range all.size) (p:=fun i=>!listed.getD i true) (q:=fun i=>!(listed.setIfInBounds m true).getD i true) (i:=m) (by simpa using h1) (by unfold isL at h2; simpa using h2)
      (by
        have:isL (listed.setIfInBounds m true) m:=(isL_set hms).2 (.inl rfl)
        unfold isL at this; simp only [this,Bool.not_true])
      (fun j hj=>by
        simp only [Bool.not_eq_true'] at hj ⊢
        have h5:¬ isL (listed.setIfInBounds m true) j:=by unfold isL; simp [hj]
        have h6:¬ isL listed j:=fun h=>h5 ((isL_set hms).2 (.inr h))
        unfold isL at h6; simpa using h6)
    have:=h.fuel
    omega
theorem exists_ready {all:Array Oper} {listed:Array Bool} (hs:listed.size=all.size):∀ (done:List Nat),Chron all done→(∃ i∈done,¬ isL listed i)→∃ m,m∈Region.ready .any all listed:=by
  intro done
  induction done with
  | nil=>rintro _ ⟨i,hi,_⟩; simp at hi
  | cons k rest ih =>
    rintro ⟨hk,hp,hc⟩ ⟨i,hi,hni⟩
    by_cases hr:∃ i∈rest,¬ isL listed i
    · exact ih hc hr
    · have hall:∀ j∈rest,isL listed j:=fun j hj=>by
        by_cases hl:isL listed j
        · exact hl
        · exact absurd ⟨j,hj,hl⟩ hr
      have hik:i=k:=by
        simp at hi
        rcases hi with rfl|hi
        · rfl
        · exact absurd (hall i hi) hni
      subst hik
      refine ⟨i,mem_ready.2 ⟨hk,hni,fun j hj=>?_⟩⟩
      have hjr:=hp j hj
      have hjs:j<all.size:=by
        clear ih hall hr hi hni hp
        induction rest with
        | nil=>simp at hjr
        | cons x xs ih =>
          simp at hjr
          rcases hjr with rfl|hjr
          · exact hc.1
          · exact ih hc.2.2 hjr
      exact (getD_isL hs hjs).2 (hall j hjr)
theorem drain {all:Array Oper} {done:List Nat}
    (hnew:∀ fuel listed a w,DInv C D R Hf H L all done ps ls listed (fuel+1) a w→∀ m∈Region.ready .any all listed,m∉done→wpOpIn (wideR C.r) 0 C.P all (wpK C K) m (wpAnyIn (wideR C.r) 0 C.P .any all (wpK C K) fuel (listed.setIfInBounds m true)) a w)
    (hend:∀ fuel listed a w,DInv C D R Hf H L all done ps ls listed fuel a w→Region.ready .any all listed=[]→wpK C K .normal a w) :
    ∀ fuel listed a w,DInv C D R Hf H L all done ps ls listed fuel a w→wpAnyIn (wideR C.r) 0 C.P .any all (wpK C K) fuel listed a w:=by
  intro fuel
  induction fuel with
  | zero =>
    intro listed a w h
    have hr:Region.ready .any all listed=[]:=by
      cases hr:Region.ready .any all listed with
      | nil=>rfl
      | cons m rest =>
        exfalso
        have hm:m∈Region.ready .any all listed:=by rw [hr]; simp
        obtain ⟨h1,h2,_⟩:=mem_ready.1 hm
        have:=h.fuel
        have hmem:m∈(List.range all.size).filter fun i=>!listed.getD i true:=by
          simp only [List.mem_filter,List.mem_range]
          exact ⟨h1,by unfold isL at h2; simpa using h2⟩
        have hz:((List.range all.size).filter fun i=>!listed.getD i true)=[]:=List.eq_nil_of_length_eq_zero (by omega)
        rw [hz] at hmem
        simp at hmem
    exact ⟨hr,hend 0 listed a w h hr⟩
  | succ fuel ih =>
    intro listed a w h
    refine ⟨fun hr=>hend _ listed a w h hr,fun m hm=>?_⟩
    by_cases hmd:m∈done
    · obtain ⟨h1,h2,h3⟩:=mem_ready.1 hm
      obtain ⟨o,d,v,ho,hd,hM,hl,hp⟩:=h.prom m hmd h2
      have hon:=h.on ho (h.data m hmd h2) hm
      have hms:m<listed.size:=by rw [h.size]; exact h1
      obtain ⟨k1,k2,k3⟩:=h.listed hm
      have hdm:d∈dstOf all m:=by unfold dstOf; rw [ho]; simp [hd]
      have hlt:d<C.M:=Nat.le_of_ble_eq_true hM
      have hinv:DInv C D R Hf H L all done ps ls (listed.setIfInBounds m true) fuel (a.put o.dst v) w:=by
        refine ⟨k1,k2,fun i hi hil=>?_,k3,by rw [hd]; simp [Act.put,h.tm],by rw [hd]; exact h.df,h.sat,fun t u hu=>?_,fun i hi hni=>?_,?_,?_,fun i hi hni=>?_,fun i hi hni=>?_,h.chron⟩
        · rcases (isL_set hms).1 hil with rfl|hil
          · exact hmd
          · exact h.sub i hi hil
        · rw [hd]
          by_cases e:d=t
          · subst e
            rw [hl] at hu; simp only [Option.some.injEq] at hu; subst hu
            left
            simp [Act.put,h.tm,hlt]
          · rcases h.get t u hu with hg|⟨i,hi,hni,hit⟩
            · left
              simpa [Act.put,Array.getD_eq_getD_getElem?,e] using hg
            · right
              refine ⟨i,hi,fun hil=>?_,hit⟩
              rcases (isL_set hms).1 hil with rfl|hil
              · unfold dstOf at hit; rw [ho] at hit; simp [hd] at hit; exact e hit.symm
              · exact hni hil
        · exact h.prom i hi (fun hl=>hni ((isL_set hms).2 (.inr hl)))
        · exact h.hf
        · exact fun i hi=>(isL_set hms).2 (.inr (h.lds i hi))
        · exact h.data i hi (fun hl=>hni ((isL_set hms).2 (.inr hl)))
        · exact h.uniq i hi (fun hl=>hni ((isL_set hms).2 (.inr hl)))
      unfold wpOpIn;rw [ho];simp only
      rcases hp with ⟨hw,hq⟩|⟨hw,rfl⟩
      · rw [if_pos (want_of hw hon)]
        have hsat:Sat C.N R (if ps.contains m then Hf else H) w:=by
          split
          · exact h.hf w h.sat
          · exact h.sat
        exact wpIn_quiet hq (onE_of hon) hsat (ih _ _ _ hinv)
      · rw [if_neg (by rw [want_of hw hon]; simp)]
        exact ⟨fun _ _=>trivial,ih _ _ _ hinv⟩
    · exact hnew fuel listed a w h m hm hmd
structure DJ (C:Cx) (D:List Deferred) (R Hf H:List PH) (L:Env) (all:Array Oper) (done ps ls:List Nat) (plan:Pl) (K:List It):Prop where
  run:planOK all done ps ls plan=true→∀ fuel listed a w,DInv C D R Hf H L all done ps ls listed fuel a w→wpAnyIn (wideR C.r) 0 C.P .any all (wpK C K) fuel listed a w
theorem BH {id:Nat} {all:Array Oper} (plan:Pl) (Hf:List PH) (hm:C.P.follows .mixedOrders=true) (hp:planOK all [] [] [] plan=true) (hf:Sel H Hf) (h:DJ C D R Hf H L all [] [] [] plan K):JK C D R H L (.code (.region id all true)::K):=by
  refine ⟨fun a w hfr hd hs=>wpIn_region_any hm (h.run hp _ _ _ _ ?_)⟩
  have hno:∀ i,i<all.size→¬ isL (Array.replicate all.size false) i:=fun i hi=>by
    unfold isL; simp [hi]
  refine ⟨by simp,fun i hi hl=>absurd hl (hno i hi),fun i hi hl=>absurd hl (hno i hi),?_,hfr.size,hd,hs.heap rfl rfl rfl rfl (Nat.le_succ _),fun t v hv=>.inl (hfr.get t v hv),by simp,fun w hw=>hw.sel hf,by simp,by simp,by simp,trivial⟩
  have:=List.length_filter_le (fun i=>!(Array.replicate all.size false).getD i true) (List.range all.size)
  simpa using this
theorem Prom.cons {all:Array Oper} {o:Oper} {v u:Value} {d:Nat} (h:Prom C R H L all o v) (hd:d∉readsOf all o):Prom C R H ((d,u)::L) all o v:=by
  have hw:wantE all ((d,u)::L) o=wantE all L o:=by
    unfold wantE
    cases hg:o.guard with
    | none=>rfl
    | some jw =>
      obtain ⟨j,want⟩:=jw
      simp only
      cases hj:(all[j]?).bind (·.dst) with
      | none=>rfl
      | some d' =>
        simp only
        have:d≠d':=fun e=>by
          subst e
          apply hd
          unfold readsOf; rw [hg]; simp [hj]
        rw [look_cons,if_neg this]
  unfold Prom;rw [hw]
  rcases h with ⟨h1,h2⟩|h
  · refine .inl ⟨h1,h2.nd,fun a w hx hs=>h2.run a w (fun x hxm v hv=>hx x hxm v ?_) hs⟩
    cases x with
    | tmp t =>
      have:d≠t:=fun e=>by
        subst e
        apply hd
        unfold readsOf;simp only [List.mem_append,List.mem_filterMap]
        exact .inl ⟨.tmp d,by simpa using hxm,rfl⟩
      simp only [evalE] at hv ⊢;rw [look_cons,if_neg this]; exact hv
    | const c=>exact hv
    | global g=>exact hv
    | func f=>exact hv
  · exact .inr h
theorem Prom.heap {all:Array Oper} {o:Oper} {v:Value} {H':List PH} (h:Prom C R H L all o v) (hs:∀ w,Sat C.N R H' w→Sat C.N R H w):Prom C R H' L all o v:=by
  rcases h with ⟨h1,h2⟩|h
  · exact .inl ⟨h1,h2.nd,fun a w hx hsat=>h2.run a w hx (hs w hsat)⟩
  · exact .inr h
theorem fresh_of {all:Array Oper} {done:List Nat} {i d:Nat} (h:freshOK all done i=true) (hd:d∈dstOf all i):d∉rdsOf all i∧∀ j∈done,d∉rdsOf all j∧d∉dstOf all j:=by
  unfold freshOK at h;rw [List.all_eq_true] at h
  have:=h d hd
  simp only [Bool.and_eq_true,Bool.not_eq_true',List.all_eq_true] at this
  refine ⟨by simpa using this.1,fun j hj=>?_⟩
  have h2:=this.2 j hj
  exact ⟨by simpa using h2.1,by simpa using h2.2⟩
theorem data_of {all:Array Oper} {done:List Nat} {i:Nat} (h:dataOK all done i=true):∀ j∈done,∀ d∈dstOf all j,d∈rdsOf all i→j∈predsOf all i:=by
  unfold dataOK at h
  intro j hj d hd hr
  rw [List.all_eq_true] at h
  have h2:=h j hj
  rw [List.all_eq_true] at h2
  have h3:=h2 d hd
  simp only [Bool.or_eq_true,Bool.not_eq_true'] at h3
  rcases h3 with h3|h3
  · simp at h3; exact absurd hr h3
  · simpa using h3
theorem EF {all:Array Oper} {done:List Nat} {i d:Nat} {rest:Pl} {o:Oper} {v:Value} {p:Bool} (ho:all[i]?=some o) (hd:o.dst=some d) (hM:Nat.blt d C.M=true) (hp:Prom C R (if p then Hf else H) L all o v)
    (h:DJ C D R Hf H ((d,v)::L) all (i::done) (if p then i::ps else ps) ls rest K) (hni':i∉done→∀ j∈ps,j≠i∨p=true) (hr:readOK all done i=true) (hpl:planOK all (i::done) (if p then i::ps else ps) ls rest=true) :
    ∀ fuel listed a w,DInv C D R Hf H L all done ps ls listed fuel a w→wpAnyIn (wideR C.r) 0 C.P .any all (wpK C K) fuel listed a w:=by
  intro fuel listed a w hinv
  simp only [readOK,Bool.and_eq_true] at hr
  obtain ⟨⟨h1,h2⟩,h3⟩:=hr
  obtain ⟨k1,k2,k3⟩:=mem_readyL.1 (by simpa using h1)
  have hdi:d∈dstOf all i:=by unfold dstOf; rw [ho]; simp [hd]
  obtain ⟨f1,f2⟩:=fresh_of h2 hdi
  have hri:rdsOf all i=readsOf all o:=by unfold rdsOf; rw [ho]
  have hni:¬ isL listed i:=fun hl=>k2 (hinv.sub i k1 hl)
  have hps:∀ j,j≠i→(if p then i::ps else ps).contains j=ps.contains j:=fun j hj=>by
    cases p
    · simp
    · simp [hj]
  refine h.run hpl fuel listed a w ⟨hinv.size,hinv.dc,fun j hj hl=>by simp [hinv.sub j hj hl],hinv.fuel,hinv.tm,hinv.df,hinv.sat,fun t u hu=>?_,fun j hj hnl=>?_,hinv.hf,hinv.lds,fun j hj hnl k hk d' hd' hr=>?_,fun j hj hnl k hk hkj d' hd'=>?_,⟨k1,k3,hinv.chron⟩⟩
  · rw [look_cons] at hu
    by_cases e:d=t
    · subst e; exact .inr ⟨i,by simp,hni,hdi⟩
    · rw [if_neg e] at hu
      rcases hinv.get t u hu with hg|⟨j,hj,hnj,hjt⟩
      · exact .inl hg
      · exact .inr ⟨j,by simp [hj],hnj,hjt⟩
  · by_cases e:j=i
    · subst e
      refine ⟨o,d,v,ho,hd,hM,by rw [look_cons,if_pos rfl],?_⟩
      have hpp:=hp.cons (u:=v) (by rw [← hri]; exact f1)
      cases p with
      | true=>simpa using hpp
      | false =>
        have hnp:j∉ps:=fun hm=>by
          rcases hni' k2 j hm with h|h
          · exact h rfl
          · simp at h
        simpa [hnp] using hpp
    · have hj':j∈done:=by simp at hj; exact hj.resolve_left e
      obtain ⟨o',d',v',e1,e2,e3,e4,e5⟩:=hinv.prom j hj' hnl
      have hne:d≠d':=fun h=>by
        subst h
        apply (f2 j hj').2
        unfold dstOf; rw [e1]; simp [e2]
      rw [hps j e]
      refine ⟨o',d',v',e1,e2,e3,by rw [look_cons,if_neg hne]; exact e4,e5.cons ?_⟩
      have:=(f2 j hj').1
      unfold rdsOf at this; rw [e1] at this; exact this
  · by_cases ej:j=i
    · subst ej
      by_cases ek:k=j
      · subst ek
        have:d'=d:=by unfold dstOf at hd'; rw [ho] at hd'; simpa [hd] using hd'
        subst this;exact absurd hr f1
      · exact data_of h3 k (by simp at hk; exact hk.resolve_left ek) d' hd' hr
    · have hj':j∈done:=by simp at hj; exact hj.resolve_left ej
      by_cases ek:k=i
      · subst ek
        have:d'=d:=by unfold dstOf at hd'; rw [ho] at hd'; simpa [hd] using hd'
        subst this;exact absurd hr (f2 j hj').1
      · exact hinv.data j hj' hnl k (by simp at hk; exact hk.resolve_left ek) d' hd' hr
  · by_cases ej:j=i
    · subst ej
      have:d'=d:=by unfold dstOf at hd'; rw [ho] at hd'; simpa [hd] using hd'
      subst this
      exact (f2 k (by simp at hk; exact hk.resolve_left hkj)).2
    · have hj':j∈done:=by simp at hj; exact hj.resolve_left ej
      by_cases ek:k=i
      · subst ek
        intro hdk
        have:d'=d:=by unfold dstOf at hdk; rw [ho] at hdk; simpa [hd] using hdk
        subst this;exact (f2 j hj').2 hd'
      · exact hinv.uniq j hj' hnl k (by simp at hk; exact hk.resolve_left ek) hkj d' hd'
theorem BR {all:Array Oper} {done:List Nat} {i d:Nat} {rest:Pl} {o:Oper} {v:Value} (ho:all[i]?=some o) (hq:Quiet C R H L o v) (hg:wantE all L o=some true) (hd:o.dst=some d) (hM:Nat.blt d C.M=true) (hin:(ps.all (done.contains ·))=true)
    (h:DJ C D R Hf H ((d,v)::L) all (i::done) ps ls rest K):DJ C D R Hf H L all done ps ls (.q i rest) K:=by
  refine ⟨fun hpl=>?_⟩
  simp only [planOK,Bool.and_eq_true] at hpl
  refine EF (p:=false) ho hd hM (.inl ⟨hg,hq⟩) h (fun hni j hj=>.inl (fun e=>?_)) hpl.1 hpl.2
  subst e;rw [List.all_eq_true] at hin
  have:=hin j hj
  simp at this
  exact hni this
theorem BS {all:Array Oper} {done:List Nat} {i d:Nat} {rest:Pl} {o:Oper} (ho:all[i]?=some o) (hg:wantE all L o=some false) (hd:o.dst=some d) (hM:Nat.blt d C.M=true) (hin:(ps.all (done.contains ·))=true)
    (h:DJ C D R Hf H ((d,undef)::L) all (i::done) ps ls rest K):DJ C D R Hf H L all done ps ls (.q i rest) K:=by
  refine ⟨fun hpl=>?_⟩
  simp only [planOK,Bool.and_eq_true] at hpl
  refine EF (p:=false) ho hd hM (.inr ⟨hg,rfl⟩) h (fun hni j hj=>.inl (fun e=>?_)) hpl.1 hpl.2
  subst e;rw [List.all_eq_true] at hin
  have:=hin j hj
  simp at this
  exact hni this
theorem DInv.full {all:Array Oper} {done:List Nat} {listed:Array Bool} {fuel:Nat} {a:Act} {w:World} (h:DInv C D R Hf H L all done ps ls listed fuel a w) (hall:∀ i∈done,isL listed i):Frm C.M L a:=
  ⟨h.tm,fun t v hv=>(h.get t v hv).resolve_right (fun ⟨i,hi,hni,_⟩=>hni (hall i hi))⟩
theorem A7 {all:Array Oper} {done:List Nat} (h:JK C D R H L K):DJ C D R Hf H L all done ps ls .nil K:=by
  refine ⟨fun hpl=>drain (fun fuel listed a w hinv m hm hmd=>?_) (fun fuel listed a w hinv hr=>?_)⟩
  · exfalso
    simp only [planOK,List.isEmpty_iff] at hpl
    obtain ⟨h1,h2,h3⟩:=mem_ready.1 hm
    have:m∈readyL all done:=mem_readyL.2 ⟨h1,hmd,fun j hj=>by
      have hlj:=h3 j hj
      have hjs:j<all.size:=by
        rw [← hinv.size]
        cases hb:listed[j]? with
        | none=>simp [Array.getD_eq_getD_getElem?,hb] at hlj
        | some b=>exact (Array.getElem?_eq_some_iff.1 hb).1
      exact hinv.sub j hjs ((getD_isL hinv.size hjs).1 hlj)⟩
    rw [hpl] at this
    simp at this
  · refine h.run a w (hinv.full fun i hi=>?_) hinv.df hinv.sat
    by_cases hl:isL listed i
    · exact hl
    · obtain ⟨m,hm⟩:=exists_ready hinv.size done hinv.chron ⟨i,hi,hl⟩
      rw [hr] at hm; simp at hm
theorem ready_cases {all:Array Oper} {done:List Nat} {listed:Array Bool} {fuel:Nat} {a:Act} {w:World} (hinv:DInv C D R Hf H L all done ps ls listed fuel a w) {m:Nat} (hm:m∈Region.ready .any all listed) (hmd:m∉done):m∈readyL all done:=by
  obtain ⟨h1,h2,h3⟩:=mem_ready.1 hm
  exact mem_readyL.2 ⟨h1,hmd,fun j hj=>by
    have hlj:=h3 j hj
    have hjs:j<all.size:=by
      rw [← hinv.size]
      cases hb:listed[j]? with
      | none=>simp [Array.getD_eq_getD_getElem?,hb] at hlj
      | some b=>exact (Array.getElem?_eq_some_iff.1 hb).1
    exact hinv.sub j hjs ((getD_isL hinv.size hjs).1 hlj)⟩
theorem not_stuck {all:Array Oper} {done:List Nat} {listed:Array Bool} {fuel:Nat} {a:Act} {w:World} (hinv:DInv C D R Hf H L all done ps ls listed fuel a w) {i:Nat} (hi:i∈readyL all done) (he:Region.ready .any all listed=[]):False:=by
  obtain ⟨k1,k2,k3⟩:=mem_readyL.1 hi
  by_cases hp:∃ j∈done,¬ isL listed j
  · obtain ⟨m,hm⟩:=exists_ready hinv.size done hinv.chron hp
    rw [he] at hm; simp at hm
  · have hall:∀ j∈done,isL listed j:=fun j hj=>by
      by_cases hl:isL listed j
      · exact hl
      · exact absurd ⟨j,hj,hl⟩ hp
    have hjs:∀ j∈done,j<all.size:=by
      have hc:=hinv.chron
      clear hall hp k3 k2 k1 hi he hinv
      induction done with
      | nil=>intro j hj; simp at hj
      | cons x xs ih =>
        intro j hj
        simp at hj
        rcases hj with rfl|hj
        · exact hc.1
        · exact ih hc.2.2 j hj
    have:i∈Region.ready .any all listed:=mem_ready.2 ⟨k1,fun hl=>k2 (hinv.sub i k1 hl),fun j hj=>(getD_isL hinv.size (hjs j (k3 j hj))).2 (hall j (k3 j hj))⟩
    rw [he] at this; simp at this
def ActOK (C:Cx) (D:List Deferred) (R Hf H:List PH) (L:Env) (all:Array Oper) (done ps ls:List Nat) (i:Nat) (k:Kd) (rest:Pl) (K:List It):Prop:=
  loudOK all done ps ls i k=true→planOK all (i::done) ps (i::ls) rest=true→i∈readyL all done →
    ∀ fuel listed a w,DInv C D R Hf H L all done ps ls listed (fuel+1) a w→i∈Region.ready .any all listed →
      wpOpIn (wideR C.r) 0 C.P all (wpK C K) i (wpAnyIn (wideR C.r) 0 C.P .any all (wpK C K) fuel (listed.setIfInBounds i true)) a w
theorem BV {all:Array Oper} {done:List Nat} {i:Nat} {k:Kd} {rest:Pl} (h:ActOK C D R Hf H L all done ps ls i k rest K):DJ C D R Hf H L all done ps ls (.l i k rest) K:=by
  refine ⟨fun hpl=>?_⟩
  simp only [planOK,Bool.and_eq_true,beq_iff_eq] at hpl
  obtain ⟨h1,h2,h3⟩:=hpl
  have hi:i∈readyL all done:=by rw [h1]; simp
  refine drain (fun fuel listed a w hinv m hm hmd=>?_) (fun fuel listed a w hinv hr=>(not_stuck hinv hi hr).elim)
  have:=ready_cases hinv hm hmd
  rw [h1] at this
  simp at this
  subst this;exact h h2 h3 hi fuel listed a w hinv hm
theorem CH {all:Array Oper} {done:List Nat} {i j:Nat} {k k':Kd} {rest rest':Pl} (h:ActOK C D R Hf H L all done ps ls i k rest K) (h':ActOK C D R Hf H L all done ps ls j k' rest' K):DJ C D R Hf H L all done ps ls (.l2 i k rest j k' rest') K:=by
  refine ⟨fun hpl=>?_⟩
  simp only [planOK,Bool.and_eq_true,beq_iff_eq] at hpl
  obtain ⟨h1,⟨h2,h3⟩,h4,h5⟩:=hpl
  have hi:i∈readyL all done:=by rw [h1]; simp
  have hj:j∈readyL all done:=by rw [h1]; simp
  refine drain (fun fuel listed a w hinv m hm hmd=>?_) (fun fuel listed a w hinv hr=>(not_stuck hinv hi hr).elim)
  have:=ready_cases hinv hm hmd
  rw [h1] at this
  simp at this
  rcases this with rfl|rfl
  · exact h h2 h3 hi fuel listed a w hinv hm
  · exact h' h4 h5 hj fuel listed a w hinv hm
theorem EV {all:Array Oper} {done:List Nat} {i j n:Nat} {k k' k'':Kd} {rest rest' rest'':Pl} (h:ActOK C D R Hf H L all done ps ls i k rest K) (h':ActOK C D R Hf H L all done ps ls j k' rest' K) (h'':ActOK C D R Hf H L all done ps ls n k'' rest'' K):DJ C D R Hf H L all done ps ls (.l3 i k rest j k' rest' n k'' rest'') K:=by
  refine ⟨fun hpl=>?_⟩
  simp only [planOK,Bool.and_eq_true,beq_iff_eq] at hpl
  obtain ⟨h1,⟨h2,h3⟩,⟨h4,h5⟩,h6,h7⟩:=hpl
  have hi:i∈readyL all done:=by rw [h1]; simp
  have hj:j∈readyL all done:=by rw [h1]; simp
  have hn:n∈readyL all done:=by rw [h1]; simp
  refine drain (fun fuel listed a w hinv m hm hmd=>?_) (fun fuel listed a w hinv hr=>(not_stuck hinv hi hr).elim)
  have:=ready_cases hinv hm hmd
  rw [h1] at this
  simp at this
  rcases this with rfl|rfl|rfl
  · exact h h2 h3 hi fuel listed a w hinv hm
  · exact h' h4 h5 hj fuel listed a w hinv hm
  · exact h'' h6 h7 hn fuel listed a w hinv hm
theorem a_e {all:Array Oper} {done:List Nat} {i d:Nat} {rest:Pl} {o:Oper} {post:Value→List PH→Prop} (ho:all[i]?=some o) (hl:Loud C R H L o post) (hg:wantE all L o=some true) (hd:o.dst=some d) (hM:Nat.blt d C.M=true)
    (hsub:∀ v H',post v H'→∀ w,Sat C.N R H' w→Sat C.N R H w)
    (h:∀ v H',post v H'→DJ C D R Hf H' ((d,v)::L) all (i::done) ps (i::ls) rest K):ActOK C D R Hf H L all done ps ls i .e rest K:=by
  intro hlo hpl hrd fuel listed a w hinv hm
  simp only [loudOK,Bool.and_eq_true] at hlo
  obtain ⟨h2,h3⟩:=hlo
  obtain ⟨k1,k2,k3⟩:=mem_readyL.1 hrd
  have hon:=hinv.on ho (data_of h3) hm
  have hdi:d∈dstOf all i:=by unfold dstOf; rw [ho]; simp [hd]
  obtain ⟨f1,f2⟩:=fresh_of h2 hdi
  have hms:i<listed.size:=by rw [hinv.size]; exact k1
  obtain ⟨l1,l2,l3⟩:=hinv.listed hm
  have hlt:d<C.M:=Nat.le_of_ble_eq_true hM
  unfold wpOpIn;rw [ho];simp only;rw [if_pos (want_of hg hon)]
  refine hl.run a w (onE_of hon) hinv.sat _ _ (fun v H' w' hp hs'=>(h v H' hp).run hpl _ _ _ _ ?_)
  have back:∀ j∈done,¬ isL (listed.setIfInBounds i true) j→¬ isL listed j:=fun j _ hn hl=>hn ((isL_set hms).2 (.inr hl))
  have cs:∀ j,j∈i::done→¬ isL (listed.setIfInBounds i true) j→j∈done:=fun j hj hn=>by
    simp at hj
    rcases hj with rfl|hj
    · exact absurd ((isL_set hms).2 (.inl rfl)) hn
    · exact hj
  have hlds:∀ j∈i::ls,isL (listed.setIfInBounds i true) j:=fun j hj=>by
    simp at hj
    rcases hj with rfl|hj
    · exact (isL_set hms).2 (.inl rfl)
    · exact (isL_set hms).2 (.inr (hinv.lds j hj))
  refine ⟨l1,l2,fun j hj hlj=>?_,l3,by rw [hd]; simp [Act.put,hinv.tm],by rw [hd]; exact hinv.df,hs',fun t u hu=>?_,fun j hj hnl=>?_,fun w hw=>hinv.hf w (hsub v H' hp w hw),hlds,fun j hj hnl k hk d' hd' hr=>?_,fun j hj hnl k hk hkj d' hd'=>?_,⟨k1,k3,hinv.chron⟩⟩
  · rcases (isL_set hms).1 hlj with rfl|hlj
    · simp
    · simp [hinv.sub j hj hlj]
  · rw [hd]
    rw [look_cons] at hu
    by_cases e:d=t
    · subst e
      simp only [if_true,Option.some.injEq] at hu; subst hu
      left
      simp [Act.put,hinv.tm,hlt]
    · rw [if_neg e] at hu
      rcases hinv.get t u hu with hg'|⟨j,hj,hnj,hjt⟩
      · left; simpa [Act.put,Array.getD_eq_getD_getElem?,e] using hg'
      · right
        refine ⟨j,by simp [hj],fun hlj=>?_,hjt⟩
        rcases (isL_set hms).1 hlj with rfl|hlj
        · exact k2 hj
        · exact hnj hlj
  · have hj':=cs j hj hnl
    obtain ⟨o',d',v',e1,e2,e3,e4,e5⟩:=hinv.prom j hj' (back j hj' hnl)
    have hne:d≠d':=fun h=>by
      subst h
      apply (f2 j hj').2
      unfold dstOf; rw [e1]; simp [e2]
    refine ⟨o',d',v',e1,e2,e3,by rw [look_cons,if_neg hne]; exact e4,(e5.cons ?_).heap (fun w hw=>?_)⟩
    · have:=(f2 j hj').1
      unfold rdsOf at this; rw [e1] at this; exact this
    · split
      · rename_i hc; rw [if_pos hc] at hw; exact hw
      · rename_i hc; rw [if_neg hc] at hw; exact hsub v H' hp w hw
  · have hj':=cs j hj hnl
    by_cases ek:k=i
    · subst ek
      have:d'=d:=by unfold dstOf at hd'; rw [ho] at hd'; simpa [hd] using hd'
      subst this;exact absurd hr (f2 j hj').1
    · exact hinv.data j hj' (back j hj' hnl) k (by simp at hk; exact hk.resolve_left ek) d' hd' hr
  · have hj':=cs j hj hnl
    by_cases ek:k=i
    · subst ek
      intro hdk
      have:d'=d:=by unfold dstOf at hdk; rw [ho] at hdk; simpa [hd] using hdk
      subst this;exact (f2 j hj').2 hd'
    · exact hinv.uniq j hj' (back j hj' hnl) k (by simp at hk; exact hk.resolve_left ek) hkj d' hd'
theorem close_sub {all:Array Oper} {E:Nat→Prop} (hdc:∀ i,E i→∀ j∈predsOf all i,E j):∀ (f:Nat) (todo acc:List Nat),(∀ j∈todo,E j)→(∀ j∈acc,E j)→∀ j∈closeP all f todo acc,E j:=by
  intro f
  induction f with
  | zero=>intro todo acc _ ha j hj; cases todo <;> simp only [closeP] at hj <;> exact ha j hj
  | succ f ih =>
    intro todo acc ht ha
    cases todo with
    | nil=>intro j hj; simp only [closeP] at hj; exact ha j hj
    | cons x todo =>
      simp only [closeP]
      split
      · exact ih todo acc (fun j hj=>ht j (by simp [hj])) ha
      · refine ih _ _ (fun j hj=>?_) (fun j hj=>?_)
        · simp at hj
          rcases hj with hj|hj
          · exact hdc x (ht x (by simp)) j hj
          · exact ht j (by simp [hj])
        · simp at hj
          rcases hj with rfl|hj
          · exact ht j (by simp)
          · exact ha j hj
theorem a_bar {all:Array Oper} {done:List Nat} {i:Nat} {rest:Pl} {o:Oper} {post:Value→List PH→Prop} {L':Value→Env} (ho:all[i]?=some o) (hl:Loud C R H L o post) (hg:wantE all L o=some true)
    (hL:(∃ d,o.dst=some d∧Nat.blt d C.M=true∧L'=fun v=>(d,v)::L)∨(o.dst=none∧L'=fun _=>L))
    (hsub:∀ v H',post v H'→∀ w,Sat C.N R H' w→Sat C.N R Hf w)
    (h:∀ v H',post v H'→DJ C D R Hf H' (L' v) all (i::done) ps (i::ls) rest K):ActOK C D R Hf H L all done ps ls i .b rest K:=by
  intro hlo hpl hrd fuel listed a w hinv hm
  simp only [loudOK] at hlo
  obtain ⟨k1,k2,k3⟩:=mem_readyL.1 hrd
  have hms:i<listed.size:=by rw [hinv.size]; exact k1
  have hrdy:=(mem_ready.1 hm).2.2
  have bnd:∀ j,listed.getD j false=true→j<all.size∧isL listed j:=fun j hlj=>by
    have hjs:j<all.size:=by
      rw [← hinv.size]
      cases hb:listed[j]? with
      | none=>simp [Array.getD_eq_getD_getElem?,hb] at hlj
      | some b=>exact (Array.getElem?_eq_some_iff.1 hb).1
    exact ⟨hjs,(getD_isL hinv.size hjs).1 hlj⟩
  have hpend:∀ j∈done,¬ isL listed j→ps.contains j=true∧freshOK all [j] i=true∧dataOK all [j] i=true:=fun j hj hnj=>by
    rw [List.all_eq_true] at hlo
    have h3:=hlo j hj
    simp only [Bool.or_eq_true,Bool.and_eq_true] at h3
    rcases h3 with (h3|h3)|⟨⟨h3,h4⟩,h5⟩
    rotate_left
    · exact absurd (hinv.lds j (by simpa using h3)) hnj
    rotate_left
    · exact absurd (close_sub (all:=all) (E:=fun j=>j<all.size∧isL listed j) (fun i hi=>hinv.dc i hi.1 hi.2) _ (predsOf all i) [] (fun j hj=>bnd j (hrdy j hj)) (by simp) j (by simpa using h3)).2 hnj
    · exact ⟨h3,h4,h5⟩
  have hdata:∀ j∈done,¬ isL listed j→∀ d∈dstOf all j,d∉rdsOf all i:=fun j hj hnj d hd hr=>by
    have:=data_of (hpend j hj hnj).2.2 j (by simp) d hd hr
    exact hnj (bnd j (hrdy j this)).2
  have hon:∀ t∈readsOf all o,∀ v,look L t=some v→a.tmps.getD t undef=v:=fun t ht v hv=>by
    rcases hinv.get t v hv with hg'|⟨j,hj,hnj,hjt⟩
    · exact hg'
    · exact absurd (by unfold rdsOf; rw [ho]; exact ht) (hdata j hj hnj t hjt)
  obtain ⟨l1,l2,l3⟩:=hinv.listed hm
  unfold wpOpIn;rw [ho];simp only;rw [if_pos (want_of hg hon)]
  refine hl.run a w (onE_of hon) hinv.sat _ _ (fun v H' w' hp hs'=>(h v H' hp).run hpl _ _ _ _ ?_)
  have back:∀ j∈done,¬ isL (listed.setIfInBounds i true) j→¬ isL listed j:=fun j _ hn hl=>hn ((isL_set hms).2 (.inr hl))
  have cs:∀ j,j∈i::done→¬ isL (listed.setIfInBounds i true) j→j∈done:=fun j hj hn=>by
    simp at hj
    rcases hj with rfl|hj
    · exact absurd ((isL_set hms).2 (.inl rfl)) hn
    · exact hj
  have hlds:∀ j∈i::ls,isL (listed.setIfInBounds i true) j:=fun j hj=>by
    simp at hj
    rcases hj with rfl|hj
    · exact (isL_set hms).2 (.inl rfl)
    · exact (isL_set hms).2 (.inr (hinv.lds j hj))
  have hfr:∀ j∈done,¬ isL listed j→∀ d∈dstOf all i,d∉rdsOf all j∧d∉dstOf all j:=fun j hj hnj d hd=>(fresh_of (hpend j hj hnj).2.1 hd).2 j (by simp)
  refine ⟨l1,l2,fun j hj hlj=>?_,l3,?_,?_,hs',fun t u hu=>?_,fun j hj hnl=>?_,fun w hw=>hsub v H' hp w hw,hlds,fun j hj hnl k hk d' hd' hr=>?_,fun j hj hnl k hk hkj d' hd'=>?_,⟨k1,k3,hinv.chron⟩⟩
  · rcases (isL_set hms).1 hlj with rfl|hlj
    · simp
    · simp [hinv.sub j hj hlj]
  · have:=hinv.tm
    cases hd:o.dst <;> simpa [Act.put] using this
  · have:=hinv.df
    cases hd:o.dst <;> simpa [Act.put] using this
  · rcases hL with ⟨d,hd,hM,rfl⟩|⟨hd,rfl⟩
    · rw [hd]
      simp only at hu;rw [look_cons] at hu
      by_cases e:d=t
      · subst e
        simp only [if_true,Option.some.injEq] at hu; subst hu
        left
        simp [Act.put,hinv.tm,show d<C.M from Nat.le_of_ble_eq_true hM]
      · rw [if_neg e] at hu
        rcases hinv.get t u hu with hg'|⟨j,hj,hnj,hjt⟩
        · left; simpa [Act.put,Array.getD_eq_getD_getElem?,e] using hg'
        · right
          refine ⟨j,by simp [hj],fun hlj=>?_,hjt⟩
          rcases (isL_set hms).1 hlj with rfl|hlj
          · exact k2 hj
          · exact hnj hlj
    · rw [hd]
      simp only [Act.put] at hu ⊢
      rcases hinv.get t u hu with hg'|⟨j,hj,hnj,hjt⟩
      · exact .inl hg'
      · right
        refine ⟨j,by simp [hj],fun hlj=>?_,hjt⟩
        rcases (isL_set hms).1 hlj with rfl|hlj
        · exact k2 hj
        · exact hnj hlj
  · have hj':=cs j hj hnl
    have hnj:=back j hj' hnl
    obtain ⟨o',d',v',e1,e2,e3,e4,e5⟩:=hinv.prom j hj' hnj
    have hc:=(hpend j hj' hnj).1
    rw [if_pos hc] at e5 ⊢
    rcases hL with ⟨d,hd,hM,rfl⟩|⟨hd,rfl⟩
    · have hdi:d∈dstOf all i:=by unfold dstOf; rw [ho]; simp [hd]
      have hf2:=hfr j hj' hnj d hdi
      have hne:d≠d':=fun h=>by
        subst h
        apply hf2.2
        unfold dstOf; rw [e1]; simp [e2]
      refine ⟨o',d',v',e1,e2,e3,by simp only; rw [look_cons,if_neg hne]; exact e4,e5.cons ?_⟩
      have:=hf2.1
      unfold rdsOf at this; rw [e1] at this; exact this
    · exact ⟨o',d',v',e1,e2,e3,e4,e5⟩
  · have hj':=cs j hj hnl
    by_cases ek:k=i
    · subst ek
      exact absurd hr (hfr j hj' (back j hj' hnl) d' hd').1
    · exact hinv.data j hj' (back j hj' hnl) k (by simp at hk; exact hk.resolve_left ek) d' hd' hr
  · have hj':=cs j hj hnl
    by_cases ek:k=i
    · subst ek
      intro hdk
      exact (hfr j hj' (back j hj' hnl) d' hdk).2 hd'
    · exact hinv.uniq j hj' (back j hj' hnl) k (by simp at hk; exact hk.resolve_left ek) hkj d' hd'
theorem a_b {all:Array Oper} {done:List Nat} {i d:Nat} {rest:Pl} {o:Oper} {post:Value→List PH→Prop} (ho:all[i]?=some o) (hl:Loud C R H L o post) (hg:wantE all L o=some true) (hd:o.dst=some d) (hM:Nat.blt d C.M=true)
    (hsub:∀ v H',post v H'→∀ w,Sat C.N R H' w→Sat C.N R Hf w)
    (h:∀ v H',post v H'→DJ C D R Hf H' ((d,v)::L) all (i::done) ps (i::ls) rest K):ActOK C D R Hf H L all done ps ls i .b rest K:=
  a_bar (L':=fun v=>(d,v)::L) ho hl hg (.inl ⟨d,hd,hM,rfl⟩) hsub h
theorem CU {all:Array Oper} {done:List Nat} {i:Nat} {rest:Pl} {o:Oper} {post:Value→List PH→Prop} (ho:all[i]?=some o) (hl:Loud C R H L o post) (hg:wantE all L o=some true) (hd:o.dst=none)
    (hsub:∀ v H',post v H'→∀ w,Sat C.N R H' w→Sat C.N R Hf w)
    (h:∀ v H',post v H'→DJ C D R Hf H' L all (i::done) ps (i::ls) rest K):ActOK C D R Hf H L all done ps ls i .b rest K:=
  a_bar (L':=fun _=>L) ho hl hg (.inr ⟨hd,rfl⟩) hsub h
end Go.Eng
namespace Go.Eng
variable {C : Cx} {D : List Deferred} {R H : List PH} {L : Env} {K : List It}

abbrev fv (f : Nat) : Value := .func (.func f) #[] #[]
inductive EnvI : Nat → List Value → Env → Prop
  | nil {k : Nat} : EnvI k [] []
  | cons {k : Nat} {v : Value} {vs : List Value} {L : Env} : EnvI (k + 1) vs L → EnvI k (v :: vs) ((k, v) :: L)
theorem EnvI.eq {k : Nat} {vs : List Value} {L : Env} (h : EnvI k vs L) : env0 k vs = L := by
  induction h with
  | nil => rfl
  | cons _ ih => simp [env0, ih]
inductive EnvA : Nat → List Value → List Value → Env → Prop
  | nil {k : Nat} {cap : List Value} {L : Env} : EnvI k cap L → EnvA k [] cap L
  | cons {k : Nat} {v : Value} {vs cap : List Value} {L : Env} : EnvA (k + 1) vs cap L → EnvA k (v :: vs) cap ((k, v) :: L)
theorem EnvA.eq {k : Nat} {vs cap : List Value} {L : Env} (h : EnvA k vs cap L) : env0 k (vs ++ cap) = L := by
  induction h with
  | nil h => exact h.eq
  | cons _ ih => simp [env0, ih]
theorem spec_in {P : Program} {f : FuncId} {fn : Func} {c : Code} {args cap : List Value} {R H : List PH} {post : Value → List PH → Prop} {M : Nat} {L : Env} (hf : P.funcs[f]? = some fn) (hb : fn.body = some c)
    (hname : (fn.name == "runtime.NumGoroutine") = false) (hM : fn.ntmps = M) (hle : Nat.ble (args ++ cap).length M = true) (hL : EnvA 0 args cap L)
    (h : ∀ N β, JK ⟨none, P, FnQ P fn N (β :: R) post, N, M⟩ [] (β :: R) H L [.code c]) : Spec P (.func (.func f) #[] cap.toArray) args R H post := by
  subst hM
  exact spec_of_jk hf hb hname hle (fun N β => by rw [hL.eq]; exact h N β)

theorem cellR {N : Bs} {ρ : PH} {b o : Nat} {v : Value} (h : rdc ρ b o = some v) (m : Mem ρ R) : Cell N R H b o v := cell_R m h
theorem cellH {N : Bs} {ρ : PH} {b o : Nat} {v : Value} (h : rdc ρ b o = some v) (m : Mem ρ H) : Cell N R H b o v := cell_H m h
def RdN (ρ : PH) (b o : Nat) (vs : List Value) : Prop := ∀ j v, vs[j]? = some v → rdc ρ b (o + j) = some v
theorem cellsR {N : Bs} {ρ : PH} {b o : Nat} {vs : List Value} (h : RdN ρ b o vs) (m : Mem ρ R) : Cells N R H b o vs := fun _ hs j v hv => rdc_cell (hs.r ρ m.mem) (h j v hv)
theorem cellsH {N : Bs} {ρ : PH} {b o : Nat} {vs : List Value} (h : RdN ρ b o vs) (m : Mem ρ H) : Cells N R H b o vs := fun _ hs j v hv => rdc_cell (hs.h ρ m.mem) (h j v hv)
section
variable {dst : Option Tmp} {ty : TypeId} {pos : String} {aft : Array Edge} {g : Option (Nat × Bool)}
theorem E6 {x : Operand} {s : TypeId} {f : Nat} {b o : Nat} (h : evalE L x = some (.pointer (some ⟨b, o, none⟩))) (hf : fldP C.P s f = some 0) :
    Quiet C R H L ⟨dst, .fieldAddr s x f, ty, pos, aft, g⟩ (.pointer (some ⟨b, o, none⟩)) := EU h hf
theorem DR {x y : Operand} {xT yT : TypeId} {j : Nat} (h1 : evalE L x = some (.int .i64 (j : Int))) (h2 : evalE L y = some (.int .i64 1)) (hr : 1 ≤ j) (hj : j ≤ 9223372036854775807) : Quiet C R H L ⟨dst, .binOp .sub xT x y yT, ty, pos, aft, g⟩ (.int .i64 ((j - 1 : Nat) : Int)) := by
  have := FC (C := C) (R := R) (H := H) (dst := dst) (ty := ty) (pos := pos) (aft := aft) (g := g) (xT := xT) (yT := yT) h1 h2 ⟨by omega, by omega⟩
  rwa [show (j : Int) - 1 = ((j - 1 : Nat) : Int) from by omega] at this
end

/-! tests -/
section
variable {all : Array Oper} {rest : List Oper} {d : Nat} {op : BinOp} {xT yT ty : TypeId} {x y : Operand} {pos : String} {aft : Array Edge} {g : Option (Nat × Bool)} {k : IntKind} {m n : Int}
theorem C5 {p : Prop} [Decidable p] (h1 : evalE L x = some (.int k m)) (h2 : evalE L y = some (.int k n)) (hb : cmpB op m n = some (decide p)) (hg : wantE all L ⟨some d, .binOp op xT x y yT, ty, pos, aft, g⟩ = some true) (hM : Nat.blt d C.M = true)
    (ht : p → JK C D R H ((d, .bool true) :: L) (.ops all rest :: K)) (hf : ¬ p → JK C D R H ((d, .bool false) :: L) (.ops all rest :: K)) :
    JK C D R H L (.ops all (⟨some d, .binOp op xT x y yT, ty, pos, aft, g⟩ :: rest) :: K) := by
  refine BB (CV h1 h2 hb) hg rfl hM ?_
  by_cases hp : p
  · simp only [hp, decide_true]; exact ht hp
  · simp only [hp, decide_false]; exact hf hp
variable {done ps ls : List Nat} {i : Nat} {plan : Pl} {Hf : List PH}
end
theorem cmp_eq (m n : Int) : cmpB .eql m n = some (decide (m = n)) := rfl
theorem cmp_ne (m n : Int) : cmpB .neq m n = some (decide (m ≠ n)) := by simp [cmpB]
theorem cmp_lt (m n : Int) : cmpB .lss m n = some (decide (m < n)) := rfl
theorem cmp_le (m n : Int) : cmpB .leq m n = some (decide (m ≤ n)) := rfl
abbrev Ans (P : Program) (f : Value) (args : List Value) (R : List PH) (post : Value → Prop) : Prop := Spec P f args R [] (fun v H' => H' = [] ∧ post v)

section
variable {dst : Option Tmp} {ty : TypeId} {pos : String} {aft : Array Edge} {g : Option (Nat × Bool)}
theorem EG {x : Operand} {t : TypeId} {b o : Nat} {vs : List Value} (h : evalE L x = some (.pointer (some ⟨b, o, none⟩))) (ht : aggP C.P t = some true) (hc : Cells C.N R H b o vs) (hn : szP C.P t = some vs.length) :
    Quiet C R H L ⟨dst, .load t x, ty, pos, aft, g⟩ (.agg vs.toArray) := FD h ht hn hc
theorem BP {t : TypeId} {vs : List Value} (hz : zeroP C.P t = some (.agg vs.toArray)) :
    Loud C R H L ⟨dst, .alloc t, ty, pos, aft, g⟩ (fun v H' => ∃ b, v = .pointer (some ⟨b, 0, none⟩) ∧ H' = sng b (.cells vs.toArray t (0, 0)) :: H) := EC hz
theorem EW {t : TypeId} {z : Value} (hz : zeroP C.P t = some z) (h1 : z.oneCell' = true) :
    Loud C R H L ⟨dst, .alloc t, ty, pos, aft, g⟩ (fun v H' => ∃ b, v = .pointer (some ⟨b, 0, none⟩) ∧ H' = sng b (.cells #[z] t (0, 0)) :: H) := by
  have hc : z.cells = #[z] := by cases z <;> first | rfl | simp [Value.oneCell'] at h1
  have := EC (C := C) (R := R) (H := H) (L := L) (dst := dst) (ty := ty) (pos := pos) (aft := aft) (g := g) hz
  rwa [hc] at this
theorem BK {t : TypeId} {x : Operand} {vs : List Value} (hv : evalE L x = some (.agg vs.toArray)) :
    Loud C R H L ⟨dst, .box t x, ty, pos, aft, g⟩ (fun u H' => ∃ b, u = .pointer (some ⟨b, 0, none⟩) ∧ H' = sng b (.cells vs.toArray t (0, 0)) :: H) := l_box hv
theorem DE {t : TypeId} {x : Operand} {v : Value} (hv : evalE L x = some v) (h1 : v.oneCell' = true) :
    Loud C R H L ⟨dst, .box t x, ty, pos, aft, g⟩ (fun u H' => ∃ b, u = .pointer (some ⟨b, 0, none⟩) ∧ H' = sng b (.cells #[v] t (0, 0)) :: H) := by
  have hc : v.cells = #[v] := by cases v <;> first | rfl | simp [Value.oneCell'] at h1
  have := l_box (C := C) (R := R) (H := H) (L := L) (dst := dst) (ty := ty) (pos := pos) (aft := aft) (g := g) (t := t) hv
  rwa [hc] at this
theorem BA {t T : TypeId} {x y : Operand} {b : Nat} {c : Array Value} {vs : List Value} {H' : List PH} (h : evalE L x = some (.pointer (some ⟨b, 0, none⟩))) (hv : evalE L y = some (.agg vs.toArray)) (ht : Take (sng b (.cells c T (0, 0))) H H') (h1 : ∀ v ∈ vs, v.oneCell' = true) (hn : szP C.P t = some vs.length)
    (ho : c.size = vs.length) :
    Loud C R H L ⟨dst, .store t x y, ty, pos, aft, g⟩ (fun u H2 => u = undef ∧ H2 = sng b (.cells vs.toArray T (0, 0)) :: H') := by
  have := D0 (C := C) (R := R) (L := L) (dst := dst) (ty := ty) (pos := pos) (aft := aft) (g := g) h hv h1 hn ht (by omega)
  have hd : c.toList.drop (0 + vs.length) = [] := List.drop_of_length_le (by simp; omega)
  rw [hd] at this
  simpa using this
end
section
variable {all : Array Oper} {rest : List Oper} {d : Nat} {ty : TypeId} {x : Operand} {xs : Array Operand} {ts : Array TypeId} {pos : String} {aft : Array Edge} {g : Option (Nat × Bool)} {f : Value} {vs : List Value} {R1 : List PH}
theorem AL {post : Value → Prop} (hs : Ans C.P f vs R1 post) (hf : evalE L x = some f) (ha : evalEs L xs.toList = some vs) (hr : RdOK R1 R H) (hg : wantE all L ⟨some d, .call ⟨.value x, xs, ts⟩, ty, pos, aft, g⟩ = some true) (hM : Nat.blt d C.M = true)
    (h : ∀ v, post v → JK C D R H ((d, v) :: L) (.ops all rest :: K)) : JK C D R H L (.ops all (⟨some d, .call ⟨.value x, xs, ts⟩, ty, pos, aft, g⟩ :: rest) :: K) :=
  A9 (loud_call hs hf ha Takes.nil hr) hg rfl hM (fun v H' ⟨H1, e, e2, hp⟩ => by subst e2; subst e; exact h v hp)
abbrev Makes (P : Program) (f : Value) (args : List Value) (R : List PH) (post : Value → PH → Prop) : Prop := Spec P f args R [] (fun v H' => ∃ ρ, post v ρ ∧ H' = [ρ])
theorem C3 {post : Value → PH → Prop} (hs : Makes C.P f vs R1 post) (hf : evalE L x = some f) (ha : evalEs L xs.toList = some vs) (hr : RdOK R1 R H) (hg : wantE all L ⟨some d, .call ⟨.value x, xs, ts⟩, ty, pos, aft, g⟩ = some true) (hM : Nat.blt d C.M = true)
    (h : ∀ v ρ, post v ρ → JK C D R (ρ :: H) ((d, v) :: L) (.ops all rest :: K)) : JK C D R H L (.ops all (⟨some d, .call ⟨.value x, xs, ts⟩, ty, pos, aft, g⟩ :: rest) :: K) :=
  A9 (loud_call hs hf ha Takes.nil hr) hg rfl hM (fun v H' ⟨H1, e, ρ, hp, e2⟩ => by subst e2; subst e; exact h v ρ hp)
variable {done ps ls : List Nat} {i : Nat} {plan : Pl} {Hf : List PH}
theorem BI {post : Value → Prop} (ho : all[i]? = some ⟨some d, .call ⟨.value x, xs, ts⟩, ty, pos, aft, g⟩) (hs : Ans C.P f vs R1 post) (hf : evalE L x = some f) (ha : evalEs L xs.toList = some vs) (hr : RdOK R1 R H) (hg : wantE all L ⟨some d, .call ⟨.value x, xs, ts⟩, ty, pos, aft, g⟩ = some true) (hM : Nat.blt d C.M = true)
    (h : ∀ v, post v → DJ C D R Hf H ((d, v) :: L) all (i :: done) ps (i :: ls) plan K) : ActOK C D R Hf H L all done ps ls i .e plan K :=
  a_e ho (loud_call hs hf ha Takes.nil hr) hg rfl hM (fun v H' ⟨H1, e, e2, hp⟩ w hw => by subst e2; subst e; exact hw) (fun v H' ⟨H1, e, e2, hp⟩ => by subst e2; subst e; exact h v hp)
end
theorem rs_nil {R : List PH} : ∀ ρ ∈ ([] : List PH), ρ ∈ R := by intro ρ h; simp at h
theorem rs_cons {σ : PH} {R1 R : List PH} (m : Mem σ R) (h : ∀ ρ ∈ R1, ρ ∈ R) : ∀ ρ ∈ σ :: R1, ρ ∈ R := by
  intro ρ hρ; simp at hρ
  rcases hρ with rfl | hρ
  · exact m.mem
  · exact h ρ hρ
end Go.Eng
namespace Go.Eng
variable {C : Cx} {D : List Deferred} {R H T : List PH} {L : Env} {K : List It}

def RQ (P : Program) (l : Nat) (N : Bs) (R : List PH) (post : Value → List PH → Prop) : Exit → Act → World → Prop :=
  roundPost P l (fun e w' => ∃ v, e = .returned v ∧ ∃ H', post v H' ∧ Sat N R H' w')
abbrev yv (l : Nat) : Value := .func (.yield l) #[] #[]
inductive PutI : List Nat → List Value → Env → Env → Prop
  | nil {L : Env} : PutI [] [] L L
  | cons {p : Nat} {v : Value} {ps : List Nat} {vs : List Value} {L L' : Env} : PutI ps vs ((p, v) :: L) L' → PutI (p :: ps) (v :: vs) L L'
theorem PutI.frm {M : Nat} {ps : List Nat} {vs : List Value} {L L' : Env} (h : PutI ps vs L L') (hps : ∀ p ∈ ps, p < M) : ∀ {tmps : Array Value}, Frm M L ⟨tmps, []⟩ → Frm M L' ⟨(ps.zip vs).foldl (fun tmps (x : Nat × Value) => tmps.setIfInBounds x.1 x.2) tmps, []⟩ := by
  induction h with
  | nil => intro tmps hf; exact hf
  | @cons p v ps vs L L' _ ih =>
    intro tmps hf
    simp only [List.zip_cons_cons, List.foldl_cons]
    exact ih (fun q hq => hps q (by simp [hq])) (hf.put (d := p) (hps p (by simp)) v)
theorem PutI.len {ps : List Nat} {vs : List Value} {L L' : Env} (h : PutI ps vs L L') : ps.length = vs.length := by
  induction h with
  | nil => rfl
  | cons _ ih => simp [ih]

theorem run_getLoop {P : Program} {w : World} {l : Nat} {r : Loop} (h : w.heap[l]? = some (.loop r)) : (Instr.getLoop l).run P w = .ok r w := by
  simp [Instr.getLoop, getObj, Sem.run, h]
theorem run_setLoop {P : Program} {w : World} {l : Nat} {r : Loop} {o : Obj} (h : w.heap[l]? = some (.loop r)) : (setObj l o).run P w = .ok () { w with heap := w.heap.setIfInBounds l o } := by
  simp [setObj, Sem.run, h]
theorem Sat.turnAny {N : Bs} {w : World} {b : Nat} {o o' : Obj} {H' : List PH} (h : Sat N R H w) (t : Take (sng b o) H H') : Sat N R (sng b o' :: H') { w with heap := w.heap.setIfInBounds b o' } := by
  have hb := h.own t
  have hlt : b < w.heap.size := (Array.getElem?_eq_some_iff.1 hb).1
  refine h.turn t (by simp) (by simp [hlt]) (fun k hk => ?_)
  simp [Ne.symm hk]

theorem DI {l : Nat} {r : Loop} {H' : List PH} (t : Take (sng l (.loop r)) H H') (hs : r.state = .ready) (h : JK C D R (sng l (.loop { r with state := .busy }) :: H') L K) : JK C D R H L (.sem (Instr.beginRound l) :: K) := by
  refine ⟨fun a w hf hd hsat => ⟨{ w with heap := w.heap.setIfInBounds l (.loop { r with state := .busy }) }, ?_, h.run a _ hf hd (hsat.turnAny t)⟩⟩
  have hb := hsat.own t
  simp [Instr.beginRound, run_getLoop hb, run_setLoop hb, hs]

theorem run_endRound {P : Program} {w : World} {l : Nat} {r : Loop} (jump : Option Code) (h : w.heap[l]? = some (.loop r)) :
    (Instr.endRound l jump).run P w = .ok (.bool jump.isNone) { w with heap := w.heap.setIfInBounds l (.loop { r with state := if jump.isNone then .ready else .done, pending := jump }) } := by
  simp [Instr.endRound, run_getLoop h, run_setLoop h]
section
variable {P : Program} {N : Bs} {l M : Nat} {R0 : List PH} {post : Value → List PH → Prop} {r : Loop} {H1 H2 : List PH}
theorem BX (t : Take (sng l (.loop r)) H H1) (hR : ∀ ρ ∈ R0, ρ ∈ R) (hH : Sel (sng l (.loop { r with state := .ready, pending := none }) :: H1) H2) (hp : post (.bool true) H2) :
    JK ⟨some l, P, RQ P l N R0 post, N, M⟩ D R H L [] := by
  refine ⟨fun a w hf hd hsat => ?_⟩
  exact ⟨_, _, run_endRound none (hsat.own t), _, rfl, H2, hp, ((hsat.turnAny t).rsub hR).sel hH⟩
end

theorem yield_spec {P : Program} {l M : Nat} {r : Loop} {ps : List Nat} {vs : List Value} {L' : Env} {post : Value → List PH → Prop} (hf : Frm M L ⟨r.tmps, []⟩) (hps : r.params = ps.toArray) (hpl : ∀ p ∈ ps, p < M) (hL : PutI ps vs L L')
    (h : ∀ N β, JK ⟨some l, P, fun _ _ _ => False, N, M⟩ [] (β :: R) (sng l (.loop r) :: H) L' [.code r.assign, .till (wpK ⟨some l, P, RQ P l N (β :: R) post, N, M⟩ [.sem (Instr.beginRound l), .code r.body] .normal)]) :
    Spec P (yv l) vs R (sng l (.loop r) :: H) post := by
  intro N0 w hs
  unfold CallsV
  have hb : w.heap[l]? = some (.loop r) := hs.h _ (by simp) l _ (sng_self _ _)
  have hrun : ((do let d ← Deferred.ofValue (yv l) vs.toArray; invoke d.target d.args : Sem Next).run P w) = .ok (.round l r.fn ((ps.zip vs).foldl (fun tmps (x : Nat × Value) => tmps.setIfInBounds x.1 x.2) r.tmps) r.assign r.body) w := by
    have hlen := hL.len
    simp [Deferred.ofValue, invoke, Instr.yield, run_getLoop hb, hps, hlen]
  rw [hrun];simp only
  obtain ⟨β, hsat, hup⟩ := exists_base hs
  have hj := h (.of w) β
  refine roundIn_of_wpIn (F := Fence.wide) trivial ?_
  have hrun2 := hj.run _ w (hL.frm hpl hf) rfl hsat
  refine wpIn_mono (show r.assign.wpIn (Fence.wide.inRound l) 0 P (wpK _ _) _ w from hrun2) (fun e a' w' hq => ?_)
  have bodyQ : ∀ e a' w', RQ P l (.of w) (β :: R) post e a' w' → roundPost P l (fun e w' => ∃ v, e = .returned v ∧ ∃ H', post v H' ∧ Upd (sng l (.loop r) :: H) H' w w') e a' w' := by
    intro e a' w' hq
    cases e with
    | normal => obtain ⟨v, w2, h1, v', h2, H', h3, h4⟩ := hq; exact ⟨v, w2, h1, v', h2, H', h3, hup H' w2 h4⟩
    | ret => obtain ⟨v, w2, h1, v', h2, H', h3, h4⟩ := hq; exact ⟨v, w2, h1, v', h2, H', h3, hup H' w2 h4⟩
    | exit id => obtain ⟨v, w2, h1, v', h2, H', h3, h4⟩ := hq; exact ⟨v, w2, h1, v', h2, H', h3, hup H' w2 h4⟩
    | goto t => obtain ⟨v, w2, h1, v', h2, H', h3, h4⟩ := hq; exact ⟨v, w2, h1, v', h2, H', h3, hup H' w2 h4⟩
    | panic c => exact hq.elim
    | outgrown => exact hq.elim
  cases e with
  | normal =>
    obtain ⟨w2, h1, h2⟩ := (hq : ∃ w2, _ ∧ _)
    refine ⟨w2, h1, wpIn_mono (show r.body.wpIn (Fence.wide.inRound l) 0 P (wpK _ []) a' w2 from h2) (fun e a3 w3 hq => ?_)⟩
    exact bodyQ e a3 w3 hq
  | _ => exact hq.elim
theorem C6 {C2 : Cx} {K2 : List It} (hN : C2.N = C.N) (hM : C2.M = C.M) (h : JK C2 D R H L K2) : JK C D R H L (.till (wpK C2 K2 .normal) :: K) :=
  ⟨fun a w hf hd hs => h.run a w (by rw [hM]; exact hf) hd (by rw [hN]; exact hs)⟩

theorem Sat.perm {N : Bs} {H' : List PH} {w : World} (h : Sat N R H w) (p : H.Perm H') : Sat N R H' w :=
  ⟨h.sz, h.r, fun ρ hρ => h.h ρ (p.mem_iff.2 hρ), (p.pairwise_iff (fun hd => PH.disj.symm hd)).1 h.hd, fun ρ hρ σ hσ => h.rd ρ hρ σ (p.mem_iff.2 hσ)⟩
theorem Sat.left {N : Bs} {H1 H2 : List PH} {w : World} (h : Sat N R (H1 ++ H2) w) : Sat N R H1 w :=
  ⟨h.sz, h.r, fun ρ hρ => h.h ρ (by simp [hρ]), (List.pairwise_append.1 h.hd).1, fun ρ hρ σ hσ => h.rd ρ hρ σ (by simp [hσ])⟩
/-! ### iterators -/
def Iter (P : Program) (gv : Value) (R1 : List PH) (xs : List (List Value)) : Prop :=
  ∀ (y : Value) (S : Type) (Own : S → List PH) (Inv : Nat → S → Prop) (Stop : S → Prop) (Ry : List PH),
    (∀ i σ vs, xs[i]? = some vs → Inv i σ → Spec P y vs Ry (Own σ) (fun v H' => ∃ σ', H' = Own σ' ∧ ((v = .bool true ∧ Inv (i + 1) σ') ∨ (v = .bool false ∧ Stop σ')))) →
    (∃ l, y = yv l) → ∀ σ, Inv 0 σ → Spec P gv [y] (R1 ++ Ry) (Own σ) (fun _ H' => ∃ σ', H' = Own σ' ∧ (Inv xs.length σ' ∨ Stop σ'))

abbrev mk (b : Nat) : Deferred := { target := .collected b, args := #[] }
abbrev defO : Obj := .deferred (some [])

theorem DL {P : Program} {Q : Exit → Act → World → Prop} {N : Bs} {M : Nat} {g : Operand} {gf : FuncId} {cap : List Value} {ps : List Nat} {assign body : Code} {X : Type} {R1 Hr : List PH} {xs : List (List Value)} {fn : Func} {gc : Code}
    (hg : evalE L g = some (.func (.func gf) #[] cap.toArray)) (hgf : P.funcs[gf]? = some fn) (hgb : fn.body = some gc) (hname : (fn.name == "runtime.NumGoroutine") = false)
    (hit : Iter P (.func (.func gf) #[] cap.toArray) R1 xs) (hR1 : ∀ ρ ∈ R1, ρ ∈ R)
    (I : Nat → X → Prop) (Hx : X → List PH) (J : Code → X → Prop) (x0 : X) (hx0 : Hx x0 = T) (hT : Takes H T Hr) (h0 : I 0 x0)
    (hround : ∀ l (r : Loop) i x vs, xs[i]? = some vs → I i x → r.params = ps.toArray → r.assign = assign → r.body = body → r.state = .ready → r.pending = none → Frm M L ⟨r.tmps, []⟩ →
      Spec P (yv l) vs R (sng l (.loop r) :: Hx x) (fun v H' => ∃ x', (v = .bool true ∧ I (i + 1) x' ∧ H' = sng l (.loop r) :: Hx x') ∨ (v = .bool false ∧ ∃ c, J c x' ∧ H' = sng l (.loop { r with state := .done, pending := some c }) :: Hx x')))
    (hdone : ∀ b x, I xs.length x → JK ⟨none, P, Q, N, M⟩ (mk b :: D) R (sng b defO :: (Hx x ++ Hr)) L K)
    (hjump : ∀ b c x, J c x → JK ⟨none, P, Q, N, M⟩ (mk b :: D) R (sng b defO :: (Hx x ++ Hr)) L (.code c :: K)) :
    JK ⟨none, P, Q, N, M⟩ D R H L (.code (.rangeFunc g ps.toArray assign body) :: K) := by
  subst hx0
  refine ⟨fun a w hf hd hs => wpIn_rangeFunc (fun fnn _ => ?_)⟩
  let r : Loop := { state := .ready, pending := none, fn := fnn, tmps := a.tmps, params := ps.toArray, assign, body, defers := w.heap.size }
  let w1 : World := (w.alloc defO).alloc (.loop r)
  have hs2 := hT.sat hs
  have hs3 := (hs2.alloc defO).alloc (.loop r)
  have hl : (w.alloc defO).heap.size = w.heap.size + 1 := by simp
  rw [hl] at hs3
  refine ⟨w.heap.size + 1, [mk w.heap.size], w1, ⟨.fn (.func gf) cap.toArray, #[yv (w.heap.size + 1)]⟩, w1, gf, ([yv (w.heap.size + 1)] ++ cap).toArray, w1, ?_, ?_, fun _ _ => trivial, ?_, fun h => by simp [Fence.wide] at h, ?_⟩
  · simp [Instr.enterLoop, w1, r]
  · have hgv' : a.eval g = .func (.func gf) #[] cap.toArray := hf.on g _ hg
    have hc : a.eval (.const (yv (w.heap.size + 1))) = yv (w.heap.size + 1) := rfl
    simp [resolve, Deferred.ofValue, hgv', hc]
  · have hname' : ¬ fn.name = "runtime.NumGoroutine" := by simpa using hname
    simp [invoke, callFunc, program, Sem.run, bind, Sem.bind, pure, hgf, hgb, hname']
  · let Own : X × Option Code → List PH := fun σ => match σ.2 with
      | none => sng (w.heap.size + 1) (.loop r) :: Hx σ.1
      | some c => sng (w.heap.size + 1) (.loop { r with state := .done, pending := some c }) :: Hx σ.1
    have hspec := hit (yv (w.heap.size + 1)) (X × Option Code) Own (fun i σ => σ.2 = none ∧ I i σ.1) (fun σ => ∃ c, σ.2 = some c ∧ J c σ.1) R
      (fun i σ vs hvs ⟨h1, h2⟩ => by
        obtain ⟨x, o⟩ := σ
        simp only at h1 h2;subst h1;refine (hround (w.heap.size + 1) r i x vs hvs h2 rfl rfl rfl rfl rfl ⟨hf.size, hf.get⟩).mono ?_;rintro v H' ⟨x', ⟨e1, e2, e3⟩ | ⟨e1, c, e2, e3⟩⟩
        · exact ⟨(x', none), e3, .inl ⟨e1, rfl, e2⟩⟩
        · exact ⟨(x', some c), e3, .inr ⟨e1, c, rfl, e2⟩⟩)
      ⟨_, rfl⟩ (x0, none) ⟨rfl, h0⟩
    have hs4 : Sat N R (Own (x0, none) ++ (sng w.heap.size defO :: Hr)) w1 := hs3.perm (by
      simp only [Own, List.cons_append]
      exact (List.perm_middle.symm).cons _)
    have hs5 : Sat N (R1 ++ R) (Own (x0, none)) w1 := (hs4.rsub (R' := R1 ++ R) (fun ρ hρ => by
      rcases List.mem_append.1 hρ with h | h
      · exact hR1 ρ h
      · exact h)).left
    have hc := hspec N w1 hs5
    unfold CallsV at hc
    have hname' : ¬ fn.name = "runtime.NumGoroutine" := by simpa using hname
    have hrun : ((do let d ← Deferred.ofValue (.func (.func gf) #[] cap.toArray) [yv (w.heap.size + 1)].toArray; invoke d.target d.args : Sem Next).run P w1) = .ok (.enter gf ([yv (w.heap.size + 1)] ++ cap).toArray) w1 := by
      simp [Deferred.ofValue, invoke, callFunc, program, Sem.run, bind, Sem.bind, pure, hgf, hgb, hname']
    rw [hrun] at hc;simp only at hc
    refine CallsIn.mono (show CallsIn (wideR none) 0 P gf _ w1 _ from hc) ?_
    rintro e w3 ⟨v, rfl, H', ⟨⟨x, o⟩, rfl, hfin⟩, hu⟩
    have hs6 := hs4.upd hu
    have hfin' : ∃ r', r'.state ≠ .busy ∧ Own (x, o) = sng (w.heap.size + 1) (.loop r') :: Hx x ∧ ((r'.pending = none ∧ I xs.length x) ∨ ∃ c, r'.pending = some c ∧ J c x) := by
      rcases hfin with ⟨h1, h2⟩ | ⟨c, h1, h2⟩
      · simp only at h1 h2; subst h1; exact ⟨r, by simp [r], rfl, .inl ⟨rfl, h2⟩⟩
      · simp only at h1 h2; subst h1; exact ⟨{ r with state := .done, pending := some c }, by simp, rfl, .inr ⟨c, rfl, h2⟩⟩
    obtain ⟨r', hb, ho, hfin'⟩ := hfin'
    rw [ho] at hs6;simp only [List.cons_append] at hs6
    have hown := hs6.own Take.here
    have hend : (Instr.endLoop (w.heap.size + 1)).run P w3 = .ok r'.pending { w3 with heap := w3.heap.setIfInBounds (w.heap.size + 1) (.loop { r' with state := .exhausted }) } := by
      simp [Instr.endLoop, run_getLoop hown, run_setLoop hown, hb]
    refine ⟨r'.pending, _, hend, ?_⟩
    have hs7 : Sat N R (sng w.heap.size defO :: (Hx x ++ Hr)) { w3 with heap := w3.heap.setIfInBounds (w.heap.size + 1) (.loop { r' with state := .exhausted }) } :=
      ((hs6.turnAny (o' := .loop { r' with state := .exhausted }) Take.here).tail).perm List.perm_middle
    have hfr : Frm M L { a with defers := [mk w.heap.size] ++ a.defers } := ⟨hf.size, hf.get⟩
    have hdf : ({ a with defers := [mk w.heap.size] ++ a.defers } : Act).defers = mk w.heap.size :: D := by simp [hd]
    rcases hfin' with ⟨hp, hI⟩ | ⟨c, hp, hJ⟩
    · rw [hp] at hs7 ⊢
      exact (hdone w.heap.size x hI).run _ _ hfr hdf hs7
    · rw [hp] at hs7 ⊢
      exact (hjump w.heap.size c x hJ).run _ _ hfr hdf hs7

/-! ### the return of a function whose body held such loops -/
inductive Marks : List Deferred → List PH → List PH → Prop
  | nil {H : List PH} : Marks [] H H
  | cons {b : Nat} {ds : List Deferred} {H H1 H2 : List PH} : Take (sng b defO) H H1 → Marks ds H1 H2 → Marks (mk b :: ds) H H2
theorem Marks.run {P : Program} {fn : Func} {tmps : Array Value} {S : Value → World → Prop} {N : Bs} {ds : List Deferred} {H H2 : List PH} (m : Marks ds H H2) : ∀ {w : World}, Sat N R H w → (∀ w', Sat N R H2 w' → ∃ v, (results fn tmps).run P w' = .ok v w' ∧ S v w') → MarksQ P fn tmps S ds w := by
  induction m with
  | nil => intro w hs h; exact h w hs
  | @cons b ds H H1 H2 t _ ih =>
    intro w hs h
    have hb := hs.own t
    refine ⟨b, { w with heap := w.heap.setIfInBounds b (.deferred none) }, rfl, ?_, ih (hs.turnAny t).tail h⟩
    simp [Instr.takeDeferred, getObj, setObj, Sem.run, hb]
theorem DV {P : Program} {fn : Func} {N : Bs} {M : Nat} {R R0 H H1 H' : List PH} {L : Env} {K : List It} {post : Value → List PH → Prop} {v : Value} {D : List Deferred} (m : Marks D H H1)
    (hv : ∀ a w, Frm M L a → Sat N R H1 w → (results fn a.tmps).run P w = .ok v w) (hR : ∀ ρ ∈ R0, ρ ∈ R) (hH : Sel H1 H') (hp : post v H') :
    JK ⟨none, P, FnQ P fn N R0 post, N, M⟩ D R H L (.code .ret :: K) := by
  refine ⟨fun a w hf hd hs => wpIn_ret (wpK_ret K a w ?_)⟩
  show MarksQ _ _ _ _ a.defers w
  rw [hd]
  exact m.run hs (fun w' hs' => ⟨v, hv a w' hf hs', H', hp, (hs'.rsub hR).sel hH⟩)
end Go.Eng
namespace Go.Eng
variable {C:Cx} {D:List Deferred} {R H:List PH} {L:Env} {K:List It}
def SlE {α:Type} (enc:α→List Value) (s:Nat) (ρ:PH) (v:Value) (l:List α):Prop:=SlAt ρ s v l.length (l.flatMap enc)
theorem flat_len {α:Type} {enc:α→List Value} {s:Nat} (he:∀ x,(enc x).length=s):∀ l:List α,(l.flatMap enc).length=l.length*s:=by
  intro l
  induction l with
  | nil=>simp
  | cons x l ih=>simp [he,ih,Nat.add_mul]; omega
theorem flat_get {α:Type} {enc:α→List Value} {s:Nat} (he:∀ x,(enc x).length=s):∀ (l:List α) (i:Nat) (x:α),l[i]?=some x→∀ j v,(enc x)[j]?=some v→(l.flatMap enc)[i*s+j]?=some v:=by
  intro l
  induction l with
  | nil=>intro i x h; simp at h
  | cons y l ih =>
    intro i x h j v hv
    have hj:j<s:=by
      have:=(List.getElem?_eq_some_iff.1 hv).1
      rw [he] at this; exact this
    cases i with
    | zero =>
      simp at h; subst h
      rw [List.flatMap_cons,List.getElem?_append_left (by rw [he]; omega)]
      simpa using hv
    | succ i =>
      simp at h
      rw [List.flatMap_cons,List.getElem?_append_right (by rw [he,Nat.add_mul]; omega)]
      rw [he,show (i+1)*s+j-s=i*s+j from by rw [Nat.add_mul]; omega]
      exact ih i x h j v hv
def RowsE {α:Type} (enc:α→List Value) (s:Nat) (ρ:PH) (p:Option Addr) (l:List α):Prop:=∀ i x,l[i]?=some x→∃ b o,p=some ⟨b,o,none⟩∧RdN ρ b (o+i*s) (enc x)
theorem SlE.val {α:Type} {enc:α→List Value} {s:Nat} {ρ:PH} {v:Value} {l:List α} (he:∀ x,(enc x).length=s) (h:SlE enc s ρ v l):∃ p c,v=.slice p l.length c∧RowsE enc s ρ p l:=by
  obtain ⟨hl,⟨hn,p,c,rfl⟩|⟨b,o,c,rfl,hr⟩⟩:=h
  · refine ⟨p,c,by rw [hn],fun i x hx=>?_⟩
    have:l=[]:=List.eq_nil_of_length_eq_zero hn
    subst this
    simp at hx
  · refine ⟨_,c,rfl,fun i x hx=>⟨b,o,rfl,fun j u hu=>?_⟩⟩
    have:=hr (i*s+j) u (flat_get he l i x hx j u hu)
    rwa [← Nat.add_assoc] at this
theorem RdN.get {ρ:PH} {b o:Nat} {vs:List Value} (h:RdN ρ b o vs) {j:Nat} {v:Value} (hv:vs[j]?=some v):rdc ρ b (o+j)=some v:=h j v hv
theorem RdN.get0 {ρ:PH} {b o:Nat} {v:Value} {vs:List Value} (h:RdN ρ b o (v::vs)):rdc ρ b o=some v:=h 0 v rfl
abbrev int (n:Int):Value:=.int .i64 n
def encI (n:Int):List Value:=[int n]
abbrev IntsAt (ρ:PH) (v:Value) (l:List Int):Prop:=SlE encI 1 ρ v l
theorem RowsE.int {ρ:PH} {p:Option Addr} {l:List Int} (h:RowsE encI 1 ρ p l) {i:Nat} {x:Int} (hx:l[i]?=some x):∃ b o,p=some ⟨b,o,none⟩∧rdc ρ b (o+i)=some (int x):=by
  obtain ⟨b,o,e,hr⟩:=h i x hx
  refine ⟨b,o,e,?_⟩
  have:=hr.get0
  rwa [Nat.mul_one] at this
def ints (l:List Int):Array Value:=(l.map int).toArray
theorem ints_getD {l:List Int} {i:Nat} (h:i<l.length):(ints l)[i]?=some (int (l.getD i 0)):=by simp [ints,h]
def bools (l:List Bool):Array Value:=(l.map Value.bool).toArray
section
variable {N:Bs} {b i:Nat} {t:TypeId} {fr:Nat × Nat}
theorem cell_ints {l:List Int} (m:Mem (sng b (.cells (ints l) t fr)) H) (h:i<l.length):Cell N R H b i (int (l.getD i 0)):=cell_own m (ints_getD h)
theorem cell_intsR {l:List Int} (m:Mem (sng b (.cells (ints l) t fr)) R) (h:i<l.length):Cell N R H b i (int (l.getD i 0)):=cell_R m (by rw [rdc_sng]; exact ints_getD h)
theorem cell_bools {l:List Bool} {x:Bool} (h:l[i]?=some x) (m:Mem (sng b (.cells (bools l) t fr)) H):Cell N R H b i (.bool x):=cell_own m (by simp [bools,h])
theorem cell_boolsR {l:List Bool} {x:Bool} (h:l[i]?=some x) (m:Mem (sng b (.cells (bools l) t fr)) R):Cell N R H b i (.bool x):=cell_R m (by rw [rdc_sng]; simp [bools,h])
end
section
variable {dst:Option Tmp} {ty:TypeId} {pos:String} {aft:Array Edge} {g:Option (Nat × Bool)}
end
/-! chunks that are variables -/
theorem Takes.all:∀ {H:List PH},Takes H H []
  | []=>Takes.nil
  | _::_=>Takes.cons Take.here Takes.all
theorem Take.skip {ρ σ:PH} {H H':List PH} (h:Take ρ H H'):Take ρ (σ::H) (σ::H'):=Take.there h
theorem Takes.skip {σ:PH} {H T H':List PH} (h:Takes H T H'):Takes (σ::H) T (σ::H'):=by
  induction h with
  | nil=>exact Takes.nil
  | cons t _ ih=>exact Takes.cons (Take.there t) ih
theorem Sel.left:∀ {H F:List PH},Sel (H ++ F) H
  | [],_=>Sel.nil
  | _::_,_=>Sel.cons Take.here Sel.left
theorem Sel.refl:∀ {H:List PH},Sel H H
  | []=>Sel.nil
  | _::_=>Sel.cons Take.here Sel.refl
theorem Sel.skip {σ:PH} {H H':List PH} (h:Sel H H'):Sel (σ::H) H':=by
  induction h with
  | nil=>exact Sel.nil
  | cons t _ ih=>exact Sel.cons (Take.there t) ih
def PH.sub (ρ γ:PH):Prop:=∀ b o,ρ b=some o→γ b=some o
theorem PH.sub.rdc {ρ γ:PH} (h:PH.sub ρ γ) {b o:Nat} {v:Value} (hv:Eng.rdc ρ b o=some v):Eng.rdc γ b o=some v:=by
  unfold Eng.rdc at hv ⊢
  cases e:ρ b with
  | none=>rw [e] at hv; simp at hv
  | some ob=>rw [e] at hv; rw [h b ob e]; exact hv
theorem PH.sub.trans {ρ σ τ:PH} (h:PH.sub ρ σ) (h':PH.sub σ τ):PH.sub ρ τ:=fun b o hb=>h' b o (h b o hb)
section
variable {all:Array Oper} {rest:List Oper} {d:Nat} {ty:TypeId} {x:Operand} {xs:Array Operand} {ts:Array TypeId} {pos:String} {aft:Array Edge} {g:Option (Nat × Bool)} {f:Value} {vs:List Value} {R1 H1 H2:List PH}
theorem BF {post:Value→List PH→Prop} (hs:Spec C.P f vs R1 H1 post) (hf:evalE L x=some f) (ha:evalEs L xs.toList=some vs) (ht:Takes H H1 H2) (hr:RdOK R1 R H2) (hg:wantE all L ⟨some d,.call ⟨.value x,xs,ts⟩,ty,pos,aft,g⟩=some true) (hM:Nat.blt d C.M=true)
    (h:∀ v H',post v H'→JK C D R (H' ++ H2) ((d,v)::L) (.ops all rest::K)):JK C D R H L (.ops all (⟨some d,.call ⟨.value x,xs,ts⟩,ty,pos,aft,g⟩::rest)::K):=
  A9 (loud_call hs hf ha ht hr) hg rfl hM (fun v H' ⟨H1',e,hp⟩=>by subst e; exact h v H1' hp)
variable {done ps ls:List Nat} {i:Nat} {plan:Pl} {Hf:List PH}
theorem DM {post:Value→List PH→Prop} (ho:all[i]?=some ⟨some d,.call ⟨.value x,xs,ts⟩,ty,pos,aft,g⟩) (hs:Spec C.P f vs R1 H1 post) (hf:evalE L x=some f) (ha:evalEs L xs.toList=some vs) (ht:Takes H H1 H2) (hr:RdOK R1 R H2) (hg:wantE all L ⟨some d,.call ⟨.value x,xs,ts⟩,ty,pos,aft,g⟩=some true) (hM:Nat.blt d C.M=true)
    (hsub:∀ v H',post v H'→∀ w,Sat C.N R (H' ++ H2) w→Sat C.N R Hf w)
    (h:∀ v H',post v H'→DJ C D R Hf (H' ++ H2) ((d,v)::L) all (i::done) ps (i::ls) plan K):ActOK C D R Hf H L all done ps ls i .b plan K:=
  a_b ho (loud_call hs hf ha ht hr) hg rfl hM (fun v H' ⟨H1',e,hp⟩ w hw=>by subst e; exact hsub v H1' hp w hw) (fun v H' ⟨H1',e,hp⟩=>by subst e; exact h v H1' hp)
theorem EH {post:Value→List PH→Prop} (ho:all[i]?=some ⟨some d,.call ⟨.value x,xs,ts⟩,ty,pos,aft,g⟩) (hs:Spec C.P f vs R1 [] post) (hf:evalE L x=some f) (ha:evalEs L xs.toList=some vs) (hr:RdOK R1 R H) (hg:wantE all L ⟨some d,.call ⟨.value x,xs,ts⟩,ty,pos,aft,g⟩=some true) (hM:Nat.blt d C.M=true)
    (h:∀ v H',post v H'→DJ C D R Hf (H' ++ H) ((d,v)::L) all (i::done) ps (i::ls) plan K):ActOK C D R Hf H L all done ps ls i .e plan K:=
  a_e ho (loud_call hs hf ha Takes.nil hr) hg rfl hM (fun v H' ⟨H1',e,hp⟩ w hw=>by
    subst e
    exact ⟨hw.sz,hw.r,fun ρ hρ=>hw.h ρ (by simp [hρ]),(List.pairwise_append.1 hw.hd).2.1,fun ρ hρ σ hσ=>hw.rd ρ hρ σ (by simp [hσ])⟩) (fun v H' ⟨H1',e,hp⟩=>by subst e; exact h v H1' hp)
end
end Go.Eng
namespace Go.Eng
variable {C:Cx} {D:List Deferred} {R H:List PH} {L:Env} {K:List It}
variable {dst:Option Tmp} {ty:TypeId} {pos:String} {aft:Array Edge} {g:Option (Nat × Bool)}
def OwnO (e:TypeId) (size:Nat) (v:Value) (n:Nat) (xs:List Value) (ρ:PH):Prop:=
  xs.length=n*size∧∃ b o cap cur,v=.slice (some ⟨b,o,none⟩) n cap∧ρ=sng b (.cells cur e (0,0))∧n≤cap∧cap≤maxLen∧o+cap*size≤cur.size∧(cur.toList.drop o).take (n*size)=xs
theorem OwnO.head {e:TypeId} {v:Value} {n:Nat} {x:Value} {xs:List Value} {ρ:PH} (h:OwnO e 1 v (n+1) (x::xs) ρ) :
    ∃ b o cap,v=.slice (some ⟨b,o,none⟩) (n+1) cap∧rdc ρ b o=some x∧OwnO e 1 (.slice (some ⟨b,if cap=1 then o else o+1*1,none⟩) (n+1-1) (cap-1)) n xs ρ:=by
  obtain ⟨hl,b,o,cap,cur,rfl,rfl,h2,h3,h4,h5⟩:=h
  refine ⟨b,o,cap,rfl,?_,?_,b,_,_,cur,rfl,rfl,by omega,by omega,?_,?_⟩
  · rw [rdc_sng]
    have:((cur.toList.drop o).take ((n+1)*1))[0]?=some x:=by rw [h5]; rfl
    rw [List.getElem?_take_of_lt (by omega),List.getElem?_drop] at this
    simpa using this
  · simp at hl ⊢; omega
  · split <;> omega
  · by_cases hc:cap=1
    · rw [if_pos hc]
      have:n=0:=by omega
      subst this
      simp at hl ⊢; exact hl
    · rw [if_neg hc]
      have:xs=((cur.toList.drop o).take ((n+1)*1)).drop 1:=by rw [h5]; rfl
      rw [this,List.drop_take,List.drop_drop]
      simp
theorem E7 {x y:Operand} {t e:TypeId} {b o n c s:Nat} {k:IntKind} (h:evalE L x=some (.slice (some ⟨b,o,none⟩) n c)) (h2:evalE L y=some (.int k 0)) (ht:elemP C.P t=some e) (hs:szP C.P e=some s)
    (hn:0<n):Quiet C R H L ⟨dst,.indexAddr t x y,ty,pos,aft,g⟩ (.pointer (some ⟨b,o,none⟩)):=by
  have:=q_idx (C:=C) (R:=R) (H:=H) (dst:=dst) (ty:=ty) (pos:=pos) (aft:=aft) (g:=g) h h2 ht hs (by omega) (by omega)
  simpa using this
inductive SetL (v:Value):List Value→Nat→List Value→Prop
  | here {u:Value} {l:List Value}:SetL v (u::l) 0 (v::l)
  | there {u:Value} {l l':List Value} {i:Nat}:SetL v l i l'→SetL v (u::l) (i+1) (u::l')
theorem SetL.eq {v:Value} {l l':List Value} {i:Nat} (h:SetL v l i l'):i<l.length∧l'=l.set i v:=by
  induction h with
  | here=>simp
  | there _ ih=>simp [ih.1,ih.2]
theorem D3 {t T:TypeId} {x y:Operand} {b o:Nat} {l l':List Value} {v:Value} {H':List PH} (h:evalE L x=some (.pointer (some ⟨b,o,none⟩))) (hv:evalE L y=some v) (h1:v.oneCell'=true) (hn:szP C.P t=some 1)
    (ht:Take (sng b (.cells l.toArray T (0,0))) H H') (hs:SetL v l o l') :
    Loud C R H L ⟨dst,.store t x y,ty,pos,aft,g⟩ (fun u H2=>u=undef∧H2=sng b (.cells l'.toArray T (0,0))::H'):=by
  have:=DH (C:=C) (R:=R) (L:=L) (dst:=dst) (ty:=ty) (pos:=pos) (aft:=aft) (g:=g) h hv h1 hn ht (by simpa using hs.eq.1)
  rw [hs.eq.2]
  simpa using this
end Go.Eng
namespace Go.Eng
variable {C:Cx} {D:List Deferred} {R H:List PH} {L:Env} {K:List It}
def MkIn (μ:PH) (ms:List Nat):Prop:=ms.Nodup∧∀ b∈ms,μ b=some defO
theorem MkIn.nil:MkIn emp []:=⟨by simp,by simp⟩
theorem MkIn.run {P:Program} {fn:Func} {tmps:Array Value} {S:Value→World→Prop} {N:Bs}:∀ {ms:List Nat} {μ:PH} {w:World},MkIn μ ms→Sat N R (μ::H) w→(∀ w',Sat N R H w'→∃ v,(results fn tmps).run P w'=.ok v w'∧S v w')→MarksQ P fn tmps S (ms.map mk) w:=by
  intro ms
  induction ms with
  | nil=>intro μ w _ hs h; exact h w hs.tail
  | cons b ms ih =>
    intro μ w hm hs h
    have hb:w.heap[b]?=some defO:=hs.h μ (by simp) b _ (hm.2 b (by simp))
    refine ⟨b,{ w with heap:=w.heap.setIfInBounds b (.deferred none) },rfl,by simp [Instr.takeDeferred,getObj,setObj,Sem.run,hb],?_⟩
    have hnd:=List.nodup_cons.1 hm.1
    let μ':PH:=fun c=>if c=b then none else μ c
    have hμ':MkIn μ' ms:=⟨hnd.2,fun c hc=>by
      have hne:c≠b:=fun e=>by subst e; exact hnd.1 hc
      simp only [μ',if_neg hne]
      exact hm.2 c (by simp [hc])⟩
    have hp:=List.pairwise_cons.1 hs.hd
    have keep:∀ ρ:PH,ρ b=none→ρ.le w→ρ.le { w with heap:=w.heap.setIfInBounds b (.deferred none) }:=fun ρ hn hr c o hc=>by
      have hne:b≠c:=fun e=>by subst e; rw [hn] at hc; simp at hc
      simp only [Array.getElem?_setIfInBounds,if_neg hne];exact hr c o hc
    have hμb:μ b≠none:=by rw [hm.2 b (by simp)]; simp
    have dj:∀ τ:PH,μ.disj τ→μ'.disj τ:=fun τ hd c=>by
      by_cases e:c=b
      · left; simp only [μ',if_pos e]
      · simp only [μ',if_neg e]; exact hd c
    refine ih hμ' (μ:=μ') ⟨by simp; exact hs.sz,fun ρ hρ=>keep ρ ((hs.rd ρ hρ μ (by simp) b).resolve_right hμb) (hs.r ρ hρ),fun ρ hρ=>?_,List.pairwise_cons.2 ⟨fun τ hτ=>dj τ (hp.1 τ hτ),hp.2⟩,fun ρ hρ σ hσ=>?_⟩ h
    · simp at hρ
      rcases hρ with rfl|hρ
      · refine keep μ' (by simp only [μ',if_true]) (fun c o hc=>?_)
        simp only [μ'] at hc
        split at hc
        · simp at hc
        · exact hs.h μ (by simp) c o hc
      · exact keep ρ ((hp.1 ρ hρ b).resolve_left hμb) (hs.h ρ (by simp [hρ]))
    · simp at hσ
      rcases hσ with rfl|hσ
      · exact (dj ρ (hs.rd ρ hρ μ (by simp)).symm).symm
      · exact hs.rd ρ hρ σ (by simp [hσ])
end Go.Eng
namespace Go.Flow
structure Lk where
  k:Nat
  f:Nat
  t:Nat
  deriving DecidableEq
section
variable {n t:Nat} {E:Lk→Prop}
structure IsDist (n t:Nat) (E:Lk→Prop) (D:List Int):Prop where
  len:D.length=n
  low:∀ v,v<n → -1≤D.getD v 0
  at0:D.getD t 0=0
  zero:∀ v,v<n→D.getD v 0=0→v=t
  link:∀ x,E x→0≤D.getD x.t 0→0≤D.getD x.f 0∧D.getD x.f 0≤D.getD x.t 0+1
  step:∀ v,v<n→0<D.getD v 0→∃ x,E x∧x.f=v∧D.getD x.t 0=D.getD v 0-1
theorem IsDist.le (hE:∀ x,E x→x.f<n∧x.t<n) {D1 D2:List Int} (h1:IsDist n t E D1) (h2:IsDist n t E D2):∀ (k:Nat) (v:Nat),v<n→D1.getD v 0=(k:Int)→0≤D2.getD v 0∧D2.getD v 0≤(k:Int):=by
  intro k
  induction k with
  | zero =>
    intro v hv h
    have:=h1.zero v hv h
    subst this;rw [h2.at0]; omega
  | succ k ih =>
    intro v hv h
    obtain ⟨x,hx,hf,ht⟩:=h1.step v hv (by omega)
    have hr:=ih x.t (hE x hx).2 (by rw [ht,h]; omega)
    have:=h2.link x hx hr.1
    rw [hf] at this;omega
theorem IsDist.uniq (hE:∀ x,E x→x.f<n∧x.t<n) {D1 D2:List Int} (h1:IsDist n t E D1) (h2:IsDist n t E D2):D1=D2:=by
  apply List.ext_getElem
  · rw [h1.len,h2.len]
  · intro v hv1 hv2
    have hv:v<n:=by rw [← h1.len]; exact hv1
    have e1:D1.getD v 0=D1[v]:=by simp [List.getD_eq_getElem?_getD,hv1]
    have e2:D2.getD v 0=D2[v]:=by simp [List.getD_eq_getElem?_getD,hv2]
    rw [← e1,← e2]
    have a1:=h1.low v hv
    have a2:=h2.low v hv
    rcases (show D1.getD v 0 = -1∨0≤D1.getD v 0 by omega) with c1|c1
    · rcases (show D2.getD v 0 = -1∨0≤D2.getD v 0 by omega) with c2|c2
      · rw [c1,c2]
      · obtain ⟨k,hk⟩:=Int.eq_ofNat_of_zero_le c2
        have:=IsDist.le hE h2 h1 k v hv hk
        omega
    · obtain ⟨k,hk⟩:=Int.eq_ofNat_of_zero_le c1
      have r1:=IsDist.le hE h1 h2 k v hv hk
      obtain ⟨k2,hk2⟩:=Int.eq_ofNat_of_zero_le r1.1
      have r2:=IsDist.le hE h2 h1 k2 v hv hk2
      omega
structure BInv (n t:Nat) (E:Lk→Prop) (D:List Int) (q:List Nat):Prop where
  len:D.length=n
  low:∀ v,v<n → -1≤D.getD v 0
  at0:D.getD t 0=0
  zero:∀ v,v<n→D.getD v 0=0→v=t
  qn:∀ v∈q,v<n∧0≤D.getD v 0
  srt:q.Pairwise (fun a b=>D.getD a 0≤D.getD b 0)
  top:∀ v,q.head?=some v→∀ u,u<n→D.getD u 0≤D.getD v 0+1
  step:∀ v,v<n→0<D.getD v 0→∃ x,E x∧x.f=v∧D.getD x.t 0=D.getD v 0-1
  proc:∀ u,u<n→0≤D.getD u 0→u∉q→∀ x,E x→x.t=u→0≤D.getD x.f 0∧D.getD x.f 0≤D.getD u 0+1
structure VInv (n t:Nat) (E:Lk→Prop) (D:List Int) (v:Nat) (q:List Nat) (pre:List Lk):Prop where
  len:D.length=n
  low:∀ v,v<n → -1≤D.getD v 0
  at0:D.getD t 0=0
  zero:∀ v,v<n→D.getD v 0=0→v=t
  vn:v<n
  v0:0≤D.getD v 0
  qn:∀ u∈q,u<n∧D.getD v 0≤D.getD u 0
  srt:q.Pairwise (fun a b=>D.getD a 0≤D.getD b 0)
  top:∀ u,u<n→D.getD u 0≤D.getD v 0+1
  step:∀ v,v<n→0<D.getD v 0→∃ x,E x∧x.f=v∧D.getD x.t 0=D.getD v 0-1
  proc:∀ u,u<n→0≤D.getD u 0→u∉q→u≠v→∀ x,E x→x.t=u→0≤D.getD x.f 0∧D.getD x.f 0≤D.getD u 0+1
  pre0:∀ x∈pre,0≤D.getD x.f 0
theorem getD_set {l:List Int} {i j:Nat} {x:Int} (hi:i<l.length):(l.set i x).getD j 0=if i=j then x else l.getD j 0:=by
  rw [List.getD_eq_getElem?_getD,List.getElem?_set]
  by_cases e:i=j
  · subst e; simp [hi]
  · simp [e]
theorem BInv.take {D:List Int} {v:Nat} {q:List Nat} (h:BInv n t E D (v::q)):VInv n t E D v q []:=by
  have hv:=h.qn v (by simp)
  have hs:=List.pairwise_cons.1 h.srt
  exact ⟨h.len,h.low,h.at0,h.zero,hv.1,hv.2,fun u hu=>⟨(h.qn u (by simp [hu])).1,hs.1 u hu⟩,hs.2,h.top v (by simp),h.step,
    fun u hu h0 hq hne=>h.proc u hu h0 (by simp [hq,hne]),by simp⟩
theorem VInv.push {D:List Int} {v:Nat} {q:List Nat} {pre:List Lk} {x:Lk} (h:VInv n t E D v q pre) (hE:E x) (hxf:x.f<n) (hxt:x.t=v) (hneg:D.getD x.f 0<0) :
    VInv n t E (D.set x.f (D.getD v 0+1)) v (q ++ [x.f]) (pre ++ [x]):=by
  have hlx:x.f<D.length:=by rw [h.len]; exact hxf
  have hlow:=h.low x.f hxf
  have hv0:=h.v0
  have hg:∀ u,(D.set x.f (D.getD v 0+1)).getD u 0=if x.f=u then D.getD v 0+1 else D.getD u 0:=fun u=>getD_set hlx
  have hnv:x.f≠v:=fun e=>by rw [e] at hneg; omega
  have hnt:x.f≠t:=fun e=>by rw [e,h.at0] at hneg; omega
  have keep:∀ u,0≤D.getD u 0→(D.set x.f (D.getD v 0+1)).getD u 0=D.getD u 0:=fun u hu=>by
    rw [hg u,if_neg (fun e=>by rw [e] at hneg; omega)]
  have kv:=keep v hv0
  refine ⟨by simp [h.len],fun u hu=>?_,?_,fun u hu h0=>?_,h.vn,by rw [kv]; exact hv0,fun u hu=>?_,?_,fun u hu=>?_,fun u hu h0=>?_,fun u hu h0 hq hne y hy hyt=>?_,fun y hy=>?_⟩
  · rw [hg u]; split
    · omega
    · exact h.low u hu
  · rw [hg t,if_neg hnt]; exact h.at0
  · rw [hg u] at h0
    split at h0
    · omega
    · exact h.zero u hu h0
  · rw [kv]
    rcases List.mem_append.1 hu with hu|hu
    · have:=h.qn u hu
      rw [keep u (by omega)]; exact this
    · rw [List.mem_singleton.1 hu,hg x.f,if_pos rfl]
      exact ⟨hxf,by omega⟩
  · rw [List.pairwise_append]
    refine ⟨?_,by simp,fun a ha b hb=>?_⟩
    · refine List.Pairwise.imp_of_mem ?_ h.srt
      intro a b ha hb hab
      have qa:=h.qn a ha
      have qb:=h.qn b hb
      rw [keep a (by omega),keep b (by omega)]; exact hab
    · have qa:=h.qn a ha
      rw [List.mem_singleton.1 hb,hg x.f,if_pos rfl,keep a (by omega)]
      exact h.top a qa.1
  · rw [kv,hg u]
    split
    · omega
    · exact h.top u hu
  · rw [hg u] at h0 ⊢
    by_cases e:x.f=u
    · rw [if_pos e] at h0 ⊢
      refine ⟨x,hE,e,?_⟩;rw [hxt,kv]; omega
    · rw [if_neg e] at h0 ⊢
      obtain ⟨y,hy,hyf,hyt⟩:=h.step u hu h0
      refine ⟨y,hy,hyf,?_⟩
      rw [keep y.t (by omega)]; exact hyt
  · have hux:x.f≠u:=fun e=>hq (by simp [e])
    rw [hg u,if_neg hux] at h0
    have hq':u∉q:=fun hm=>hq (by simp [hm])
    have:=h.proc u hu h0 hq' hne y hy hyt
    rw [keep y.f this.1,keep u h0]; exact this
  · rcases List.mem_append.1 hy with hy|hy
    · rw [keep y.f (h.pre0 y hy)]; exact h.pre0 y hy
    · rw [List.mem_singleton.1 hy,hg x.f,if_pos rfl]; omega
theorem VInv.done (hE:∀ x,E x→x.f<n∧x.t<n) {D:List Int} {v:Nat} {q:List Nat} {pre:List Lk} (h:VInv n t E D v q pre) (hall:∀ x,E x→x.t=v→x∈pre):BInv n t E D q:=by
  refine ⟨h.len,h.low,h.at0,h.zero,fun u hu=>⟨(h.qn u hu).1,by have:=(h.qn u hu).2; have:=h.v0; omega⟩,h.srt,fun u hu w hw=>?_,h.step,fun u hu h0 hq x hx hxt=>?_⟩
  · have hm:u∈q:=by cases q <;> simp at hu; simp [hu]
    have h1:=h.top w hw
    have h2:=(h.qn u hm).2
    omega
  · by_cases e:u=v
    · subst e
      exact ⟨h.pre0 x (hall x hx hxt),h.top x.f (hE x hx).1⟩
    · exact h.proc u hu h0 hq e x hx hxt
end
end Go.Flow
namespace Go.Flow
theorem count_split (j:Int) (hj:0≤j) (l:List Int):l.countP (fun x=>decide (0≤x) && decide (x≤j+1))=l.countP (fun x=>decide (0≤x) && decide (x≤j))+l.countP (fun x=>decide (x=j+1)):=by
  induction l with
  | nil=>rfl
  | cons x l ih =>
    simp only [List.countP_cons,ih]
    by_cases h1:x=j+1
    · subst h1
      simp [show (0:Int)≤j+1 from by omega,show ¬ (j+1≤j) from by omega]; omega
    · by_cases h2:0≤x∧x≤j
      · simp [h1,h2.1,h2.2,show x≤j+1 from by omega]; omega
      · have h3:¬ (0≤x∧x≤j+1):=by omega
        have e1:(decide (0≤x) && decide (x≤j))=false:=by
          rw [Bool.eq_false_iff]; intro h; simp at h; exact h2 h
        have e2:(decide (0≤x) && decide (x≤j+1))=false:=by
          rw [Bool.eq_false_iff]; intro h; simp at h; exact h3 h
        simp [h1,e1,e2]
theorem IsDist.lt {n t:Nat} {E:Lk→Prop} (hE:∀ x,E x→x.f<n∧x.t<n) {D:List Int} (h:IsDist n t E D) (ht:t<n) {v:Nat} (hv:v<n):D.getD v 0<n:=by
  have all:∀ (d:Nat) (v:Nat),v<n→D.getD v 0=(d:Int)→d+1≤D.countP (fun x=>decide (0≤x) && decide (x≤(d:Int))):=by
    intro d
    induction d with
    | zero =>
      intro v hv e
      have:0<D.countP (fun x=>decide (0≤x) && decide (x≤((0:Nat):Int))):=by
        rw [List.countP_pos_iff]
        have hl:v<D.length:=by rw [h.len]; exact hv
        refine ⟨D[v],List.getElem_mem hl,?_⟩
        have:D.getD v 0=D[v]:=by simp [List.getD_eq_getElem?_getD,hl]
        rw [← this,e]; rfl
      omega
    | succ d ih =>
      intro v hv e
      obtain ⟨x,hx,hf,hxt⟩:=h.step v hv (by omega)
      have:=ih x.t (hE x hx).2 (by rw [hxt,e]; omega)
      have hs:=count_split (d:Int) (by omega) D
      have hp:0<D.countP (fun x=>decide (x=(d:Int)+1)):=by
        rw [List.countP_pos_iff]
        have hl:v<D.length:=by rw [h.len]; exact hv
        refine ⟨D[v],List.getElem_mem hl,?_⟩
        have:D.getD v 0=D[v]:=by simp [List.getD_eq_getElem?_getD,hl]
        rw [← this,e]; simp
      rw [show ((d+1:Nat):Int)=(d:Int)+1 from by omega]
      omega
  by_cases hd:D.getD v 0<0
  · omega
  · obtain ⟨d,hk⟩:=Int.eq_ofNat_of_zero_le (show 0≤D.getD v 0 by omega)
    have h1:=all d v hv hk
    have h2:=List.countP_le_length (p:=fun x=>decide (0≤x) && decide (x≤(d:Int))) (l:=D)
    rw [h.len] at h2;omega
end Go.Flow
namespace Go.Eng
variable {C:Cx} {D:List Deferred} {R Hf H:List PH} {L:Env} {K:List It} {ps ls:List Nat}
section
variable {dst:Option Tmp} {ty:TypeId} {pos:String} {aft:Array Edge} {g:Option (Nat × Bool)}
end
theorem Take.left {ρ:PH} {A A':List PH} (B:List PH) (h:Take ρ A A'):Take ρ (A ++ B) (A' ++ B):=by
  induction h with
  | here=>exact Take.here
  | there _ ih=>exact Take.there ih
theorem Take.right {ρ:PH} {B B':List PH} (h:Take ρ B B'):∀ A:List PH,Take ρ (A ++ B) (A ++ B')
  | []=>h
  | _::A=>Take.there (Take.right h A)
theorem Take.idx:∀ {A:List PH} {i:Nat} {ρ:PH},A[i]?=some ρ→Take ρ A (A.eraseIdx i)
  | [],i,ρ,h=>by simp at h
  | a::A,0,ρ,h=>by simp at h; subst h; exact Take.here
  | a::A,i+1,ρ,h=>Take.there (Take.idx (by simpa using h))
theorem Take.perm {ρ:PH} {A A':List PH} (h:Take ρ A A'):A.Perm (ρ::A'):=by
  induction h with
  | here=>exact List.Perm.refl _
  | there _ ih=>exact (ih.cons _).trans (List.Perm.swap _ _ _)
theorem FE {H':List PH} (hp:H.Perm H') (h:JK C D R H' L K):JK C D R H L K:=
  ⟨fun a w hf hd hs=>h.run a w hf hd (hs.perm hp)⟩
end Go.Eng
namespace Go.Eng
variable {C:Cx} {D:List Deferred} {R H:List PH} {L:Env} {K:List It}
theorem Upd.frame {N:Bs} {H H1 F:List PH} {w w':World} (hs:Sat N R (H ++ F) w) (u:Upd H H1 w w'):Upd (H ++ F) (H1 ++ F) w w' where
  size:=u.size
  keep:=fun b hb hno=>u.keep b hb (fun ρ hρ=>hno ρ (by simp [hρ]))
  own:=fun ρ hρ=>(hs.upd u).h ρ hρ
  hd:=(hs.upd u).hd
  new:=fun ρ hρ b hb=>by
    rcases List.mem_append.1 hρ with h|h
    · rcases u.new ρ h b hb with ⟨σ,hσ,h2⟩|h2
      · exact .inl ⟨σ,by simp [hσ],h2⟩
      · exact .inr h2
    · exact .inl ⟨ρ,by simp [h],hb⟩
theorem Spec.frame {P:Program} {f:Value} {args:List Value} {R H:List PH} {post:Value→List PH→Prop} (F:List PH) (h:Spec P f args R H post):Spec P f args R (H ++ F) (fun v H'=>∃ H1,H'=H1 ++ F∧post v H1):=by
  intro N w hs
  refine (h N w hs.left).mono ?_;rintro v w' ⟨H1,hp,hu⟩;exact ⟨H1 ++ F,⟨H1,rfl,hp⟩,hu.frame hs⟩
theorem Upd.perm {H H' H1 H1':List PH} {w w':World} (hp:H.Perm H') (hq:H1.Perm H1') (u:Upd H H1 w w'):Upd H' H1' w w' where
  size:=u.size
  keep:=fun b hb hno=>u.keep b hb (fun ρ hρ=>hno ρ (hp.mem_iff.1 hρ))
  own:=fun ρ hρ=>u.own ρ (hq.mem_iff.2 hρ)
  hd:=(hq.pairwise_iff (fun hd=>PH.disj.symm hd)).1 u.hd
  new:=fun ρ hρ b hb=>by
    rcases u.new ρ (hq.mem_iff.2 hρ) b hb with ⟨σ,hσ,h2⟩|h2
    · exact .inl ⟨σ,hp.mem_iff.1 hσ,h2⟩
    · exact .inr h2
theorem Spec.perm {P:Program} {f:Value} {args:List Value} {R H H':List PH} {post post':Value→List PH→Prop} (hp:H.Perm H') (h:Spec P f args R H post) (hq:∀ v H1,post v H1→∃ H2,H1.Perm H2∧post' v H2):Spec P f args R H' post':=by
  intro N w hs
  refine (h N w (hs.perm hp.symm)).mono ?_;rintro v w' ⟨H1,h1,hu⟩
  obtain ⟨H2,h2,h3⟩:=hq v H1 h1
  exact ⟨H2,h3,hu.perm hp h2⟩
end Go.Eng
namespace Go.Eng
variable {C:Cx} {D:List Deferred} {R H:List PH} {L:Env} {K:List It}
def elems {α:Type} (enc:α→List Value) (l:List α):Array Value:=(l.flatMap enc).toArray
section
variable {dst:Option Tmp} {ty:TypeId} {pos:String} {aft:Array Edge} {g:Option (Nat × Bool)}
theorem made_elems {α:Type} {enc:α→List Value} {s:Nat} {z:Value} {a:α} (hz:z.cells.toList=enc a) (he:(enc a).length=s):∀ n,madeCells z.cells (n*s)=elems enc (List.replicate n a):=by
  intro n
  have hs:z.cells.size=s:=by rw [← he,← hz]; simp
  apply Array.ext'
  have hl:∀ n,((List.replicate n a).flatMap enc).length=n*s:=fun n=>by
    induction n with
    | zero=>simp
    | succ n ih=>rw [List.replicate_succ,List.flatMap_cons,List.length_append,ih,he,Nat.add_mul]; omega
  have hget:∀ n j,j<n*s→((List.replicate n a).flatMap enc)[j]?=(enc a)[j % s]?:=fun n=>by
    induction n with
    | zero=>intro j h; simp at h
    | succ n ih =>
      intro j hj
      rw [List.replicate_succ,List.flatMap_cons]
      by_cases hjs:j<s
      · rw [List.getElem?_append_left (by omega),Nat.mod_eq_of_lt hjs]
      · have h3:j-s<n*s:=by rw [Nat.add_mul] at hj; omega
        rw [List.getElem?_append_right (by omega),he,ih (j-s) h3,← Nat.mod_eq_sub_mod (show j≥s by omega)]
  apply List.ext_getElem?
  intro j
  rw [Array.getElem?_toList,show (elems enc (List.replicate n a)).toList=(List.replicate n a).flatMap enc from by simp [elems]]
  by_cases hj:j<n*s
  · rw [hget n j hj]
    have h0:0<s:=by
      rcases Nat.eq_zero_or_pos s with h|h
      · rw [h] at hj; simp at hj
      · exact h
    have hm:j % s<z.cells.size:=by rw [hs]; exact Nat.mod_lt _ h0
    simp only [madeCells];rw [Array.getElem?_map,Array.getElem?_range,if_pos hj,← hz,Array.getElem?_toList]
    simp [hs,hm]
    rw [hs] at hm
    simp [hm,hs]
  · rw [List.getElem?_eq_none (by rw [hl]; omega)]
    rw [Array.getElem?_eq_none];rw [size_madeCells]; omega
theorem FF {α:Type} {enc:α→List Value} {x y:Operand} {t e:TypeId} {s by_:Nat} {z:Value} {k1 k2:IntKind} {n:Nat} (a:α) (hx:evalE L x=some (.int k1 (n:Int))) (hy:evalE L y=some (.int k2 (n:Int))) (ht:elemP C.P t=some e) (hs:szP C.P e=some s) (hz:zeroP C.P e=some z) (hb:bytesP C.P e=some by_)
    (hza:z.cells.toList=enc a) (hea:(enc a).length=s) (hn:n≤9223372036854775807) (hby:by_*n≤281474976710656) :
    Loud C R H L ⟨dst,.makeSlice t x y,ty,pos,aft,g⟩ (fun u H2=>∃ b,u=.slice (some ⟨b,0,none⟩) n n∧H2=sng b (.cells (elems enc (List.replicate n a)) e (0,0))::H):=by
  have:=l_make (C:=C) (R:=R) (H:=H) (dst:=dst) (ty:=ty) (pos:=pos) (aft:=aft) (g:=g) hx hy ht hs hz hb hn hby
  rwa [made_elems hza hea] at this
theorem q_dbl {x y:Operand} {xT yT:TypeId} {j:Nat} (h1:evalE L x=some (.int .i64 2)) (h2:evalE L y=some (.int .i64 (j:Int))) (hr:j≤4611686018427387903):Quiet C R H L ⟨dst,.binOp .mul xT x y yT,ty,pos,aft,g⟩ (.int .i64 ((2*j:Nat):Int)):=by
  have:=q_mul (C:=C) (R:=R) (H:=H) (dst:=dst) (ty:=ty) (pos:=pos) (aft:=aft) (g:=g) (xT:=xT) (yT:=yT) h1 h2 ⟨by omega,by omega⟩
  rwa [show 2*(j:Int)=((2*j:Nat):Int) from by omega] at this
end
end Go.Eng
