/- Texts of this proof, one after the other; no conditions. -/
import Derived.Test.YtjopknnkcnehmaaGreatDoorProg
import Derived.Test.YtjopknnkcnehmaaGreatDoorWB7
import Derived.Test.YtjopknnkcnehmaaGreatDoorWB2
import Derived.Test.YtjopknnkcnehmaaGreatDoorWB0
import Derived.Test.YtjopknnkcnehmaaGreatDoorWB1
import Derived.Test.YtjopknnkcnehmaaGreatDoorWB4
set_option linter.all false
/- Runs of closed calls, reckoned: a drawn region comes to the same in every order: the invariant. No conditions. -/
namespace Go.Ev
open Go.Eng
theorem eff_rd {i:In} (h:effK (clsI i)=false):rdI i=true:=by
  cases i with
  | st=>cases h
  | call=>cases h
  | wr wr=>cases wr <;> cases h
  | _=>rfl
theorem rd_ev {cf:CallF} {yf:YF} {fr:Fr} {h h':AH} {i:In} {v:Value} (hi:rdI i=true) (hv:evIn cf yf fr h i=some (v,h')):evQ fr h i=some v∧h'=h:=by
  have hq:ret1 h (evQ fr h i)=some (v,h'):=by
    cases i with
    | st=>cases hi
    | call=>cases hi
    | wr=>cases hi
    | _=>exact hv
  cases e:evQ fr h i with
  | none=>rw [e] at hq; cases hq
  | some v'=>rw [e] at hq; cases hq; exact ⟨rfl,rfl⟩
theorem cls0 {i:In} (h:clsI i=0) (fr:Fr) (h1 h2:AH):evQ fr h1 i=evQ fr h2 i:=by
  cases i with
  | ld1=>cases h
  | ldn=>cases h
  | mi m =>
    cases m with
    | b2s=>cases h
    | lkp=>cases h
    | _=>rfl
  | _=>rfl
theorem cls_le (i:In):clsI i=0∨clsI i=1∨clsI i=2∨clsI i=3:=by
  cases i with
  | wr wr=>cases wr <;> simp [clsI]
  | mi m=>cases m <;> simp [clsI]
  | _=>simp [clsI]
section
variable {P:Program} {ρ ρ':Rn} {fr:Fr} {w:World} {h h':AH} {η:PH}
theorem HR.mono (r:HR P ρ h η) (hle:ρ.le ρ'):HR P ρ' h η:=by
  have key:∀ i b s e,h.get i≠none→ρ' i=some (b,s,e)→ρ i=some (b,s,e):=fun i b s e hi h1=>by
    obtain ⟨a,ha⟩:=Option.ne_none_iff_exists'.1 hi
    obtain ⟨b',s',e',o,h2,_⟩:=r.val i a ha
    have:=hle _ _ h2
    rw [h1] at this; rw [h2,this]
  refine ⟨fun i a hi=>?_,fun b hb=>?_,fun i j b s e s' e' hi hj h1 h2=>r.inj i j b s e s' e' hi hj (key i b s e hi h1) (key j b s' e' hj h2)⟩
  · obtain ⟨b,s,e,o,h1,h2,h3⟩:=r.val i a hi
    exact ⟨b,s,e,o,hle _ _ h1,h2,h3.mono hle⟩
  · obtain ⟨i,a,s,e,h1,h2⟩:=r.dom b hb
    exact ⟨i,a,s,e,h1,hle _ _ h2⟩
theorem HR.add (r:HR P ρ h η) {x:AO} (e:h.new x=some h') {b s ex:Nat} (hn:ρ h.next=some (b,s,ex)) (hb:η b=none) {o:Obj} (ho:OR P ρ s ex x o):HR P ρ h' (setP η b (some o)):=by
  obtain ⟨g,_⟩:=AH.get_new e
  have hne:∀ i a,h.get i=some a→i≠h.next:=fun i a hi e=>by
    obtain ⟨b',s',e',o',h1,h2,_⟩:=r.val i a hi
    rw [e,hn] at h1; cases h1;rw [hb] at h2; cases h2
  have hbn:∀ i a,h.get i=some a→∀ b' s' e',ρ i=some (b',s',e')→b'≠b:=fun i a hi b' s' e' h1 e=>by
    obtain ⟨b2,s2,e2,o2,h2,h3,_⟩:=r.val i a hi
    rw [h1] at h2; cases h2;rw [e,hb] at h3; cases h3
  refine ⟨fun i a hi=>?_,fun b' hb'=>?_,fun i j b' s' e' s2 e2 hi hj h1 h2=>?_⟩
  · rw [g] at hi
    by_cases ei:i=h.next
    · rw [if_pos ei] at hi; cases hi
      exact ⟨b,s,ex,o,by rw [ei]; exact hn,by simp [setP],ho⟩
    · rw [if_neg ei] at hi
      obtain ⟨b',s',e',o',h1,h2,h3⟩:=r.val i a hi
      exact ⟨b',s',e',o',h1,by simp [setP,hbn i a hi b' s' e' h1,h2],h3⟩
  · by_cases eb:b'=b
    · exact ⟨h.next,x,s,ex,by rw [g,if_pos rfl],by rw [eb]; exact hn⟩
    · simp only [setP,if_neg eb] at hb'
      obtain ⟨i,a,s',e',h1,h2⟩:=r.dom b' hb'
      exact ⟨i,a,s',e',by rw [g,if_neg (hne i a h1)]; exact h1,h2⟩
  · rw [g] at hi hj
    by_cases ei:i=h.next <;> by_cases ej:j=h.next
    · rw [ei,ej]
    · rw [if_neg ej] at hj
      obtain ⟨a,ha⟩:=Option.ne_none_iff_exists'.1 hj
      rw [ei,hn] at h1; cases h1;exact absurd rfl (hbn j a ha _ s2 e2 h2)
    · rw [if_neg ei] at hi
      obtain ⟨a,ha⟩:=Option.ne_none_iff_exists'.1 hi
      rw [ej,hn] at h2; cases h2;exact absurd rfl (hbn i a ha _ s' e' h1)
    · rw [if_neg ei] at hi; rw [if_neg ej] at hj
      exact r.inj i j b' s' e' s2 e2 hi hj h1 h2
theorem put_at {a:Act} {d t:Nat} {u:Value} (hd:d<a.tmps.size):(a.put (some d) u).tmps.getD t undef=if t=d then u else a.tmps.getD t undef:=by
  simp only [Act.put,Array.getD_eq_getD_getElem?,Array.getElem?_setIfInBounds]
  by_cases e:d=t
  · subst e; simp [hd]
  · rw [if_neg e,if_neg (fun h=>e h.symm)]
theorem want_fr2 {all:Array Oper} {o:Oper} {q:Op1} {b:Bool} {a:Act} (h1:op1 P all o=some q) (hw:want fr q.g=some b) (hk:∀ t∈readsOf all o,∀ v,fr.get t=some v→∃ u,rn ρ v=some u∧a.tmps.getD t undef=u):Region.wanted o (yielded all a.tmps)=b:=by
  unfold op1 at h1;unfold Region.wanted
  split at h1
  · rename_i hg _
    cases h1
    cases hw
    rw [hg]
  · rename_i j w0 i hg hi
    split at h1
    · rename_i d hd
      cases h1
      have hk:=hk d (by unfold readsOf; rw [hg]; simp [hd])
      rw [hg];simp only [want] at hw;unfold yielded
      dsimp only
      rw [hd];simp only [Option.bind_some]
      split at hw
      · rename_i c hc
        cases hw
        obtain ⟨u,q1,q2⟩:=hk _ hc
        cases q1
        have hget:(a.tmps[d]?).getD undef=.bool c:=by rw [← q2]; simp [Array.getD_eq_getD_getElem?]
        cases hx:a.tmps[d]? with
        | none=>rw [hx] at hget; cases hget
        | some x=>rw [hx] at hget; simp at hget; subst hget; simp
      · rename_i c hc
        cases hw
        obtain ⟨u,q1,q2⟩:=hk _ hc
        obtain ⟨l⟩:=c
        obtain ⟨us,q3,rfl⟩:=rn_tuple q1
        have hget:(a.tmps[d]?).getD undef=.tuple us.toArray:=by rw [← q2]; simp [Array.getD_eq_getD_getElem?]
        cases hx:a.tmps[d]? with
        | none=>simp
        | some x=>rw [hx] at hget; simp at hget; subst hget; simp
      · cases hw
    · cases h1
  · cases h1
theorem ek_rds {all:Array Oper} {o:Oper} {a:Act} (hk:∀ t∈readsOf all o,∀ v,fr.get t=some v→∃ u,rn ρ v=some u∧a.tmps.getD t undef=u):EK ρ fr a.eval o.op.operands:=fun x hx v hv hc=>by
  cases x with
  | tmp t=>exact hk t (by unfold readsOf; simp only [List.mem_append,List.mem_filterMap]; exact .inl ⟨.tmp t,by simpa using hx,rfl⟩) v hv
  | const c =>
    simp only [evX,Option.some.injEq] at hv;subst hv
    rcases hc with ⟨t,e⟩|hc
    · cases e
    · exact ⟨_,rn_flat hc,rfl⟩
  | global g=>cases hv
  | func f=>cases hv; exact ⟨_,rfl,rfl⟩
end
/-! the region -/
structure RC where
  P:Program
  ops:Array Oper
  sl:Tr Nat
  M:Nat
  cf:CallF
  yf:YF
  T:List Evt
  fr0:Fr
  h0:AH
  frN:Fr
  hN:AH
  ρ0:Rn
  η0:PH
  w0:World
  df:List Deferred
structure RC.OK (c:RC):Prop where
  cf:FOK c.P c.cf
  yf:YOK c.P c.yf
  sch:Sched c.P c.ops c.sl (c.T.map pr)
  tr:Trace c.M (evIn c.cf c.yf) c.fr0 c.h0 c.T c.frN c.hN
  fresh:Fresh c.ρ0 c.h0.next c.hN.next
theorem Good.at {full:Nat} {sl:Tr Nat}:∀ {B1 A0 B2:Sch} {x:DOp × Nat},Good full sl A0 (B1 ++ x::B2)→Good1 sl (A0 ++ B1) x
  | [],A0,B2,x,h=>by simpa using h.1
  | y::B1,A0,B2,x,h=>by
    have:=Good.at (B1:=B1) h.2
    simpa using this
theorem Good.all {full:Nat} {sl:Tr Nat}:∀ {B A0:Sch},Good full sl A0 B→∀ j,full.testBit j=true→j∈idxS (A0 ++ B)
  | [],A0,h=>by rw [List.append_nil]; exact h
  | y::B,A0,h=>by
    have:=Good.all (B:=B) h.2
    simpa using this
section
variable {c:RC}
theorem RC.OK.good1 (ok:c.OK) {A B:List Evt} {e:Evt} (h:c.T=A ++ e::B):Good1 c.sl (A.map pr) (pr e):=by
  have:=ok.sch.good
  rw [h,List.map_append,List.map_cons] at this
  simpa using this.at
theorem idx_pr {A:List Evt} {i:Nat}:i∈idxS (A.map pr)↔∃ y∈A,y.d.i=i:=by
  simp [idxS]
theorem RC.OK.uniq (ok:c.OK) {e e':Evt} (he:e∈c.T) (he':e'∈c.T) (h:e.d.i=e'.d.i):e=e':=by
  obtain ⟨A,B,hT⟩:=List.append_of_mem he
  have g1:=ok.good1 hT
  rw [hT] at he'
  rcases List.mem_append.1 he' with h1|h1
  · exact absurd (idx_pr.2 ⟨e',h1,h.symm⟩) g1.new
  · rcases List.mem_cons.1 h1 with h1|h1
    · exact h1.symm
    · obtain ⟨B1,B2,hB⟩:=List.append_of_mem h1
      have g2:=ok.good1 (A:=A ++ e::B1) (e:=e') (B:=B2) (by rw [hT,hB]; simp)
      exact absurd (idx_pr.2 ⟨e,by simp,h⟩) g2.new
theorem RC.OK.cov (ok:c.OK) {i:Nat} (hi:i<c.ops.size):∃ e∈c.T,e.d.i=i:=by
  have:=ok.sch.good.all i (by
    have h1:bit c.ops.size=2 ^ c.ops.size:=by unfold bit; show 1 <<< _=_; rw [Nat.shiftLeft_eq,Nat.one_mul]
    rw [h1]
    have h2:Nat.sub (2 ^ c.ops.size) 1=2 ^ c.ops.size-1:=rfl
    rw [h2,Nat.testBit_two_pow_sub_one]
    simpa using hi)
  exact idx_pr.1 (by simpa using this)
theorem RC.OK.dk (ok:c.OK) {e:Evt} (he:e∈c.T):DK c.P c.ops e.d:=ok.sch.dk (pr e) (List.mem_map.2 ⟨e,he,rfl⟩)
theorem RC.OK.slot (ok:c.OK) {e:Evt} (he:e∈c.T) {s:Nat} (hs:e.d.q.d=some s):c.sl.get s=some e.d.i:=ok.sch.slot (pr e) (List.mem_map.2 ⟨e,he,rfl⟩) s hs
theorem RC.OK.evn (ok:c.OK):∀ fr h i v h',evIn c.cf c.yf fr h i=some (v,h')→h.next≤h'.next:=fun _ _ _ _ _ e=>evIn_next ok.cf ok.yf e
abbrev Clo (c:RC) (X:Nat→Prop):Prop:=∀ e∈c.T,X e.d.i→∀ j∈e.d.ps,X j
structure DIx (c:RC) (X:Nat→Prop) (D S:List Evt) (h:AH) (ρ:Rn) (η:PH) (a:Act) (w:World):Prop where
  cat:c.T=D ++ S
  frm:∃ frS,Trace c.M (evIn c.cf c.yf) frS h S c.frN c.hN
  lo:c.h0.next≤h.next
  doneD:∀ e∈D,effK e.d.k=true→X e.d.i
  notS:∀ e∈S,e.d.k=3→¬ X e.d.i
  hr:HR c.P ρ h η
  upd:Upd [c.η0] [η] c.w0 w
  rle:c.ρ0.le ρ
  rnew:∀ n,ρ n≠none→c.ρ0 n≠none∨(c.h0.next≤n∧n<h.next)∨∃ e∈S,X e.d.i∧e.d.k=2∧e.b=true∧n=e.h.next
  ext:∀ e∈S,e.d.k=2→e.b=true→X e.d.i→∃ b ob x,ρ e.h.next=some (b,0,0)∧w.heap[b]?=some ob∧η b=none∧c.w0.heap.size≤b∧e.h.new x=some e.h'∧∀ ρ',ρ.le ρ'→OR c.P ρ' 0 0 x ob
  dis:∀ e∈S,∀ e'∈S,e.d.k=2→e'.d.k=2→e.b=true→e'.b=true→X e.d.i→X e'.d.i→∀ b,ρ e.h.next=some (b,0,0)→ρ e'.h.next=some (b,0,0)→e.h.next=e'.h.next
  vals:∀ e∈c.T,X e.d.i→∀ s,e.d.q.d=some s→∃ u,rn ρ e.v=some u∧a.tmps.getD s undef=u
  base:∀ t,(∀ e∈c.T,e.d.q.d≠some t)→∀ v,c.fr0.get t=some v→∃ u,rn ρ v=some u∧a.tmps.getD t undef=u
  late:∀ e∈D,e.d.k=1→e.b=true→¬ X e.d.i→evQ e.fr h e.d.q.i=some e.v∧Watch e.d.i e.fr e.d.q.i e.v S
  rck:Rck S
  size:a.tmps.size=c.M
  dfr:a.defers=c.df
theorem DIx.le {X:Nat→Prop} {D S:List Evt} {h:AH} {ρ:Rn} {η:PH} {a:Act} {w:World} (di:DIx c X D S h ρ η a w):η.le w:=di.upd.own η (by simp)
theorem Trace.lt {M:Nat} {ev:EvF} (hev:∀ fr h i v h',ev fr h i=some (v,h')→h.next≤h'.next) {fr fr':Fr} {h h':AH} {e:Evt} {S:List Evt} (t:Trace M ev fr h (e::S) fr' h'):h.next≤e.h'.next∧e.h'.next≤h'.next∧∀ y∈S,e.h'.next≤y.h.next:=by
  obtain ⟨_,_,_,k2,k3,fr1,_,t1⟩:=t.head
  refine ⟨?_,t1.next hev,fun y hy=>?_⟩
  · cases hb:e.b with
    | true=>exact hev _ _ _ _ _ (k2 hb)
    | false=>rw [(k3 hb).2]; exact Nat.le_refl _
  · obtain ⟨A,B,rfl⟩:=List.append_of_mem hy
    obtain ⟨fr2,h2,t2,t3⟩:=t1.split
    rw [t3.head.2.1];exact t2.next hev
theorem Trace.at {M:Nat} {ev:EvF} {fr fr':Fr} {h h':AH} {e:Evt} {S:List Evt} (t:Trace M ev fr h S fr' h') (he:e∈S):want e.fr e.d.q.g=some e.b∧(e.b=true→ev e.fr e.h e.d.q.i=some (e.v,e.h'))∧(e.b=false→e.v=undef∧e.h'=e.h)∧∀ s,e.d.q.d=some s→s<M:=by
  obtain ⟨A,B,rfl⟩:=List.append_of_mem he
  obtain ⟨fr2,h2,_,t3⟩:=t.split
  obtain ⟨k1,k2,k3,k4,k5,fr1,k6,_⟩:=t3.head
  rw [k1,k2]
  exact ⟨k3,k4,k5,fun s hs=>by rw [hs] at k6; exact putF_lt k6⟩
end
end Go.Ev
namespace Go.Ev
open Go.Eng
section
variable {c:RC} {X:Nat→Prop} {D S:List Evt} {h:AH} {ρ:Rn} {η:PH} {a:Act} {w:World}
theorem RC.OK.ancs (ok:c.OK) {A B:List Evt} {e:Evt} (hT:c.T=A ++ e::B) (cl:Clo c X) (hp:∀ j∈e.d.ps,X j) {j:Nat} (hj:hasB e.am j=true):X j:=
  (ok.good1 hT).anc X (fun y hy hX=>by
    obtain ⟨y',hy',rfl⟩:=List.mem_map.1 hy
    exact cl y' (by rw [hT]; simp [hy']) hX) hp j hj
theorem RC.OK.effs (ok:c.OK) {A B:List Evt} {e:Evt} (hT:c.T=A ++ e::B) (cl:Clo c X) (hp:∀ j∈e.d.ps,X j) (hk:e.d.k=1∨e.d.k=3) {y:Evt} (hy:y∈A) (he:effK y.d.k=true):X y.d.i:=
  ok.ancs hT cl hp ((ok.good1 hT).eff hk (pr y) (List.mem_map.2 ⟨y,hy,rfl⟩) he)
theorem RC.OK.kk (ok:c.OK) {e:Evt} (he:e∈c.T):e.d.k=0∨e.d.k=1∨e.d.k=2∨e.d.k=3:=by
  rw [(ok.dk he).k]; exact cls_le _
theorem DIx.pass (ok:c.OK) {e:Evt} (di:DIx c X D (e::S) h ρ η a w) (cl:Clo c X) (hx:effK e.d.k=true→X e.d.i) (hb:effK e.d.k=true→e.b=false):DIx c X (D ++ [e]) S h ρ η a w:=by
  obtain ⟨frS,t⟩:=di.frm
  obtain ⟨k1,k2,k3,k4,k5,fr1,k6,t1⟩:=t.head
  have heT:e∈c.T:=by rw [di.cat]; simp
  have hsame:e.h'=h∧(e.b=true→evQ e.fr h e.d.q.i=some e.v):=by
    cases hbb:e.b with
    | false=>exact ⟨(k5 hbb).2,fun h=>by cases h⟩
    | true =>
      cases hk:effK e.d.k with
      | true=>rw [hb hk] at hbb; cases hbb
      | false =>
        rw [(ok.dk heT).k] at hk
        obtain ⟨q1,q2⟩:=rd_ev (eff_rd hk) (k4 hbb)
        rw [k1]
        exact ⟨q2,fun _=>q1⟩
  have hkk:=ok.kk heT
  refine ⟨by rw [di.cat]; simp,⟨fr1,by rw [← hsame.1]; exact t1⟩,di.lo,fun y hy hk=>?_,fun y hy=>di.notS y (by simp [hy]),di.hr,di.upd,di.rle,fun n hn=>?_,fun y hy=>di.ext y (by simp [hy]),fun y hy y' hy'=>di.dis y (by simp [hy]) y' (by simp [hy']),di.vals,di.base,fun y hy hk hyb hyX=>?_,di.rck.2,di.size,di.dfr⟩
  · rcases List.mem_append.1 hy with hy|hy
    · exact di.doneD y hy hk
    · simp at hy; subst hy; exact hx hk
  · rcases di.rnew n hn with h1|h1|⟨y,hy,h2,h3,h4,h5⟩
    · exact .inl h1
    · exact .inr (.inl h1)
    · rcases List.mem_cons.1 hy with rfl|hy
      · have:=hb (by rw [h3]; rfl)
        rw [this] at h4; cases h4
      · exact .inr (.inr ⟨y,hy,h2,h3,h4,h5⟩)
  · rcases List.mem_append.1 hy with hy|hy
    · obtain ⟨q1,q2⟩:=di.late y hy hk hyb hyX
      refine ⟨q1,?_⟩
      rcases q2.2 with ⟨h1,h2,_⟩|h2
      · rw [hb h1] at h2; cases h2
      · exact h2
    · simp at hy; subst hy
      exact ⟨hsame.2 hyb,di.rck.1 hk hyb⟩
theorem DIx.merge (ok:c.OK) {e:Evt} (di:DIx c X D (e::S) h ρ η a w) (cl:Clo c X) (hk:e.d.k=2) (hb:e.b=true) (hx:X e.d.i):∃ η',DIx c X (D ++ [e]) S e.h' ρ η' a w:=by
  obtain ⟨frS,t⟩:=di.frm
  obtain ⟨k1,k2,k3,k4,k5,fr1,k6,t1⟩:=t.head
  have heT:e∈c.T:=by rw [di.cat]; simp
  obtain ⟨b,ob,x,q1,q2,q3,q4,q5,q6⟩:=di.ext e (by simp) hk hb hx
  have hlt:=t.lt ok.evn
  have hnx:e.h'.next=e.h.next+1:=(AH.get_new q5).2
  rw [k2] at q1 q5 hnx
  have hr':=di.hr.add q5 q1 q3 (q6 ρ (fun _ _ h=>h))
  refine ⟨setP η b (some ob),by rw [di.cat]; simp,⟨fr1,t1⟩,Nat.le_trans di.lo hlt.1,fun y hy hk=>?_,fun y hy=>di.notS y (by simp [hy]),hr',?_,di.rle,fun n hn=>?_,fun y hy hyk hyb hyX=>?_,fun y hy y' hy'=>di.dis y (by simp [hy]) y' (by simp [hy']),di.vals,di.base,fun y hy hk1 hyb hyX=>?_,di.rck.2,di.size,di.dfr⟩
  · rcases List.mem_append.1 hy with hy|hy
    · exact di.doneD y hy hk
    · simp at hy; subst hy; exact hx
  · refine Upd.one di.upd.size (fun b' hb' hn=>di.upd.keep b' hb' (by simpa using hn)) (fun b' o' ho'=>?_) (fun b' hb'=>?_)
    · unfold setP at ho'
      split at ho'
      · rename_i e1; cases ho'; subst e1; exact q2
      · exact di.le b' o' ho'
    · unfold setP at hb'
      split at hb'
      · rename_i e1; right; rw [e1]; exact q4
      · rcases di.upd.new η (by simp) b' hb' with ⟨τ,hτ,h⟩|h
        · simp at hτ; subst hτ; exact .inl h
        · exact .inr h
  · rcases di.rnew n hn with h1|h1|⟨y,hy,h2,h3,h4,h5⟩
    · exact .inl h1
    · exact .inr (.inl ⟨h1.1,by omega⟩)
    · rcases List.mem_cons.1 hy with rfl|hy
      · refine .inr (.inl ⟨?_,?_⟩)
        · rw [h5,k2]; exact di.lo
        · rw [h5,k2]; omega
      · exact .inr (.inr ⟨y,hy,h2,h3,h4,h5⟩)
  · obtain ⟨b2,ob2,x2,r1,r2,r3,r4⟩:=di.ext y (by simp [hy]) hyk hyb hyX
    refine ⟨b2,ob2,x2,r1,r2,?_,r4⟩
    have hne:b2≠b:=fun e1=>by
      subst e1
      have:=di.dis e (by simp) y (by simp [hy]) hk hyk hb hyb hx hyX b2 (by rw [k2]; exact q1) r1
      have h3:=hlt.2.2 y hy
      rw [k2] at this;omega
    simp [setP,hne,r3]
  · rcases List.mem_append.1 hy with hy|hy
    · obtain ⟨r1,r2⟩:=di.late y hy hk1 hyb hyX
      have he:effK e.d.k=true:=by rw [hk]; rfl
      have hno:¬ hasB e.am y.d.i=true:=fun hh=>hyX (ok.ancs di.cat cl (cl e heT hx) hh)
      refine ⟨(r2.1 he hb).resolve_left hno,?_⟩
      rcases r2.2 with ⟨_,_,h3⟩|h3
      · exact absurd h3 hno
      · exact h3
    · simp at hy; subst hy
      rw [hk] at hk1; cases hk1
theorem DIx.advance (ok:c.OK) (cl:Clo c X):∀ {S D:List Evt} {h:AH} {η:PH},DIx c X D S h ρ η a w→∃ D' S' h' η',DIx c X D' S' h' ρ η' a w∧(S'=[]∨∃ e S'',S'=e::S''∧effK e.d.k=true∧¬ X e.d.i)
  | [],D,h,η,di=>⟨D,[],h,η,di,.inl rfl⟩
  | e::S,D,h,η,di=>by
    have heT:e∈c.T:=by rw [di.cat]; simp
    by_cases hs:effK e.d.k=true∧¬ X e.d.i
    · exact ⟨D,e::S,h,η,di,.inr ⟨e,S,rfl,hs.1,hs.2⟩⟩
    · have hx:effK e.d.k=true→X e.d.i:=fun hk=>Classical.byContradiction fun hx=>hs ⟨hk,hx⟩
      by_cases hb:effK e.d.k=true∧e.b=true
      · have hk:e.d.k=2:=by
          rcases ok.kk heT with h|h|h|h
          · rw [h] at hb; cases hb.1
          · rw [h] at hb; cases hb.1
          · exact h
          · exact absurd (hx hb.1) (di.notS e (by simp) h)
        obtain ⟨η',di'⟩:=di.merge ok cl hk hb.2 (hx hb.1)
        exact di'.advance ok cl
      · have di':=di.pass ok cl hx (fun hk=>by
          cases hbb:e.b with
          | false=>rfl
          | true=>exact absurd ⟨hk,hbb⟩ hb)
        exact di'.advance ok cl
theorem DIx.reads (ok:c.OK) (di:DIx c X D S h ρ η a w) {e:Evt} (he:e∈c.T) (hp:∀ j∈e.d.ps,X j):∀ t∈e.d.rs,∀ v,e.fr.get t=some v→∃ u,rn ρ v=some u∧a.tmps.getD t undef=u:=by
  intro t ht v hv
  obtain ⟨A,B,hT⟩:=List.append_of_mem he
  have htr:=ok.tr
  rw [hT] at htr
  obtain ⟨fr1,h1,t1,t2⟩:=htr.split
  rw [t2.head.1] at hv
  have g:=ok.good1 hT
  have hps:∀ y∈c.T,y.d.q.d=some t→y.d.i∈e.d.ps:=fun y hy hyt=>g.rds t ht _ (ok.slot hy hyt)
  rcases t1.get t v hv with ⟨y,hy,h2,h3⟩|⟨h2,h3⟩
  · have hyT:y∈c.T:=by rw [hT]; simp [hy]
    rw [← h3];exact di.vals y hyT (hp _ (hps y hyT h2)) t h2
  · refine di.base t (fun y hy hyt=>?_) v h2
    obtain ⟨y',hy',hyi⟩:=idx_pr.1 (g.pre _ (hps y hy hyt))
    have:y'=y:=ok.uniq (by rw [hT]; simp [hy']) hy hyi
    subst this;exact h3 y' hy' hyt
theorem DIx.put (ok:c.OK) (di:DIx c X D S h ρ η a w) {e:Evt} (he:e∈c.T) {ρ':Rn} (hle:ρ.le ρ') {u:Value} (hu:rn ρ' e.v=some u) :
    (∀ y∈c.T,(X y.d.i∨y.d.i=e.d.i)→∀ s,y.d.q.d=some s→∃ u',rn ρ' y.v=some u'∧(a.put e.d.q.d u).tmps.getD s undef=u') ∧
    (∀ t,(∀ y∈c.T,y.d.q.d≠some t)→∀ v,c.fr0.get t=some v→∃ u',rn ρ' v=some u'∧(a.put e.d.q.d u).tmps.getD t undef=u')∧(a.put e.d.q.d u).tmps.size=c.M∧(a.put e.d.q.d u).defers=c.df:=by
  have hlt:=(ok.tr.at he).2.2.2
  cases hd:e.d.q.d with
  | none =>
    refine ⟨fun y hy hX s hs=>?_,fun t ht v hv=>?_,di.size,di.dfr⟩
    · rcases hX with hX|hX
      · obtain ⟨u',h1,h2⟩:=di.vals y hy hX s hs; exact ⟨u',rn_mono hle h1,h2⟩
      · have:=ok.uniq hy he hX; subst this; rw [hd] at hs; cases hs
    · obtain ⟨u',h1,h2⟩:=di.base t ht v hv; exact ⟨u',rn_mono hle h1,h2⟩
  | some d =>
    have hdm:d<a.tmps.size:=by rw [di.size]; exact hlt d hd
    refine ⟨fun y hy hX s hs=>?_,fun t ht v hv=>?_,by simp [Act.put,di.size],di.dfr⟩
    · by_cases e1:y.d.i=e.d.i
      · have:=ok.uniq hy he e1; subst this
        rw [hd] at hs; cases hs
        exact ⟨u,hu,by rw [put_at hdm,if_pos rfl]⟩
      · have hne:s≠d:=fun e2=>by
          subst e2
          have h1:=ok.slot hy hs
          have h2:=ok.slot he hd
          rw [h1,Option.some.injEq] at h2; exact e1 h2
        obtain ⟨u',h1,h2⟩:=di.vals y hy (hX.resolve_right e1) s hs
        exact ⟨u',rn_mono hle h1,by rw [put_at hdm,if_neg hne]; exact h2⟩
    · have hne:t≠d:=fun e2=>by subst e2; exact ht e he hd
      obtain ⟨u',h1,h2⟩:=di.base t ht v hv
      exact ⟨u',rn_mono hle h1,by rw [put_at hdm,if_neg hne]; exact h2⟩
end
end Go.Ev
namespace Go.Ev
open Go.Eng
section
variable {c : RC} {X : Nat → Prop} {D S : List Evt} {h : AH} {ρ : Rn} {η : PH} {a : Act} {w : World} {r : Option Nat} {Q : Exit → Act → World → Prop} {K : Act → World → Prop}
abbrev XI (X : Nat → Prop) (i : Nat) : Nat → Prop := fun j => X j ∨ j = i
abbrev NextQ (c : RC) (X : Nat → Prop) (i : Nat) (K : Act → World → Prop) : Prop := ∀ D S h ρ η a w, DIx c (XI X i) D S h ρ η a w → K a w
theorem DIx.quiet (ok : c.OK) (di : DIx c X D S h ρ η a w) {e : Evt} (he : e ∈ c.T) (hx : ¬ X e.d.i) {u : Value} (hu : rn ρ e.v = some u) (h3 : e.d.k = 3 → e ∉ S) (h2 : e.d.k = 2 → e.b = false) : DIx c (XI X e.d.i) D S h ρ η (a.put e.d.q.d u) w := by
  obtain ⟨p1, p2, p3, p4⟩ := di.put ok he (fun _ _ h => h) hu
  have hT : ∀ y ∈ S, y ∈ c.T := fun y hy => by rw [di.cat]; simp [hy]
  have hTD : ∀ y ∈ D, y ∈ c.T := fun y hy => by rw [di.cat]; simp [hy]
  have back : ∀ y ∈ S, y.d.k = 2 → y.b = true → XI X e.d.i y.d.i → X y.d.i := fun y hy hk hb hX => by
    rcases hX with hX | hX
    · exact hX
    · have := ok.uniq (hT y hy) he hX; subst this
      rw [h2 hk] at hb; cases hb
  refine ⟨di.cat, di.frm, di.lo, fun y hy hk => .inl (di.doneD y hy hk), fun y hy hk hX => ?_, di.hr, di.upd, di.rle, fun n hn => ?_, fun y hy hk hb hX => di.ext y hy hk hb (back y hy hk hb hX), fun y hy y' hy' k1 k2 b1 b2 x1 x2 => di.dis y hy y' hy' k1 k2 b1 b2 (back y hy k1 b1 x1) (back y' hy' k2 b2 x2), p1, p2, fun y hy hk hb hX => di.late y hy hk hb (fun h => hX (.inl h)), di.rck, p3, p4⟩
  · rcases hX with hX | hX
    · exact di.notS y hy hk hX
    · have := ok.uniq (hT y hy) he hX; subst this
      exact h3 hk hy
  · rcases di.rnew n hn with h1 | h1 | ⟨y, hy, q⟩
    · exact .inl h1
    · exact .inr (.inl h1)
    · exact .inr (.inr ⟨y, hy, .inl q.1, q.2⟩)
theorem DIx.early (ok : c.OK) (di : DIx c X D S h ρ η a w) {e : Evt} (he : e ∈ S) (hx : ¬ X e.d.i) (hk : e.d.k = 2) (hb : e.b = true) (hn : ρ e.h.next = none) {x : AO} {ob : Obj} {u : Value} (q1 : e.h.new x = some e.h')
    (q3 : rn (setR ρ e.h.next (w.heap.size, 0, 0)) e.v = some u) (q4 : ∀ ρ', ρ.le ρ' → OR c.P ρ' 0 0 x ob) : DIx c (XI X e.d.i) D S h (setR ρ e.h.next (w.heap.size, 0, 0)) η (a.put e.d.q.d u) (w.alloc ob) := by
  have hT : ∀ y ∈ S, y ∈ c.T := fun y hy => by rw [di.cat]; simp [hy]
  have hle := setR_le (x := (w.heap.size, 0, 0)) hn
  obtain ⟨p1, p2, p3, p4⟩ := di.put ok (hT e he) hle q3
  have ual : Upd [η] [η] w (w.alloc ob) := Upd.one ⟨by simp, rfl, rfl, rfl, Nat.le_refl _⟩ (fun b hb _ => heap_alloc_old w ob hb) (fun b o hb => by
    have h1 := di.le b o hb
    have h2 := di.le.lt (b := b) (by rw [hb]; simp)
    rw [heap_alloc_old w ob h2]; exact h1) (fun b hb => .inl hb)
  have hold : ∀ y ∈ S, y.d.k = 2 → y.b = true → X y.d.i → ∃ b2 ob2 x2, (setR ρ e.h.next (w.heap.size, 0, 0)) y.h.next = some (b2, 0, 0) ∧ b2 < w.heap.size ∧ (w.alloc ob).heap[b2]? = some ob2 ∧ η b2 = none ∧ c.w0.heap.size ≤ b2 ∧ y.h.new x2 = some y.h' ∧ ∀ ρ', (setR ρ e.h.next (w.heap.size, 0, 0)).le ρ' → OR c.P ρ' 0 0 x2 ob2 := fun y hy k b hX => by
    obtain ⟨b2, ob2, x2, r1, r2, r3, r4, r5, r6⟩ := di.ext y hy k b hX
    have hlt := (Array.getElem?_eq_some_iff.1 r2).1
    exact ⟨b2, ob2, x2, hle _ _ r1, hlt, by rw [heap_alloc_old w ob hlt]; exact r2, r3, r4, r5, fun ρ' hl => r6 ρ' (fun i x h => hl _ _ (hle _ _ h))⟩
  refine ⟨di.cat, di.frm, di.lo, fun y hy hk => .inl (di.doneD y hy hk), fun y hy hk3 hX => ?_, di.hr.mono hle, Upd.comp di.upd ual, fun i x h => hle _ _ (di.rle _ _ h), fun n hn => ?_, fun y hy k b hX => ?_, fun y hy y' hy' k1 k2 b1 b2 x1 x2 bb e1 e2 => ?_, p1, p2, fun y hy hk hb hX => di.late y hy hk hb (fun h => hX (.inl h)), di.rck, p3, p4⟩
  · rcases hX with hX | hX
    · exact di.notS y hy hk3 hX
    · have := ok.uniq (hT y hy) (hT e he) hX; subst this
      rw [hk] at hk3; cases hk3
  · unfold setR at hn
    split at hn
    · rename_i e1
      exact .inr (.inr ⟨e, he, .inr rfl, hk, hb, e1⟩)
    · rcases di.rnew n hn with h1 | h1 | ⟨y, hy, q⟩
      · exact .inl h1
      · exact .inr (.inl h1)
      · exact .inr (.inr ⟨y, hy, .inl q.1, q.2⟩)
  · rcases hX with hX | hX
    · obtain ⟨b2, ob2, x2, r1, _, r2, r3⟩ := hold y hy k b hX
      exact ⟨b2, ob2, x2, r1, r2, r3⟩
    · have := ok.uniq (hT y hy) (hT e he) hX; subst this
      exact ⟨w.heap.size, ob, x, rn_new, heap_alloc_new w ob, le_none di.le, di.upd.size.1, q1, fun ρ' hl => q4 ρ' (fun i x h => hl _ _ (hle _ _ h))⟩
  · have low : ∀ y ∈ S, y.d.k = 2 → y.b = true → X y.d.i → ∀ bb, (setR ρ e.h.next (w.heap.size, 0, 0)) y.h.next = some (bb, 0, 0) → bb < w.heap.size := fun y hy k b hX bb e3 => by
      obtain ⟨b2, ob2, x2, r1, r2, _⟩ := hold y hy k b hX
      rw [e3] at r1; cases r1; exact r2
    have new : ∀ y ∈ S, y.d.i = e.d.i → ∀ bb, (setR ρ e.h.next (w.heap.size, 0, 0)) y.h.next = some (bb, 0, 0) → bb = w.heap.size ∧ y = e := fun y hy hX bb e3 => by
      have := ok.uniq (hT y hy) (hT e he) hX; subst this
      rw [rn_new] at e3; cases e3; exact ⟨rfl, rfl⟩
    rcases x1 with x1 | x1 <;> rcases x2 with x2 | x2
    · have n1 : ∀ y ∈ S, y.d.k = 2 → y.b = true → X y.d.i → (setR ρ e.h.next (w.heap.size, 0, 0)) y.h.next = some (bb, 0, 0) → ρ y.h.next = some (bb, 0, 0) := fun y hy k b hX e3 => by
        obtain ⟨b2, ob2, x2, r1, _⟩ := di.ext y hy k b hX
        have := hle _ _ r1
        rw [e3] at this; rw [r1, this]
      exact di.dis y hy y' hy' k1 k2 b1 b2 x1 x2 bb (n1 y hy k1 b1 x1 e1) (n1 y' hy' k2 b2 x2 e2)
    · have l1 := low y hy k1 b1 x1 bb e1
      have l2 := (new y' hy' x2 bb e2).1
      omega
    · have l1 := low y' hy' k2 b2 x2 bb e2
      have l2 := (new y hy x1 bb e1).1
      omega
    · rw [(new y hy x1 bb e1).2, (new y' hy' x2 bb e2).2]
theorem DIx.act (ok : c.OK) {e : Evt} (di : DIx c X D (e :: S) h ρ η a w) (cl : Clo c X) (hp : ∀ j ∈ e.d.ps, X j) (hx : ¬ X e.d.i) (hk : e.d.k = 3) (hb : e.b = true) {ρ' : Rn} {η' : PH} {w' : World} {u : Value} (hu : rn ρ' e.v = some u) (af : After c.P ρ η w h e.h' ρ' η' w') :
    DIx c (XI X e.d.i) (D ++ [e]) S e.h' ρ' η' (a.put e.d.q.d u) w' := by
  obtain ⟨frS, t⟩ := di.frm
  obtain ⟨k1, k2, k3, k4, k5, fr1, k6, t1⟩ := t.head
  have hT : ∀ y ∈ S, y ∈ c.T := fun y hy => by rw [di.cat]; simp [hy]
  have heT : e ∈ c.T := by rw [di.cat]; simp
  obtain ⟨hr', hu', hx'⟩ := af
  have hle := hx'.1
  obtain ⟨p1, p2, p3, p4⟩ := di.put ok heT hle hu
  have hlt := t.lt ok.evn
  have heff : effK e.d.k = true := by rw [hk]; rfl
  have ne : ∀ y ∈ S, y.d.i ≠ e.d.i := fun y hy e1 => by
    have g := ok.good1 (A := D) (B := S) (e := e) di.cat
    obtain ⟨B1, B2, hB⟩ := List.append_of_mem hy
    have g2 := ok.good1 (A := D ++ e :: B1) (B := B2) (e := y) (by rw [di.cat, hB]; simp)
    exact g2.new (idx_pr.2 ⟨e, by simp, e1.symm⟩)
  have backX : ∀ y ∈ S, XI X e.d.i y.d.i → X y.d.i := fun y hy hX => hX.resolve_right (ne y hy)
  have ex : ∀ y ∈ S, y.d.k = 2 → y.b = true → X y.d.i → ∃ b ob x, ρ y.h.next = some (b, 0, 0) ∧ ρ' y.h.next = some (b, 0, 0) ∧ w'.heap[b]? = some ob ∧ η' b = none ∧ c.w0.heap.size ≤ b ∧ y.h.new x = some y.h' ∧ ∀ ρ2, ρ'.le ρ2 → OR c.P ρ2 0 0 x ob := fun y hy k b hX => by
    obtain ⟨b2, ob2, x2, r1, r2, r3, r4, r5, r6⟩ := di.ext y (by simp [hy]) k b hX
    have hlt2 := (Array.getElem?_eq_some_iff.1 r2).1
    refine ⟨b2, ob2, x2, r1, hle _ _ r1, ?_, ?_, r4, r5, fun ρ2 hl => r6 ρ2 (fun i x h => hl _ _ (hle _ _ h))⟩
    · rw [hu'.keep b2 hlt2 (fun σ hσ => by simp at hσ; subst hσ; exact r3)]; exact r2
    · cases e2 : η' b2 with
      | none => rfl
      | some o2 =>
        rcases hu'.new η' (by simp) b2 (by rw [e2]; simp) with ⟨τ, hτ, h⟩ | h
        · simp at hτ; subst hτ; exact absurd r3 h
        · omega
  refine ⟨by rw [di.cat]; simp, ⟨fr1, t1⟩, Nat.le_trans di.lo hlt.1, fun y hy hky => ?_, fun y hy hk3 hX => di.notS y (by simp [hy]) hk3 (backX y hy hX), hr', Upd.comp di.upd hu', fun i x h => hle _ _ (di.rle _ _ h), fun n hn => ?_, fun y hy k b hX => ?_, fun y hy y' hy' k1 k2 b1 b2 x1 x2 bb e1 e2 => ?_, p1, p2, fun y hy hk1 hyb hyX => ?_, di.rck.2, p3, p4⟩
  · rcases List.mem_append.1 hy with hy | hy
    · exact .inl (di.doneD y hy hky)
    · simp at hy; subst hy; exact .inr rfl
  · rcases hx'.2 n hn with h1 | h1
    · rcases di.rnew n h1 with h1 | h1 | ⟨y, hy, h2, h3, h4⟩
      · exact .inl h1
      · exact .inr (.inl ⟨h1.1, by have := hlt.1; omega⟩)
      · rcases List.mem_cons.1 hy with rfl | hy
        · exact absurd h2 hx
        · exact .inr (.inr ⟨y, hy, .inl h2, h3, h4⟩)
    · exact .inr (.inl ⟨Nat.le_trans di.lo h1.1, h1.2⟩)
  · obtain ⟨b2, ob2, x2, _, r1, r2, r3⟩ := ex y hy k b (backX y hy hX)
    exact ⟨b2, ob2, x2, r1, r2, r3⟩
  · obtain ⟨c1, _, _, r1, r2, _⟩ := ex y hy k1 b1 (backX y hy x1)
    obtain ⟨c2, _, _, s1, s2, _⟩ := ex y' hy' k2 b2 (backX y' hy' x2)
    rw [e1] at r2; cases r2;rw [e2] at s2; cases s2
    exact di.dis y (by simp [hy]) y' (by simp [hy']) k1 k2 b1 b2 (backX y hy x1) (backX y' hy' x2) bb r1 s1
  · rcases List.mem_append.1 hy with hy | hy
    · obtain ⟨r1, r2⟩ := di.late y hy hk1 hyb (fun h => hyX (.inl h))
      have hno : ¬ hasB e.am y.d.i = true := fun hh => hyX (.inl (ok.ancs di.cat cl hp hh))
      refine ⟨(r2.1 heff hb).resolve_left hno, ?_⟩
      rcases r2.2 with ⟨_, _, h3⟩ | h3
      · exact absurd h3 hno
      · exact h3
    · simp at hy; subst hy; exact absurd (.inr rfl) hyX
theorem DIx.step (ok : c.OK) (cl : Clo c X) (di : DIx c X D S h ρ η a w) (hd : S = [] ∨ ∃ e S', S = e :: S' ∧ effK e.d.k = true ∧ ¬ X e.d.i) {e : Evt} (he : e ∈ c.T) (hx : ¬ X e.d.i) (hp : ∀ j ∈ e.d.ps, X j) (hK : NextQ c X e.d.i K) :
    wpOpIn (wideR r) 0 c.P c.ops Q e.d.i K a w := by
  obtain ⟨o, ho, hq, hps, hrs⟩ := (ok.dk he).o
  have hkk := (ok.dk he).k
  obtain ⟨hi, hdst⟩ := op1_i hq
  have hread := di.reads ok he hp
  rw [hrs] at hread
  obtain ⟨g1, g2, g3, g4⟩ := ok.tr.at he
  have hw := want_fr2 hq g1 hread
  have hek := ek_rds hread
  unfold wpOpIn;rw [ho];simp only
  -- where it lies
  have inS : ∀ (hk : effK e.d.k = true), ∃ D1 S1, S = D1 ++ e :: S1 := fun hk => by
    have := he
    rw [di.cat] at this
    rcases List.mem_append.1 this with h1 | h1
    · exact absurd (di.doneD e h1 hk) hx
    · exact List.append_of_mem h1
  have first : e.d.k = 1 ∨ e.d.k = 3 → ∀ D1 S1, S = D1 ++ e :: S1 → D1 = [] ∧ effK e.d.k = true := fun hk D1 S1 hS => by
    rcases hd with hd | ⟨e0, S0, hS0, h1, h2⟩
    · rw [hd] at hS; cases D1 <;> cases hS
    · cases D1 with
      | nil => rw [hS0] at hS; cases hS; exact ⟨rfl, h1⟩
      | cons y D1 =>
        rw [hS0] at hS; cases hS
        exact absurd (ok.effs (A := D ++ e0 :: D1) (B := S1) (by rw [di.cat, hS0]; simp) cl hp hk (by simp) h1) h2
  cases hb : e.b with
  | false =>
    rw [hb] at hw;simp only [hw, Bool.false_eq_true, if_false]
    refine ⟨fun _ _ => trivial, ?_⟩
    have hv := (g3 hb).1
    rw [← hdst]
    by_cases hk : e.d.k = 3
    · obtain ⟨D1, S1, hS⟩ := inS (by rw [hk]; rfl)
      obtain ⟨rfl, _⟩ := first (.inr hk) D1 S1 hS
      simp only [List.nil_append] at hS;subst hS
      have heff : effK e.d.k = true := by rw [hk]; rfl
      have cl' : Clo c (XI X e.d.i) := fun y hy hX j hj => by
        rcases hX with hX | hX
        · exact .inl (cl y hy hX j hj)
        · have := ok.uniq hy he hX; subst this; exact .inl (hp j hj)
      -- passed first, then the slot
      have d0 : DIx c (XI X e.d.i) (D ++ [e]) S1 h ρ η (a.put e.d.q.d undef) w := by
        obtain ⟨frS, t⟩ := di.frm
        obtain ⟨k1, k2, k3, k4, k5, fr1, k6, t1⟩ := t.head
        have hsame := (k5 hb).2
        obtain ⟨p1, p2, p3, p4⟩ := di.put ok he (fun _ _ h => h) (u := undef) (by rw [hv]; rfl)
        have hT : ∀ y ∈ S1, y ∈ c.T := fun y hy => by rw [di.cat]; simp [hy]
        have ne : ∀ y ∈ S1, y.d.i ≠ e.d.i := fun y hy e1 => by
          obtain ⟨B1, B2, hB⟩ := List.append_of_mem hy
          have g2 := ok.good1 (A := D ++ e :: B1) (B := B2) (e := y) (by rw [di.cat, hB]; simp)
          exact g2.new (idx_pr.2 ⟨e, by simp, e1.symm⟩)
        have backX : ∀ y ∈ S1, XI X e.d.i y.d.i → X y.d.i := fun y hy hX => hX.resolve_right (ne y hy)
        refine ⟨by rw [di.cat]; simp, ⟨fr1, by rw [← hsame]; exact t1⟩, di.lo, fun y hy hky => ?_, fun y hy hk3 hX => di.notS y (by simp [hy]) hk3 (backX y hy hX), di.hr, di.upd, di.rle, fun n hn => ?_, fun y hy k b hX => di.ext y (by simp [hy]) k b (backX y hy hX), fun y hy y' hy' k1 k2 b1 b2 x1 x2 => di.dis y (by simp [hy]) y' (by simp [hy']) k1 k2 b1 b2 (backX y hy x1) (backX y' hy' x2), p1, p2, fun y hy hk1 hyb hyX => ?_, di.rck.2, p3, p4⟩
        · rcases List.mem_append.1 hy with hy | hy
          · exact .inl (di.doneD y hy hky)
          · simp at hy; subst hy; exact .inr rfl
        · rcases di.rnew n hn with h1 | h1 | ⟨y, hy, h2, h3, h4⟩
          · exact .inl h1
          · exact .inr (.inl h1)
          · rcases List.mem_cons.1 hy with rfl | hy
            · exact absurd h2 hx
            · exact .inr (.inr ⟨y, hy, .inl h2, h3, h4⟩)
        · rcases List.mem_append.1 hy with hy | hy
          · obtain ⟨r1, r2⟩ := di.late y hy hk1 hyb (fun h => hyX (.inl h))
            refine ⟨r1, ?_⟩
            rcases r2.2 with ⟨_, h2, _⟩ | h3
            · rw [hb] at h2; cases h2
            · exact h3
          · simp at hy; subst hy; exact absurd (.inr rfl) hyX
      exact hK _ _ _ _ _ _ _ d0
    · exact hK _ _ _ _ _ _ _ (di.quiet ok he hx (by rw [hv]; rfl) (fun h => absurd h hk) (fun _ => hb))
  | true =>
    rw [hb] at hw;simp only [hw, if_true]
    have hev := g2 hb
    rcases ok.kk he with hk | hk | hk | hk
    · -- slots alone
      have hrd := eff_rd (i := e.d.q.i) (by rw [← hkk, hk]; rfl)
      obtain ⟨e1, _⟩ := rd_ev hrd hev
      rw [cls0 (by rw [← hkk, hk]) e.fr e.h h] at e1
      obtain ⟨u, q1, q2⟩ := evQ_run (w := w) hi e1 di.hr di.le trivial hek
      refine ⟨fun _ _ => trivial, ?_⟩
      rw [Oper.semAt_eq _ _ _ (not_defer hi), q2]
      show K (a.put o.dst u) _
      rw [← hdst]
      exact hK _ _ _ _ _ _ _ (di.quiet ok he hx q1 (fun h => by rw [hk] at h; cases h) (fun h => by rw [hk] at h; cases h))
    · -- a read
      have hD : e ∈ D := by
        have := he
        rw [di.cat] at this
        rcases List.mem_append.1 this with h1 | h1
        · exact h1
        · obtain ⟨D1, S1, hS⟩ := List.append_of_mem h1
          have := (first (.inl hk) D1 S1 hS).2
          rw [hk] at this; cases this
      obtain ⟨e1, _⟩ := di.late e hD hk hb hx
      obtain ⟨u, q1, q2⟩ := evQ_run (w := w) hi e1 di.hr di.le trivial hek
      refine ⟨fun _ _ => trivial, ?_⟩
      rw [Oper.semAt_eq _ _ _ (not_defer hi), q2]
      show K (a.put o.dst u) _
      rw [← hdst]
      exact hK _ _ _ _ _ _ _ (di.quiet ok he hx q1 (fun h => by rw [hk] at h; cases h) (fun h => by rw [hk] at h; cases h))
    · -- a new block
      obtain ⟨D1, S1, hS⟩ := inS (by rw [hk]; rfl)
      obtain ⟨x, ob, u, q1, q2, q3, q4⟩ := new_ok (w := w) hi (by rw [← hkk, hk]) hev hek
      have hnx := (AH.get_new q1).2
      have hpos : h.next ≤ e.h.next ∧ e.h'.next ≤ c.hN.next := by
        obtain ⟨frS, t⟩ := di.frm
        rw [hS] at t
        obtain ⟨fr2, h2, t2, t3⟩ := t.split
        have := t2.next ok.evn
        have h3 := (t3.lt ok.evn).2.1
        rw [t3.head.2.1];exact ⟨this, h3⟩
      have hn : ρ e.h.next = none := by
        cases e2 : ρ e.h.next with
        | none => rfl
        | some z =>
          exfalso
          rcases di.rnew e.h.next (by rw [e2]; simp) with h1 | h1 | ⟨y, hy, h2, h3, h4, h5⟩
          · exact h1 (ok.fresh _ (Nat.le_trans di.lo hpos.1) (by omega))
          · omega
          · -- another that came early bears another number
            obtain ⟨b, ob, x', _, _, _, _, r5, _⟩ := di.ext y hy h3 h4 h2
            have hny := (AH.get_new r5).2
            obtain ⟨frS, t⟩ := di.frm
            rw [hS] at t hy
            rcases List.mem_append.1 hy with hy | hy
            · obtain ⟨B1, B2, hB⟩ := List.append_of_mem hy
              rw [hB, List.append_assoc] at t
              obtain ⟨fr3, h3', _, t3⟩ := t.split
              have := (t3.lt ok.evn).2.2 e (by simp)
              omega
            · rcases List.mem_cons.1 hy with rfl | hy
              · exact hx h2
              · obtain ⟨fr3, h3', _, t3⟩ := t.split
                have := (t3.lt ok.evn).2.2 y hy
                omega
      refine ⟨fun _ _ => trivial, ?_⟩
      rw [Oper.semAt_eq _ _ _ (not_defer hi), q2]
      show K (a.put o.dst u) _
      rw [← hdst]
      exact hK _ _ _ _ _ _ _ (di.early ok (by rw [hS]; simp) hx hk hb hn q1 q3 q4)
    · -- an act
      obtain ⟨D1, S1, hS⟩ := inS (by rw [hk]; rfl)
      obtain ⟨rfl, _⟩ := first (.inr hk) D1 S1 hS
      simp only [List.nil_append] at hS;subst hS
      have hh : e.h = h := by obtain ⟨frS, t⟩ := di.frm; exact t.head.2.1
      have hnN : e.h'.next ≤ c.hN.next := by obtain ⟨frS, t⟩ := di.frm; exact (t.lt ok.evn).2.1
      rw [hh] at hev
      refine op_wp ok.cf ok.yf hi hev rfl trivial hek di.hr di.le (fun n n1 n2 => ?_) (fun u ρ' η' w' s1 s2 => ?_)
      · cases e2 : ρ n with
        | none => rfl
        | some z =>
          exfalso
          rcases di.rnew n (by rw [e2]; simp) with h1 | h1 | ⟨y, hy, h2, h3, h4, h5⟩
          · exact h1 (ok.fresh _ (Nat.le_trans di.lo n1) (by omega))
          · omega
          · obtain ⟨frS, t⟩ := di.frm
            rcases List.mem_cons.1 hy with rfl | hy
            · exact hx h2
            · have := (t.lt ok.evn).2.2 y hy
              omega
      · rw [← hdst]
        exact hK _ _ _ _ _ _ _ (di.act ok cl hp hx hk hb s1 s2)
end
end Go.Ev
namespace Go.Ev
open Go.Eng
section
variable {c : RC} {r : Option Nat} {Q : Exit → Act → World → Prop}
theorem pred_lt {listed : Array Bool} {j : Nat} (h : listed.getD j false = true) : j < listed.size := by
  cases hb : listed[j]? with
  | none => simp [Array.getD_eq_getD_getElem?, hb] at h
  | some b => exact (Array.getElem?_eq_some_iff.1 hb).1
theorem preds_eq (ok : c.OK) {e : Evt} (he : e ∈ c.T) : predsOf c.ops e.d.i = e.d.ps ∧ e.d.i < c.ops.size := by
  obtain ⟨o, ho, _, hps, _⟩ := (ok.dk he).o
  refine ⟨?_, (Array.getElem?_eq_some_iff.1 ho).1⟩;unfold predsOf;rw [ho, hps]; rfl
theorem some_ready (ok : c.OK) {listed : Array Bool} (hs : listed.size = c.ops.size) : ∀ {B A : List Evt}, c.T = A ++ B → (∀ y ∈ A, isL listed y.d.i) → (∃ y ∈ B, ¬ isL listed y.d.i) → ∃ m, m ∈ Region.ready .any c.ops listed
  | [], A, hT, hA, ⟨y, hy, _⟩ => by cases hy
  | e :: B, A, hT, hA, ⟨y, hy, hyn⟩ => by
    by_cases hl : isL listed e.d.i
    · refine some_ready ok hs (B := B) (A := A ++ [e]) (by rw [hT]; simp) (fun z hz => ?_) ⟨y, ?_, hyn⟩
      · rcases List.mem_append.1 hz with hz | hz
        · exact hA z hz
        · simp at hz; subst hz; exact hl
      · rcases List.mem_cons.1 hy with rfl | hy
        · exact absurd hl hyn
        · exact hy
    · have he : e ∈ c.T := by rw [hT]; simp
      obtain ⟨h1, h2⟩ := preds_eq ok he
      refine ⟨e.d.i, Eng.mem_ready.2 ⟨h2, hl, fun j hj => ?_⟩⟩
      rw [h1] at hj
      obtain ⟨y', hy', hyi⟩ := idx_pr.1 ((ok.good1 hT).pre j hj)
      have hyT : y' ∈ c.T := by rw [hT]; simp [hy']
      rw [← hyi];exact (getD_isL hs (preds_eq ok hyT).2).2 (hA y' hy')
theorem any_ok (ok : c.OK) (hQ : ∀ ρ η a w, HR c.P ρ c.hN η → Upd [c.η0] [η] c.w0 w → Ext c.ρ0 ρ c.h0.next c.hN.next → a.tmps.size = c.M → a.defers = c.df → FK ρ c.frN (fun t => a.tmps.getD t undef) → Q .normal a w) :
    ∀ fuel (listed : Array Bool) a w, listed.size = c.ops.size → Clo c (isL listed) → ((List.range c.ops.size).filter fun i => !listed.getD i true).length ≤ fuel → (∃ D S h ρ η, DIx c (isL listed) D S h ρ η a w) →
      wpAnyIn (wideR r) 0 c.P .any c.ops Q fuel listed a w := by
  have fin : ∀ (listed : Array Bool) a w, listed.size = c.ops.size → Clo c (isL listed) → (∃ D S h ρ η, DIx c (isL listed) D S h ρ η a w) → Region.ready .any c.ops listed = [] → Q .normal a w := by
    intro listed a w hs cl ⟨D, S, h, ρ, η, di⟩ hr
    obtain ⟨D', S', h', η', di', hd⟩ := di.advance ok cl
    have hall : ∀ y ∈ c.T, isL listed y.d.i := fun y hy => Classical.byContradiction fun hn => by
      obtain ⟨m, hm⟩ := some_ready ok hs (A := []) (B := c.T) rfl (fun _ h => by cases h) ⟨y, hy, hn⟩
      rw [hr] at hm; cases hm
    have hS : S' = [] := by
      rcases hd with hd | ⟨e, S'', rfl, _, h2⟩
      · exact hd
      · exact absurd (hall e (by rw [di'.cat]; simp)) h2
    subst hS
    obtain ⟨frS, t⟩ := di'.frm
    cases t
    refine hQ ρ η' a w di'.hr di'.upd ⟨di'.rle, fun n hn => ?_⟩ di'.size di'.dfr (fun t v hv => ?_)
    · rcases di'.rnew n hn with h1 | h1 | ⟨y, hy, _⟩
      · exact .inl h1
      · exact .inr h1
      · cases hy
    · rcases ok.tr.get t v hv with ⟨y, hy, h2, h3⟩ | ⟨h2, h3⟩
      · rw [← h3]; exact di'.vals y hy (hall y hy) t h2
      · exact di'.base t h3 v h2
  intro fuel
  induction fuel with
  | zero =>
    intro listed a w hs cl hf hd
    have hr : Region.ready .any c.ops listed = [] := by
      cases hr : Region.ready .any c.ops listed with
      | nil => rfl
      | cons m l =>
        exfalso
        obtain ⟨h1, h2, _⟩ := Eng.mem_ready.1 (show m ∈ Region.ready .any c.ops listed by rw [hr]; simp)
        have : m ∈ (List.range c.ops.size).filter fun i => !listed.getD i true := by
          rw [List.mem_filter]
          exact ⟨by simpa using h1, by unfold isL at h2; simpa using h2⟩
        have := List.length_pos_of_mem this
        omega
    exact ⟨hr, fin listed a w hs cl hd hr⟩
  | succ fuel ih =>
    intro listed a w hs cl hf hdi
    refine ⟨fun hr => fin listed a w hs cl hdi hr, fun m hm => ?_⟩
    obtain ⟨D, S, h, ρ, η, di⟩ := hdi
    obtain ⟨D', S', h', η', di', hd⟩ := di.advance ok cl
    obtain ⟨h1, h2, h3⟩ := Eng.mem_ready.1 hm
    obtain ⟨e, he, rfl⟩ := ok.cov h1
    obtain ⟨p1, p2⟩ := preds_eq ok he
    rw [p1] at h3
    have hms : e.d.i < listed.size := by rw [hs]; exact h1
    have hX : (XI (isL listed) e.d.i) = isL (listed.setIfInBounds e.d.i true) := funext fun j => propext (by rw [isL_set hms]; exact Or.comm)
    refine di'.step ok cl hd he h2 (fun j hj => (getD_isL hs (by rw [← hs]; exact pred_lt (h3 j hj))).1 (h3 j hj)) (fun D2 S2 h2' ρ2 η2 a2 w2 d2 => ?_)
    rw [hX] at d2
    refine ih _ a2 w2 (by simp [hs]) (fun y hy hy2 j hj => ?_) ?_ ⟨D2, S2, h2', ρ2, η2, d2⟩
    · rw [← hX] at hy2 ⊢
      rcases hy2 with hy2 | hy2
      · exact .inl (cl y hy hy2 j hj)
      · have := ok.uniq hy he hy2; subst this
        exact .inl ((getD_isL hs (by rw [← hs]; exact pred_lt (h3 j hj))).1 (h3 j hj))
    · have := Eng.filter_lt (l := List.range c.ops.size) (p := fun i => !listed.getD i true) (q := fun i => !(listed.setIfInBounds e.d.i true).getD i true) (i := e.d.i) (by simpa using h1) (by unfold isL at h2; simpa using h2)
        (by
          have : isL (listed.setIfInBounds e.d.i true) e.d.i := (isL_set hms).2 (.inl rfl)
          unfold isL at this; simp only [this, Bool.not_true])
        (fun j hj => by
          simp only [Bool.not_eq_true'] at hj ⊢
          have h5 : ¬ isL (listed.setIfInBounds e.d.i true) j := by unfold isL; simp [hj]
          have h6 : ¬ isL listed j := fun h => h5 ((isL_set hms).2 (.inr h))
          unfold isL at h6; simpa using h6)
      omega
end
section
variable {P : Program}
theorem not_rep {n i : Nat} (h : i < n) : ¬ isL (Array.replicate n false) i := by
  unfold isL; simp [Array.getD_eq_getD_getElem?, h]
theorem stDr_ok (hmx : P.follows .mixedOrders = true) {m : Mac} (hm : MOK P m) {cc : Cc} {id : Nat} {ops : Array Oper} {s s' : St} {e : Ex} (h : stDr cc.M m (drawn (dops P ops 0 ops.toList)) s = some (e, s')) : s.h.next ≤ s'.h.next ∧
    ∀ ρ η a w r Q, RK ρ cc.rd r → SI P cc.M ρ s η a w → Fresh ρ s.h.next s'.h.next → EndQ P cc.M ρ η w s.h.next e s' Q → (Code.region id ops true).wpIn (wideR r) 0 P Q a w := by
  unfold stDr at h
  split at h
  · rename_i l hl
    obtain ⟨fr, h', h1, rfl, rfl⟩ := stEnd_some h
    obtain ⟨sl, sch⟩ := drawn_ok hl
    obtain ⟨T, t1, t2, t3, _⟩ := evDr_ok h1
    have evn : ∀ fr h i v h', evIn m.f m.y fr h i = some (v, h') → h.next ≤ h'.next := fun _ _ _ _ _ e => evIn_next hm.f hm.y e
    refine ⟨t1.next evn, fun ρ η a w r Q hr si hf hq => wpIn_region_any hmx ?_⟩
    let w0 : World := { w with drawn := w.drawn + 1 }
    have u0 : Upd [η] [η] w w0 := Upd.one ⟨Nat.le_refl _, rfl, rfl, rfl, Nat.le_succ _⟩ (fun _ _ _ => rfl) si.le (fun _ h => .inl h)
    let c : RC := ⟨P, ops, sl, cc.M, m.f, m.y, T, s.fr, s.h, fr, h', ρ, η, w0, a.defers⟩
    have ok : c.OK := ⟨hm.f, hm.y, by show Sched P ops sl (T.map pr); rw [t2]; exact sch, t1, hf⟩
    have hno : ∀ y ∈ c.T, ¬ isL (Array.replicate ops.size false) y.d.i := fun y hy => not_rep (preds_eq ok hy).2
    refine any_ok (c := c) ok (fun ρ' η' a' w' k1 k2 k3 k4 k5 k6 => ?_) ops.size _ a w0 (by simp [c]) (fun y hy hX => absurd hX (hno y hy)) ?_ ⟨[], T, s.h, ρ, η, ?_⟩
    · have u1 : Upd [η] [η'] w w' := Upd.comp u0 k2
      have k3 : Ext ρ ρ' s.h.next h'.next := k3
      exact hq ρ' η' a' w' ⟨k4, k6, by rw [show a'.defers = a.defers from k5]; exact si.mks.mono k3.1, k1, u1.own _ (by simp)⟩ u1 k3
    · refine Nat.le_trans (List.length_filter_le _ _) (by simp [c])
    · exact ⟨rfl, ⟨s.fr, t1⟩, Nat.le_refl _, (fun y hy => by cases hy), (fun y hy _ => hno y hy), si.hr, upd_refl (w := w0) si.le, (fun _ _ h => h), (fun n hn => .inl hn), (fun y hy _ _ hX => absurd hX (hno y hy)), (fun y hy _ _ _ _ _ _ hX => absurd hX (hno y hy)), (fun y hy hX => absurd hX (hno y hy)), (fun t _ v hv => si.fk t v hv), (fun y hy => by cases hy), t3, si.size, rfl⟩
  · cases h
theorem stC_ok (hmx : P.follows .mixedOrders = true) {m : Mac} (hm : MOK P m) : COK P (stC P m) := by
  intro cc cd s e s' h
  cases cd with
  | skip => cases h; exact ⟨Nat.le_refl _, fun ρ η a w r Q hr si hf hq => wpIn_skip (hq ρ η a w si (upd_refl si.le) Ext.refl)⟩
  | region id ops d =>
    cases d with
    | false => exact stReg_ok hm h
    | true => exact stDr_ok hmx hm h
  | seq x y => exact seq_ok hm h
  | cond x p q => exact cond_ok hm h
  | block id b => exact block_ok hm h
  | loop b =>
    obtain ⟨n1, n, g⟩ := hm.l _ _ _ _ _ (show m.l cc b s = some (e, s') from h)
    exact ⟨n1, fun ρ η a w r Q hr si hf hq => wpIn_loop_rounds n (g ρ η a w r Q hr si hf hq)⟩
  | exit id => cases h; exact ⟨Nat.le_refl _, fun ρ η a w r Q hr si hf hq => wpIn_exit (hq ρ η a w si (upd_refl si.le) Ext.refl)⟩
  | ret => cases h; exact ⟨Nat.le_refl _, fun ρ η a w r Q hr si hf hq => wpIn_ret (hq ρ η a w si (upd_refl si.le) Ext.refl)⟩
  | rangeFunc f ps asg body =>
    simp only [stC] at h
    split at h
    · rename_i d hd; exact range_ok hm hd h
    · cases h
  | _ => cases h
theorem mac_ok {orc : CallF} (ho : FOK P orc) (hP : ∀ (f : FuncId) (fn : Func), P.funcs[f]? = some fn → (fn.name == "runtime.NumGoroutine") = false) (hmx : P.follows .mixedOrders = true) : ∀ n, MOK P (mac P orc n)
  | 0 => ⟨(fun _ _ _ _ _ h => by cases h), (fun _ _ _ _ _ h => by cases h), (fun _ _ _ _ _ h => by cases h), (fun _ _ _ _ _ h => by cases h)⟩
  | n + 1 =>
    have ih := mac_ok ho hP hmx n
    ⟨stC_ok hmx ih, stF_ok ih ho hP, stY_ok ih, fun _ _ _ _ _ h => loop_ok ih h⟩
theorem noOrc_ok : FOK P noOrc := fun _ _ _ _ _ h => by cases h
theorem hr_empty : HR P (fun _ => none) ⟨0, .e⟩ (fun _ => none) := ⟨(fun i a h => by cases h), (fun b h => absurd rfl h), (fun i j b s e s' e' h => absurd rfl h)⟩
theorem closed_run {orc : CallF} {n : Nat} (hm : MOK P (mac P orc n)) {f : FuncId} {v : Value} {h' : AH} (h : (mac P orc n).f f [] ⟨0, .e⟩ = some (v, h')) (hv : flat v = true) (w : World) :
    (callFunc f #[]).run P w = .ok (.enter f #[]) w ∧ CallsIn Fence.wide 0 P f #[] w (fun e w' => e = .returned v ∧ w.heap.size ≤ w'.heap.size ∧ w'.os = w.os ∧ w'.output = w.output ∧ w'.tape = w.tape ∧ w.drawn ≤ w'.drawn ∧ ∀ b, b < w.heap.size → w'.heap[b]? = w.heap[b]?) := by
  obtain ⟨c1, c2⟩ := (hm.f _ _ _ _ _ h).2 (fun _ => none) (fun _ => none) w [] hr_empty (fun b o hb => by cases hb) (fun i _ _ => rfl) rfl
  refine ⟨c1, CallsIn.mono c2 ?_⟩;rintro e w' ⟨u, rfl, ρ', η', k1, k2, k3, k4⟩;rw [rn_flat hv] at k1
  cases k1
  exact ⟨rfl, k3.size.1, k3.size.2.1, k3.size.2.2.1, k3.size.2.2.2.1, k3.size.2.2.2.2, fun b hb => k3.keep b hb (fun σ hσ => by simp at hσ; subst hσ; rfl)⟩
theorem closed_spec {orc : CallF} {n : Nat} (hm : MOK P (mac P orc n)) {f : FuncId} {v : Value} {h' : AH} (h : (mac P orc n).f f [] ⟨0, .e⟩ = some (v, h')) (hv : flat v = true) : Eng.Spec P (.func (.func f) #[] #[]) [] [] [] (fun u H' => H' = [] ∧ u = v) := by
  intro N w _
  unfold CallsV
  obtain ⟨c1, c2⟩ := closed_run hm h hv w
  have hrun : ((do let d ← Deferred.ofValue (.func (.func f) #[] #[]) ([] : List Value).toArray; invoke d.target d.args : Sem Next).run P w) = .ok (.enter f #[]) w := by
    rw [← c1]
    simp [Deferred.ofValue, invoke]
  rw [hrun];refine CallsIn.mono c2 ?_;rintro e w' ⟨rfl, k1, k2, k3, k4, k5, k6⟩
  exact ⟨v, rfl, [], ⟨rfl, rfl⟩, ⟨⟨k1, k2, k3, k4, k5⟩, fun b hb _ => k6 b hb, (fun ρ hρ => by cases hρ), .nil, (fun ρ hρ => by cases hρ)⟩⟩
def orcOf (f : FuncId) (v : Value) : CallF := fun g vs h => match vs with
  | [] => bif Nat.beq g f then some (v, h) else none
  | _ => none
theorem orcOf_ok {orc : CallF} {n : Nat} (hm : MOK P (mac P orc n)) {f : FuncId} {v : Value} {h' : AH} (h : (mac P orc n).f f [] ⟨0, .e⟩ = some (v, h')) (hv : flat v = true) : FOK P (orcOf f v) := by
  intro g vs h0 u h1 e
  unfold orcOf at e
  split at e
  · cases hb : Nat.beq g f with
    | false => rw [hb] at e; cases e
    | true =>
      rw [hb, cond_true] at e
      cases e
      have := Nat.eq_of_beq_eq_true hb
      subst this
      refine ⟨Nat.le_refl _, fun ρ η w us hr hw _ hu => ?_⟩
      cases hu
      obtain ⟨c1, c2⟩ := closed_run hm h hv w
      refine ⟨c1, CallsIn.mono c2 ?_⟩;rintro e w' ⟨rfl, k1, k2, k3, k4, k5, k6⟩
      refine ⟨_, rfl, ρ, η, rn_flat hv, hr, Upd.one ⟨k1, k2, k3, k4, k5⟩ (fun b hb _ => k6 b hb) (fun b o hb => ?_) (fun b hb => .inl hb), Ext.refl⟩
      rw [k6 b (hw.lt (b := b) (by rw [hb]; simp))]
      exact hw b o hb
  · cases e
end
end Go.Ev
namespace Go.Proofs.YtjopknnkcnehmaaGreatDoor
open Go.Eng Go.Ev
set_option maxRecDepth 100000
set_option maxHeartbeats 64000000

def crcL : List Nat := [0, 4067132163, 3778769143, 324072436, 3348797215, 904991772, 648144872, 3570033899, 2329499855, 2024987596, 1809983544, 2575936315, 1296289744, 3207089363, 2893594407, 1578318884, 274646895, 3795141740, 4049975192, 51262619, 3619967088, 632279923, 922689671, 3298075524, 2592579488, 1760304291, 2075979607, 2312596564, 1562183871, 2943781820, 3156637768, 1313733451, 549293790, 3537243613, 3246849577, 871202090, 3878099393, 357341890, 102525238, 4101499445, 2858735121, 1477399826, 1264559846, 3107202533, 1845379342, 2677391885, 2361733625, 2125378298, 820201905, 3263744690, 3520608582, 598981189, 4151959214, 85089709, 373468761, 3827903834, 3124367742, 1213305469, 1526817161, 2842354314, 2107672161, 2412447074, 2627466902, 1861252501, 1098587580, 3004210879, 2688576843, 1378610760, 2262928035, 1955203488, 1742404180, 2511436119, 3416409459, 969524848, 714683780, 3639785095, 205050476, 4266873199, 3976438427, 526918040, 1361435347, 2739821008, 2954799652, 1114974503, 2529119692, 1691668175, 2005155131, 2247081528, 3690758684, 697762079, 986182379, 3366744552, 476452099, 3993867776, 4250756596, 255256311, 1640403810, 2477592673, 2164122517, 1922457750, 2791048317, 1412925310, 1197962378, 3037525897, 3944729517, 427051182, 170179418, 4165941337, 746937522, 3740196785, 3451792453, 1070968646, 1905808397, 2213795598, 2426610938, 1657317369, 3053634322, 1147748369, 1463399397, 2773627110, 4215344322, 153784257, 444234805, 3893493558, 1021025245, 3467647198, 3722505002, 797665321, 2197175160, 1889384571, 1674398607, 2443626636, 1164749927, 3070701412, 2757221520, 1446797203, 137323447, 4198817972, 3910406976, 461344835, 3484808360, 1037989803, 781091935, 3705997148, 2460548119, 1623424788, 1939049696, 2180517859, 1429367560, 2807687179, 3020495871, 1180866812, 410100952, 3927582683, 4182430767, 186734380, 3756733383, 763408580, 1053836080, 3434856499, 2722870694, 1344288421, 1131464017, 2971354706, 1708204729, 2545590714, 2229949006, 1988219213, 680717673, 3673779818, 3383336350, 1002577565, 4010310262, 493091189, 238226049, 4233660802, 2987750089, 1082061258, 1395524158, 2705686845, 1972364758, 2279892693, 2494862625, 1725896226, 952904198, 3399985413, 3656866545, 731699698, 4283874585, 222117402, 510512622, 3959836397, 3280807620, 837199303, 582374963, 3504198960, 68661723, 4135334616, 3844915500, 390545967, 1230274059, 3141532936, 2825850620, 1510247935, 2395924756, 2091215383, 1878366691, 2644384480, 3553878443, 565732008, 854102364, 3229815391, 340358836, 3861050807, 4117890627, 119113024, 1493875044, 2875275879, 3090270611, 1247431312, 2660249211, 1828433272, 2141937292, 2378227087, 3811616794, 291187481, 34330861, 4032846830, 615137029, 3603020806, 3314634738, 939183345, 1776939221, 2609017814, 2295496738, 2058945313, 2926798794, 1545135305, 1330124605, 3173225534, 4084100981, 17165430, 307568514, 3762199681, 888469610, 3332340585, 3587147933, 665062302, 2042050490, 2346497209, 2559330125, 1793573966, 3190661285, 1279665062, 1595330642, 2910671697]
def crcV : Value := .agg ⟨crcL.map fun n => .int .u32 (.ofNat n)⟩
def isV (v : Value) : Option (Value × AH) → Bool
 | some (u, _) => beV u v
 | none => false
theorem isV_ok {v : Value} {x : Option (Value × AH)} (h : isV v x = true) : ∃ h', x = some (v, h') := by
 cases x with
 | none => cases h
 | some p => obtain ⟨u, h'⟩ := p; exact ⟨h', by rw [beV_eq (show beV u v = true from h)]⟩
def noGo : List Func → Bool
 | [] => true
 | f :: l => !(f.name == "runtime.NumGoroutine") && noGo l
theorem noGo_ok : ∀ {l : List Func}, noGo l = true → ∀ f ∈ l, (f.name == "runtime.NumGoroutine") = false
 | [], _, f, hf => by cases hf
 | g :: l, h, f, hf => by
  have h : (!(g.name == "runtime.NumGoroutine") && noGo l) = true := h
  rw [Bool.and_eq_true] at h
  rcases List.mem_cons.1 hf with rfl | hf
  ·simpa using h.1
  ·exact noGo_ok h.2 f hf
theorem names_ok : ∀ (f : FuncId) (fn : Func), Tryz.prog.funcs[f]? = some fn → (fn.name == "runtime.NumGoroutine") = false := fun f fn h =>
 noGo_ok (l := Tryz.prog.funcs.toList) (by kernel_rfl) fn (by rw [Array.mem_toList_iff]; exact Array.mem_of_getElem? h)
theorem mixed_ok : Tryz.prog.follows .mixedOrders = true := by kernel_rfl
theorem crc_run : isV crcV ((mac Tryz.prog noOrc 400).f 175 [] ⟨0, .e⟩) = true := by kernel_rfl
theorem crc_orc : FOK Tryz.prog (orcOf 175 crcV) :=
 Exists.elim (isV_ok crc_run) (fun _ h => orcOf_ok (mac_ok noOrc_ok names_ok mixed_ok 400) h (by kernel_rfl))
theorem awake_run : isV (.bool true) ((mac Tryz.prog (orcOf 175 crcV) 3000).f 5 [] ⟨0, .e⟩) = true := by kernel_rfl
theorem awake_spec : Eng.Spec Tryz.prog (.func (.func 5) #[] #[]) [] [] [] (fun u H' => H' = [] ∧ u = .bool true) :=
 Exists.elim (isV_ok awake_run) (fun _ h => closed_spec (mac_ok crc_orc names_ok mixed_ok 3000) h rfl)
end Go.Proofs.YtjopknnkcnehmaaGreatDoor
namespace Go.Eng
variable {C:Cx} {R H:List PH} {L:Env} {dst:Option Tmp} {ty:TypeId} {pos:String} {aft:Array Edge} {g:Option (Nat × Bool)}
theorem EQ {x y:Operand} {t e:TypeId} {b o n i:Nat} {k:IntKind} (h:evalE L x=some (.pointer (some ⟨b,o,none⟩))) (h2:evalE L y=some (.int k (i:Int))) (ht:C.P.underlying t=some (.array n e)) (hs:szP C.P e=some 1) (hn:i<n) :
    Quiet C R H L ⟨dst,.indexAddr t x y,ty,pos,aft,g⟩ (.pointer (some ⟨b,o+i,none⟩)):=
  ⟨by intro c; simp,fun a w hx _=>by
    simp [execOp,hx x (by simp [Op.operands]) _ h,hx y (by simp [Op.operands]) _ h2,Instr.indexAt,Instr.sureAddr,asIntOf,run_underlying ht,hn,run_sizeOf hs,Addr.add_lit]⟩
theorem FO {x y:Operand} {t e:TypeId} {b o n:Nat} {k:IntKind} (h:evalE L x=some (.pointer (some ⟨b,o,none⟩))) (h2:evalE L y=some (.int k 0)) (ht:C.P.underlying t=some (.array n e)) (hs:szP C.P e=some 1) (hn:0<n) :
    Quiet C R H L ⟨dst,.indexAddr t x y,ty,pos,aft,g⟩ (.pointer (some ⟨b,o,none⟩)):=EQ (i:=0) h h2 ht hs hn
theorem FP {x y:Operand} {t e:TypeId} {b o n:Nat} {k:IntKind} (h:evalE L x=some (.pointer (some ⟨b,o,none⟩))) (h2:evalE L y=some (.int k 1)) (ht:C.P.underlying t=some (.array n e)) (hs:szP C.P e=some 1) (hn:1<n) :
    Quiet C R H L ⟨dst,.indexAddr t x y,ty,pos,aft,g⟩ (.pointer (some ⟨b,o+1,none⟩)):=EQ (i:=1) h h2 ht hs hn
theorem CT {x y:Operand} {t e:TypeId} {z0 z1 v0 v1:Value} (h:evalE L x=some v0) (h2:evalE L y=some v1) (ht:C.P.underlying t=some (.array 2 e)) (hs:szP C.P e=some 1) (hz:zeroP C.P t=some (.agg #[z0,z1])) (o0:v0.oneCell'=true) (o1:v1.oneCell'=true) :
    Quiet C R H L ⟨dst,.build t #[(0,x),(1,y)],ty,pos,aft,g⟩ (.agg #[v0,v1]):=
  ⟨by intro c; simp,fun a w hx _=>by
    have c0:v0.cells = #[v0]:=by cases v0 <;> first|rfl|simp [Value.oneCell'] at o0
    have c1:v1.cells = #[v1]:=by cases v1 <;> first|rfl|simp [Value.oneCell'] at o1
    have cz:(Value.agg #[z0,z1]).cells = #[z0,z1]:=rfl
    simp [execOp,hx x (by simp [Op.operands]) _ h,hx y (by simp [Op.operands]) _ h2,Instr.build,run_zeroValue hz,run_underlying ht,run_sizeOf hs,cz,Instr.fill,c0,c1]⟩
end Go.Eng
namespace Go.Eng
variable {C:Cx} {D:List Deferred} {R H:List PH} {L:Env} {K:List It}
section
variable {dst:Option Tmp} {ty:TypeId} {pos:String} {aft:Array Edge} {g:Option (Nat × Bool)}
theorem ER {x y:Operand} {t e:TypeId} {cs:Array Value} {k:IntKind} {i n:Nat} {v:Value} (h:evalE L x=some (.agg cs)) (hy:evalE L y=some (.int k (i:Int))) (ht:C.P.underlying t=some (.array n e)) (ha:aggP C.P e=some false) (hs:szP C.P e=some 1) (hi:i<n) (hv:cs[i]?=some v) :
    Quiet C R H L ⟨dst,.index t x y,ty,pos,aft,g⟩ v:=
  ⟨by intro c; simp,fun a w hx _=>by
    have e1:=hx x (by simp [Op.operands]) _ h
    have e2:=hx y (by simp [Op.operands]) _ hy
    simp [execOp,e1,e2,Instr.index,asIntOf,run_underlying ht,hi,run_sizeOf hs,part,run_isAgg ha,hv]⟩
end
theorem Upd.last {A:List PH} {σ:PH} {w w':World} (u:Upd H (A ++ [σ]) w w'):Upd H (A ++ [emp]) w w' where
  size:=u.size
  keep:=u.keep
  own:=fun ρ hρ=>by
    rcases List.mem_append.1 hρ with h|h
    · exact u.own ρ (by simp [h])
    · simp at h
      subst h
      intro b o hb
      simp [emp] at hb
  hd:=by
    obtain ⟨h1,_,_⟩:=List.pairwise_append.1 u.hd
    exact List.pairwise_append.2 ⟨h1,List.pairwise_singleton _ _,fun _ _ _ h=>by simp at h; subst h; exact fun _=>.inr rfl⟩
  new:=fun ρ hρ b hb=>by
    rcases List.mem_append.1 hρ with h|h
    · exact u.new ρ (by simp [h]) b hb
    · simp at h
      subst h
      simp [emp] at hb
theorem Spec.last {P:Program} {f:Value} {args:List Value} {R H:List PH} {post post':Value→List PH→Prop} (h:Spec P f args R H post) (hq:∀ v H1,post v H1→∃ A σ,H1=A ++ [σ]∧post' v (A ++ [emp])):Spec P f args R H post':=by
  intro N w hs
  refine (h N w hs).mono ?_;rintro v w' ⟨H1,h1,hu⟩
  obtain ⟨A,σ,rfl,h3⟩:=hq v H1 h1
  exact ⟨_,h3,hu.last⟩
end Go.Eng
namespace Go.Proofs.YtjopknnkcnehmaaGreatDoor
open Go.Eng Go.Step
set_option maxRecDepth 100000
set_option maxHeartbeats 64000000
theorem crcTab_spec:Ans Tryz.prog (.func (.func 175) #[] #[]) [] [] (fun r=>r=crcV):=
 Exists.elim (isV_ok crc_run) (fun _ h=>(Go.Ev.closed_spec (Go.Ev.mac_ok Go.Ev.noOrc_ok names_ok mixed_ok 400) h (by kernel_rfl)).mono (fun _ _ h=>h))
theorem veBytes_spec (s:List UInt8):Eng.Spec Tryz.prog (fv 176) [str s] [] [] (fun r H'=>∃ c1,r=.func (.func 206) #[] #[.pointer (some ⟨c1,0,none⟩)]∧H'=[sng c1 (.cells #[str s] 9 (0,0))]):=by
 refine spec_in (cap:=[]) Tryz.func176 rfl rfl Tryz.ntmps176 rfl envZ (fun N β=>?_)
 refine Aa ?_;refine A9 (DE rfl rfl) rfl rfl rfl ?_;rintro _ _ ⟨c1,rfl,rfl⟩;refine Aaa ?_;refine Aa ?_;refine CE ?_;refine Aaa ?_;exact AP (res1 rfl rfl) rsubZ selZ ⟨c1,rfl,rfl⟩
theorem veBytes_iter (c1:Nat) {s:List UInt8} (hl:s.length≤1000000000) :
  Iter Tryz.prog (.func (.func 206) #[] #[.pointer (some ⟨c1,0,none⟩)]) [sng c1 (.cells #[str s] 9 (0,0))] (s.map (fun b=>[.int .u8 (b.toNat:Int)])):=by
 intro y S Own Inv Stop Ry hy hyl σ0 hI0
 obtain ⟨yl,rfl⟩:=hyl
 have bx31_3:=rdB c1 9 [str s]
 have v1:=rdC bx31_3 0
 simp only [List.cons_append,List.nil_append]
 refine spec_in (cap:=[.pointer (some ⟨c1,0,none⟩)]) Tryz.func206 rfl rfl Tryz.ntmps206 rfl envZ (fun N β=>?_)
 refine Aa ?_;refine AG ?_
 focus ((refine' BB _ rfl rfl rfl _; rotate_left; (apply BW; exact rfl; exact rfl)))
 refine Abc ?_
 refine BQ [0,1,5] (X:=Nat × S) (0,σ0) (fun z=>z.1≤s.length∧Inv z.1 z.2) (fun z=>[(6,int (z.1:Int))]) (fun z=>Own z.2) (fun z=>s.length-z.1) pickZ ⟨Nat.zero_le _,hI0⟩ covZ Sel.refl ?_
 rintro ⟨i,σ1⟩ ⟨hi,hI⟩
 dsimp only at hi hI ⊢
 by_cases hlt:i<s.length
 rotate_left
 ·have hke:i=s.length:=by omega
  refine Abd ?_
  refine CC (res0 rfl) (fun _ h=>h) Sel.refl ⟨σ1,rfl,.inl ?_⟩
  rw [List.length_map,← hke];exact hI
 have hx:=List.getElem?_eq_getElem hlt
 have hya:=hy i σ1 _ (by rw [List.getElem?_map,hx]; rfl) hI
 generalize s[i]=bb at hx hya
 refine Ac ?_;refine Aab ?_;refine Aai ?_;refine AG ?_;refine AB ?_
 focus ((refine BB (DF rfl rfl rfl hx) rfl rfl rfl ?_))
 refine BF hya rfl rfl Takes.all (fun τ hτ=>.inl (by simp [hτ])) rfl rfl ?_
 rintro _ H' ⟨σ2,rfl,⟨rfl,hI2⟩|⟨rfl,hSt⟩⟩
 ·rw [List.append_nil]
  refine AY ?_;refine Aaf ?_;refine Abl ?_
  exact BJ (i+1,σ2) ⟨by dsimp only; omega,hI2⟩ (by dsimp only; omega) covZ Sel.refl
 ·rw [List.append_nil]
  refine AY ?_;refine Aau ?_
  exact AP (res0 rfl) (fun _ h=>h) Sel.refl ⟨σ2,rfl,.inr hSt⟩
def crcW:List Value:=crcL.map (fun n:Nat=>Value.int .u32 (n:Int))
theorem crcL_len:crcL.length=256:=by decide +kernel
theorem crcL_lt:∀ x∈crcL,x<4294967296:=by decide +kernel
theorem crcW_len:crcW.length=256:=by unfold crcW; rw [List.length_map,crcL_len]
theorem crcW_ones:∀ v∈crcW,v.oneCell'=true:=by
 intro v hv
 obtain ⟨n,_,rfl⟩:=List.mem_map.1 hv
 rfl
def crcStep (r:Nat) (b:UInt8):Nat:=(r / 256) ^^^ crcL.getD ((r % 256) ^^^ b.toNat) 0
def crcU (r:Nat) (s:List UInt8):Nat:=s.foldl crcStep r
theorem xor_idx {r:Nat} (b:UInt8):(r % 256) ^^^ b.toNat<256:=Nat.xor_lt_two_pow (n:=8) (by omega) (by have:=b.toNat_lt; omega)
theorem crcAt {i:Nat} (h:i<256):crcL[i]?=some (crcL.getD i 0)∧crcL.getD i 0<4294967296:=by
 have hl:=crcL_len
 have e:=List.getElem?_eq_getElem (l:=crcL) (i:=i) (by omega)
 have e2:crcL.getD i 0=crcL[i]:=by rw [List.getD_eq_getElem?_getD,e]; rfl
 rw [e2];exact ⟨e,crcL_lt _ (List.getElem_mem _)⟩
theorem crcStep_lt {r:Nat} {b:UInt8} (h:r<4294967296):crcStep r b<4294967296:=
 Nat.xor_lt_two_pow (n:=32) (by omega) (crcAt (xor_idx b)).2
theorem crcU_lt:∀ (s:List UInt8) {r:Nat},r<4294967296→crcU r s<4294967296
 | [],r,h=>h
 | b::s,r,h=>crcU_lt s (crcStep_lt h)
theorem crcU_take {s:List UInt8} {i:Nat} {b:UInt8} (h:s[i]?=some b) (r:Nat):crcU r (s.take (i+1))=crcStep (crcU r (s.take i)) b:=by
 unfold crcU;rw [List.take_add_one,h,List.foldl_append]
 rfl
theorem veUpdate_spec {r:Nat} {s:List UInt8} (hr:r<4294967296) (hl:s.length≤1000000000):Ans Tryz.prog (fv 130) [.int .u32 (r:Int),str s] [] (fun v=>v=.int .u32 (crcU r s:Int)):=by
 have htab:Ans Tryz.prog (.func (.func 175) #[] #[]) [] [] (fun r=>r=crcV):=crcTab_spec
 have eV:crcV=.agg crcW.toArray:=by unfold crcV crcW; rfl
 rw [eV] at htab
 refine spec_in (cap:=[]) Tryz.func130 rfl rfl Tryz.ntmps130 rfl envZ (fun N β=>?_)
 refine Aa ?_;refine A9 (DE rfl rfl) rfl rfl rfl ?_;rintro _ _ ⟨b2,rfl,rfl⟩;refine Aaa ?_;refine Aa ?_;refine AL htab rfl rfl rdZ rfl rfl ?_;rintro _ rfl
 refine A9 (BP (vs:=List.replicate 256 (.int .u32 0)) (by kernel_rfl)) rfl rfl rfl ?_
 rintro _ _ ⟨b5,rfl,rfl⟩
 refine B4 (BA (vs:=crcW) rfl rfl takeZ crcW_ones (by rw [crcW_len]; rfl) (by rw [crcW_len]; simp)) rfl rfl ?_
 rintro _ _ ⟨_,rfl⟩;refine AZ (ρ:=sng b5 (.cells crcW.toArray 290 (0,0))) takeZ ?_
 have htb:∀ i,i<256→rdc (sng b5 (.cells crcW.toArray 290 (0,0))) b5 (0+i)=some (.int .u32 (crcL.getD i 0:Int)):=fun i hi=>by
  rw [rdc_sng,Nat.zero_add,List.getElem?_toArray];unfold crcW;rw [List.getElem?_map,(crcAt hi).1]
  rfl
 refine Abx ?_
 refine BF (veBytes_spec s) rfl rfl Takes.nil (fun τ hτ=>by simp at hτ) rfl rfl ?_
 rintro _ _ ⟨c1,rfl,rfl⟩;simp only [List.cons_append,List.nil_append];refine AZ (ρ:=sng c1 _) takeZ ?_;refine AE ?_;refine AV ?_
 refine DL (gf:=206) (cap:=[.pointer (some ⟨c1,0,none⟩)]) (ps:=[10]) (X:=Nat) rfl Tryz.func206 rfl rfl
  (veBytes_iter c1 hl) ?_ (fun j o=>o=crcU r (s.take j)) (fun o=>[sng b2 (.cells #[.int .u32 (o:Int)] 240 (0,0))]) (fun _ _=>False) r rfl takesZ rfl ?_ ?_ ?_
 ·intro σ hσ
  simp only [List.mem_cons,List.not_mem_nil,or_false] at hσ ⊢
  simp [hσ]
 ·rintro lo rr j o vs hvs hI hps has hbd hst hpe hfr
  obtain ⟨st,pe,fnn,tm,prm,asg,bdy,df⟩:=rr
  simp only at hps has hbd hst hpe hfr;subst hps has hbd hst hpe;rw [List.getElem?_map] at hvs
  obtain ⟨bb,hn,rfl⟩:=Option.map_eq_some_iff.1 hvs
  have ho:o<4294967296:=by rw [hI]; exact crcU_lt _ hr
  have hstep:=crcU_take hn r
  rw [← hI] at hstep
  have hidx:=xor_idx (r:=o) bb
  have hcell:=htb _ hidx
  have hlt:=(crcAt hidx).2
  have hst2:=crcStep_lt (b:=bb) ho
  have hbl:=bb.toNat_lt
  refine yield_spec hfr rfl (by intro p hp; simp at hp; omega) putiZ (fun N' β'=>?_)
  refine AA ?_;refine Aaa ?_;refine C6 rfl rfl ?_;refine DI takeZ rfl ?_;refine AV ?_
  refine BH (.q 0 (.q 1 (.q 2 (.q 3 (.q 4 (.q 5 (.q 6 (.q 7 (.q 8 (.l 9 .b .nil)))))))))) [] rfl (by kernel_rfl) selZ ?_
  refine AW ?_
  focus ((refine BR rfl (CP (s:=8) (p:=256) rfl rfl (by decide) rfl) rfl rfl rfl rfl ?_))
  refine AW ?_
  focus ((refine BR rfl (CD rfl rfl rfl) rfl rfl rfl rfl ?_))
  refine AS ?_
  focus ((refine BR rfl (EL (k:=.u8) (c:=(o % 256) ^^^ bb.toNat) rfl rfl (by show _<2 ^ 8; omega) (by show _<2 ^ 8; omega) rfl (wrap_u8 ⟨by omega,by omega⟩)) rfl rfl rfl rfl ?_))
  focus ((refine BR rfl (EQ (i:=(o % 256) ^^^ bb.toNat) rfl rfl rfl rfl hidx) rfl rfl rfl rfl ?_))
  refine AW ?_
  focus ((refine BR rfl (EL (k:=.u32) (c:=crcStep o bb) rfl rfl (by show _<2 ^ 32; omega) (by show _<2 ^ 32; omega) rfl (wrap_u32 ⟨by omega,by omega⟩)) rfl rfl rfl rfl ?_))
  refine EP ?_; rintro _ _ ⟨rfl,rfl⟩;refine A7 ?_;refine BE ?_;exact BX takeZ rsubZ selZ ⟨_,.inl ⟨rfl,hstep.symm,rfl⟩⟩
 ·rintro bm o hI
  rw [List.length_map,List.take_length] at hI;subst hI;refine BE ?_;refine Aa ?_;refine AG ?_;refine Aaa ?_;exact DV (Marks.cons .here .nil) (res1 rfl rfl) rsubZ selZ ⟨rfl,rfl⟩
 ·rintro bm cc o' hf
  exact hf.elim
def crcSum (s:List UInt8):Nat:=crcU 4294967295 s ^^^ 4294967295
theorem crcSum_lt (s:List UInt8):crcSum s<4294967296:=Nat.xor_lt_two_pow (n:=32) (crcU_lt s (by omega)) (by omega)
def crcTail (s:List UInt8):List UInt8:=[UInt8.ofNat (crcSum s % 256),UInt8.ofNat (crcSum s / 256 % 256),UInt8.ofNat (crcSum s / 65536 % 256),UInt8.ofNat (crcSum s / 16777216 % 256)]
def sealM (t:List UInt8):List UInt8:=vText t ++ crcTail (vText t)
theorem veSum_spec {s:List UInt8} (hl:s.length≤1000000000):Ans Tryz.prog (fv 94) [str s] [] (fun v=>v=int (crcSum s:Int)):=by
 have hu:=veUpdate_spec (r:=4294967295) (s:=s) (by omega) hl
 have h1:=crcU_lt s (r:=4294967295) (by omega)
 have h2:=crcSum_lt s
 have h3:crcSum s=crcU 4294967295 s ^^^ 4294967295:=rfl
 refine spec_in (cap:=[]) Tryz.func94 rfl rfl Tryz.ntmps94 rfl envZ (fun N β=>?_)
 refine Abu ?_;refine AL hu rfl rfl rdZ rfl rfl ?_;rintro _ rfl
 focus ((refine BB (EL (k:=.u32) (c:=crcSum s) rfl rfl (by show _<2 ^ 32; omega) (by decide) h3.symm (wrap_u32 ⟨by omega,by omega⟩)) rfl rfl rfl ?_))
 refine CS ?_;refine Aaa ?_;exact A2 ⟨rfl,rfl⟩
theorem veTail_spec {s:List UInt8} (hl:s.length≤1000000000):Ans Tryz.prog (fv 55) [str s] [] (fun v=>v=str (crcTail s)):=by
 have hu:=veSum_spec hl
 have h2:=crcSum_lt s
 have e:rowS (crcTail s)=[.int .u8 ((crcSum s % 256:Nat):Int),.int .u8 ((crcSum s / 256 % 256:Nat):Int),.int .u8 ((crcSum s / 65536 % 256:Nat):Int),.int .u8 ((crcSum s / 16777216 % 256:Nat):Int)]:=by
  simp [rowS,crcTail]
 refine spec_in (cap:=[]) Tryz.func55 rfl rfl Tryz.ntmps55 rfl envZ (fun N β=>?_)
 refine Abu ?_;refine AL hu rfl rfl rdZ rfl rfl ?_;rintro _ rfl;refine Aai ?_
 focus ((refine BB (CD rfl rfl rfl) rfl rfl rfl ?_))
 refine AB ?_
 focus ((refine BB (CP (s:=8) (p:=256) rfl rfl (by decide) rfl) rfl rfl rfl ?_))
 focus ((refine BB (CD rfl rfl rfl) rfl rfl rfl ?_))
 refine AB ?_
 focus ((refine BB (CP (s:=16) (p:=65536) rfl rfl (by decide) rfl) rfl rfl rfl ?_))
 focus ((refine BB (CD rfl rfl rfl) rfl rfl rfl ?_))
 refine AB ?_
 focus ((refine BB (CP (s:=24) (p:=16777216) rfl rfl (by decide) rfl) rfl rfl rfl ?_))
 focus ((refine BB (CD rfl rfl rfl) rfl rfl rfl ?_))
 refine B7 ?_; rintro _ _ ⟨b,rfl,rfl⟩
 refine BB (CW (l:=crcTail s) rfl (by rw [e]; exact cells_own memZ) rfl rfl rfl) rfl rfl rfl ?_
 refine Aaa ?_;exact A2 ⟨rfl,rfl⟩
theorem veSeal_spec {t:List UInt8} (hl:t.length≤65536):Ans Tryz.prog (fv 27) [str t] [] (fun v=>v=.tuple #[str (sealM t),int 0]):=by
 have ht:=vaText_spec hl
 have hv:=vText_len t
 have hi:=vInt_len t.length
 have hta:=veTail_spec (s:=vText t) (by omega)
 have h4:(crcTail (vText t)).length=4:=rfl
 refine spec_in (cap:=[]) Tryz.func27 rfl rfl Tryz.ntmps27 rfl envZ (fun N β=>?_)
 refine Abi ?_;refine Aai ?_;refine AL ht rfl rfl rdZ rfl rfl ?_;rintro _ rfl;refine Aa2 ?_;refine Aam ?_;refine Ab9 ?_;refine Aca ?_;refine AL hta rfl rfl rdZ rfl rfl ?_;rintro _ rfl
 focus ((refine BB (DS rfl rfl (by omega)) rfl rfl rfl ?_))
 refine Abf ?_;exact AP (res2 rfl rfl rfl) rsubZ selZ ⟨rfl,rfl⟩
theorem veOpen_spec {s t tl:List UInt8} (ht:t.length≤65536) (hs:s=sealM t ++ tl) (hl:s.length≤1000000000):Ans Tryz.prog (fv 28) [str s] [] (fun v=>v=.tuple #[str t,int ((sealM t).length:Int),int 0]):=by
 have hi:=vaReadInt_spec (s:=s) (n:=t.length) (tl:=t ++ crcTail (vText t) ++ tl) (by omega) (by rw [hs,sealM,vText]; simp [List.append_assoc]) hl
 have hv:=vText_len t
 have h4:(crcTail (vText t)).length=4:=rfl
 have hsl:(sealM t).length=(vInt t.length).length+t.length+4:=by unfold sealM; rw [List.length_append,hv]; rfl
 have hll:s.length=(vInt t.length).length+t.length+4+tl.length:=by rw [hs,List.length_append,hsl]
 have e0:s.take ((vInt t.length).length+t.length)=vText t:=by
  rw [← hv,hs,sealM,List.append_assoc,List.take_left]
 have e1:(s.drop ((vInt t.length).length+t.length)).take ((vInt t.length).length+t.length+4-((vInt t.length).length+t.length))=crcTail (vText t):=by
  rw [← hv,hs,sealM,List.append_assoc,List.drop_left,Nat.add_sub_cancel_left,← h4,List.take_left]
 have e2:(s.drop (vInt t.length).length).take ((vInt t.length).length+t.length-(vInt t.length).length)=t:=by
  rw [hs,sealM,vText,List.append_assoc,List.append_assoc,List.drop_left,Nat.add_sub_cancel_left,List.take_left]
 have hta:=veTail_spec (s:=vText t) (by omega)
 have hne:(!(crcTail (vText t) == crcTail (vText t)))=false:=by simp
 rw [hsl]
 generalize (vInt t.length).length=V at *
 have a1:(V:Int)+(t.length:Int)=((V+t.length:Nat):Int):=by omega
 have a2:((V+t.length:Nat):Int)+4=((V+t.length+4:Nat):Int):=by omega
 refine spec_in (cap:=[]) Tryz.func28 rfl rfl Tryz.ntmps28 rfl envZ (fun N β=>?_)
 refine Abi ?_;refine AC ?_;refine Aai ?_;refine AL hi rfl rfl rdZ rfl rfl ?_;rintro _ rfl;refine Acd ?_;refine Ab4 ?_;refine Aab ?_;refine A5 ?_;refine Aa8 ?_;refine Aab ?_;refine BM ?_;refine Aan ?_;refine BZ ?_;refine AK ?_;refine Aa8 ?_;refine Aab ?_
 focus ((refine' BB _ rfl rfl rfl _; rotate_left; (apply BW; exact rfl; exact rfl)))
 refine Aan ?_;refine CG ?_;refine CG ?_;refine BM ?_;refine Aa8 ?_;refine AD ?_
 focus ((rw [a1]))
 focus ((rw [a2]))
 refine BH (.q 0 (.q 1 (.q 2 (.q 3 (.q 4 (.q 6 (.q 7 (.q 8 (.q 9 (.q 10 (.q 11 (.q 12 (.q 13 (.q 14 (.l 5 .e (.q 15 (.q 16 .nil))))))))))))))))) [] rfl (by kernel_rfl) Sel.nil ?_
 refine AS ?_;refine AS ?_;refine AS ?_;refine DB ?_
 focus ((rw [a1]))
 focus ((refine BR rfl (q_cutH rfl rfl rfl (by omega)) rfl rfl rfl rfl ?_))
 refine AS ?_;refine AS ?_;refine AS ?_;refine DB ?_;refine AS ?_;refine AS ?_;refine DB ?_;refine DB ?_
 focus ((rw [a1]))
 focus ((rw [a2]))
 focus ((rw [e0]))
 focus ((refine' BR rfl _ rfl rfl rfl rfl _; rotate_left; (apply D4; exact rfl; exact rfl; exact rfl; exact rfl; omega; omega)))
 focus ((rw [e1]))
 refine BV (BI rfl hta rfl rfl rdZ rfl rfl ?_);rintro _ rfl
 focus ((refine' BR rfl _ rfl rfl rfl rfl _; rotate_left; (apply EB; exact rfl; exact rfl)))
 refine Abn ?_
 focus ((rw [hne]))
 refine Aad ?_;refine BE ?_;refine Aab ?_;refine Abw ?_;refine CG ?_
 focus ((rw [a1]))
 focus ((refine' BB _ rfl rfl rfl _; rotate_left; (apply D4; exact rfl; exact rfl; exact rfl; exact rfl; omega; omega)))
 refine Aan ?_;refine CG ?_;refine CG ?_;refine AC ?_;refine Abf ?_
 focus ((rw [a1]))
 focus ((rw [a2]))
 focus ((rw [e2]))
 exact AP (res3 rfl rfl rfl rfl) rsubZ selZ ⟨rfl,rfl⟩
theorem bnWithin_spec {n lo hi:Int} (h:lo≤n∧n≤hi):Ans Tryz.prog (fv 44) [int n,int lo,int hi] [] (fun r=>r=.bool true):=by
 obtain ⟨h1,h2⟩:=h
 refine spec_in (cap:=[]) Tryz.func44 rfl rfl Tryz.ntmps44 rfl envZ (fun N β=>?_)
 refine Abu ?_;refine AB ?_;refine DO ?_;refine Abw ?_;refine EY ?_;refine Abv ?_;exact A2 ⟨rfl,rfl⟩
theorem bnId_spec {a c q o t:Int} (ha:0≤a∧a≤15) (hc:0≤c∧c≤1099511627776) (hq:0≤q∧q≤1099511627776) (ho:o=0∧t=0∨(1≤t∧t≤4096)∧0≤o∧o≤t-1) :
  Ans Tryz.prog (fv 42) [.agg #[int a,int c,int q,int o,int t]] [] (fun r=>r=int 0):=by
 have w1:=bnWithin_spec ha
 have w2:=bnWithin_spec hc
 have w3:=bnWithin_spec hq
 refine spec_in (cap:=[]) Tryz.func42 rfl rfl Tryz.ntmps42 rfl envZ (fun N β=>?_)
 refine Aa ?_;refine A9 (BK rfl) rfl rfl rfl ?_;rintro _ _ ⟨b2,rfl,rfl⟩;refine AZ (ρ:=sng b2 (.cells #[int a,int c,int q,int o,int t] 23 (0,0))) takeZ ?_
 have bx40_3:=rdB b2 23 [int a,int c,int q,int o,int t]
 have c0:=rdC bx40_3 0
 have c1:=rdC bx40_3 1
 have c2:=rdC bx40_3 2
 have c3:=rdC bx40_3 3
 have c4:=rdC bx40_3 4
 rcases ho with ⟨rfl,rfl⟩|⟨h1,h2⟩
 ·refine AC ?_
  refine Aci ?_
  focus ((refine AL w1 rfl rfl rdZ rfl rfl ?_; rintro _ rfl))
  refine Abe ?_
  focus ((refine AL w2 rfl rfl rdZ rfl rfl ?_; rintro _ rfl))
  refine Abq ?_
  focus ((refine AL w3 rfl rfl rdZ rfl rfl ?_; rintro _ rfl))
  refine Ab5 ?_;refine Ace ?_;refine CN ?_;refine Aah ?_;refine CN ?_;refine AX ?_;refine Aau ?_;refine Aaw ?_;exact A2 ⟨rfl,rfl⟩
 ·have w4:=bnWithin_spec h1
  have w5:=bnWithin_spec h2
  by_cases hz:o=0
  ·refine AC ?_
   refine Aci ?_
   focus ((refine AL w1 rfl rfl rdZ rfl rfl ?_; rintro _ rfl))
   refine Abe ?_
   focus ((refine AL w2 rfl rfl rdZ rfl rfl ?_; rintro _ rfl))
   refine Abq ?_
   focus ((refine AL w3 rfl rfl rdZ rfl rfl ?_; rintro _ rfl))
   refine Ab5 ?_;refine Ace ?_;refine CN ?_;refine Aah ?_;refine B9 ?_;refine AX ?_;refine Aax ?_;refine Aak ?_
   focus ((refine AL w4 rfl rfl rdZ rfl rfl ?_; rintro _ rfl))
   refine Abe ?_;refine Aac ?_;refine CR ?_
   focus ((refine AL w5 rfl rfl rdZ rfl rfl ?_; rintro _ rfl))
   refine Ab5 ?_;refine Aaw ?_;exact A2 ⟨rfl,rfl⟩
  ·refine AC ?_
   refine Aci ?_
   focus ((refine AL w1 rfl rfl rdZ rfl rfl ?_; rintro _ rfl))
   refine Abe ?_
   focus ((refine AL w2 rfl rfl rdZ rfl rfl ?_; rintro _ rfl))
   refine Abq ?_
   focus ((refine AL w3 rfl rfl rdZ rfl rfl ?_; rintro _ rfl))
   refine Ab5 ?_;refine Ace ?_;refine B9 ?_;refine Aa9 ?_;refine Aao ?_;refine Ace ?_
   focus ((refine AL w4 rfl rfl rdZ rfl rfl ?_; rintro _ rfl))
   refine Abe ?_;refine Aac ?_;refine CR ?_
   focus ((refine AL w5 rfl rfl rdZ rfl rfl ?_; rintro _ rfl))
   refine Ab5 ?_;refine Aaw ?_;exact A2 ⟨rfl,rfl⟩
theorem epCheck_spec {k n:Int} (h:k=1∧0≤n∧n<16∨k=2∧0≤n∧n<8) :
  Ans Tryz.prog (fv 43) [.agg #[int k,int n]] [] (fun r=>r=int 0):=by
 refine spec_in (cap:=[]) Tryz.func43 rfl rfl Tryz.ntmps43 rfl envZ (fun N β=>?_)
 refine Aa ?_;refine A9 (BK rfl) rfl rfl rfl ?_;rintro _ _ ⟨b2,rfl,rfl⟩;refine AZ (ρ:=sng b2 (.cells #[int k,int n] 31 (0,0))) takeZ ?_
 have bx223_3:=rdB b2 31 [int k,int n]
 have c0:=rdC bx223_3 0
 have c1:=rdC bx223_3 1
 rcases h with ⟨rfl,h1,h2⟩|⟨rfl,h1,h2⟩
 ·refine AC ?_
  refine AE ?_;refine Aa ?_;refine Aag ?_;refine Aak ?_;refine AE ?_;refine AV ?_;refine Aa ?_;refine CN ?_;refine Aaa ?_;refine Abh ?_;refine BE ?_;refine Ace ?_;refine BM ?_;refine Aah ?_;refine AB ?_;refine DA ?_;refine Aao ?_;refine Aaw ?_;exact A2 ⟨rfl,rfl⟩
 ·refine AC ?_
  refine AE ?_;refine Aa ?_;refine Aag ?_;refine Aak ?_;refine AE ?_;refine AV ?_;refine Aa ?_;refine B9 ?_;refine Aa8 ?_;refine Aa ?_;refine CN ?_;refine Aaa ?_;refine A3 rfl ?_;refine AA ?_;refine Aaa ?_;refine BE ?_;refine Ace ?_;refine BM ?_;refine Aah ?_;refine AB ?_;refine DA ?_;refine Aao ?_;refine Aaw ?_;exact A2 ⟨rfl,rfl⟩
theorem bnPay_spec {a c q o t k n l p f:Int} {d:List UInt8} (h1:d.length≤4096) (h2:t=0∨0<t∧1≤(d.length:Int)∧(d.length:Int)≤t-o) (ht:0≤t∧t≤4096) (ho:0≤o∧o≤4096) :
  Ans Tryz.prog (fv 47) [.agg #[int a,int c,int q,int o,int t,int k,int n,int l,int p,int f,.slice none 0 0,str d]] [] (fun r=>r=int 0):=by
 refine spec_in (cap:=[]) Tryz.func47 rfl rfl Tryz.ntmps47 rfl envZ (fun N β=>?_)
 refine Aa ?_;refine A9 (BK rfl) rfl rfl rfl ?_;rintro _ _ ⟨b2,rfl,rfl⟩;refine AZ (ρ:=sng b2 (.cells #[int a,int c,int q,int o,int t,int k,int n,int l,int p,int f,.slice none 0 0,str d] 34 (0,0))) takeZ ?_
 have bx324_3:=rdB b2 34 [int a,int c,int q,int o,int t,int k,int n,int l,int p,int f,.slice none 0 0,str d]
 have c0:=rdC bx324_3 0
 have c1:=rdC bx324_3 1
 have c2:=rdC bx324_3 2
 have c3:=rdC bx324_3 3
 have c4:=rdC bx324_3 4
 have c5:=rdC bx324_3 5
 have c6:=rdC bx324_3 6
 have c7:=rdC bx324_3 7
 have c8:=rdC bx324_3 8
 have c9:=rdC bx324_3 9
 have c11:=rdC bx324_3 11
 rcases h2 with rfl|⟨h2,h3⟩
 ·refine AC ?_
  refine AE ?_;refine Aak ?_
  focus ((refine BB (BW rfl rfl) rfl rfl rfl ?_))
  refine Aam ?_;refine BZ ?_;refine Aax ?_;refine Abr ?_;refine BZ ?_;refine Ab1 ?_;refine Aae ?_;refine Aae ?_;refine Aae ?_;refine Aao ?_;refine Aaw ?_;exact A2 ⟨rfl,rfl⟩
 ·have w1:=bnWithin_spec h3
  refine Aaa ?_;refine Aak ?_
  focus ((refine BB (BW rfl rfl) rfl rfl rfl ?_))
  refine Aam ?_;refine BZ ?_;refine Aax ?_;refine Abr ?_;refine C1 ?_;refine Aan ?_;refine Aay ?_;refine Aay ?_;refine CR ?_
  focus ((refine AL w1 rfl rfl rdZ rfl rfl ?_; rintro _ rfl))
  refine AY ?_;refine AX ?_;refine Aaf ?_;refine Aaw ?_;exact A2 ⟨rfl,rfl⟩
theorem bnFlags_spec {a c q o t k n l p:Int} {f:Nat} {d:List UInt8} (h1:f≤127) (h2:f &&& 4=0∨f &&& 64=0) (h3:t≤0∨f &&& 2=0) :
  Ans Tryz.prog (fv 45) [.agg #[int a,int c,int q,int o,int t,int k,int n,int l,int p,int (f:Int),.slice none 0 0,str d]] [] (fun r=>r=int 0):=by
 have w1:=bnWithin_spec (n:=(f:Int)) (lo:=0) (hi:=127) ⟨by omega,by omega⟩
 refine spec_in (cap:=[]) Tryz.func45 rfl rfl Tryz.ntmps45 rfl envZ (fun N β=>?_)
 refine Aa ?_;refine A9 (BK rfl) rfl rfl rfl ?_;rintro _ _ ⟨b2,rfl,rfl⟩;refine AZ (ρ:=sng b2 (.cells #[int a,int c,int q,int o,int t,int k,int n,int l,int p,int (f:Int),.slice none 0 0,str d] 34 (0,0))) takeZ ?_
 have bx434_3:=rdB b2 34 [int a,int c,int q,int o,int t,int k,int n,int l,int p,int (f:Int),.slice none 0 0,str d]
 have c0:=rdC bx434_3 0
 have c1:=rdC bx434_3 1
 have c2:=rdC bx434_3 2
 have c3:=rdC bx434_3 3
 have c4:=rdC bx434_3 4
 have c5:=rdC bx434_3 5
 have c6:=rdC bx434_3 6
 have c7:=rdC bx434_3 7
 have c8:=rdC bx434_3 8
 have c9:=rdC bx434_3 9
 have c11:=rdC bx434_3 11
 by_cases ha:f &&& 4=0
 ·by_cases hb:0<t
  ·have hc:f &&& 2=0:=by omega
   refine Aag ?_;refine Aak ?_
   focus ((refine AL w1 rfl rfl rdZ rfl rfl ?_; rintro _ rfl))
   refine Abe ?_
   focus ((refine BB (CA (k:=.i64) (a:=f) (b:=4) (c:=0) rfl rfl (by show f<2 ^ 64; omega) (by decide) ha rfl) rfl rfl rfl ?_))
   refine A5 ?_;refine Ab1 ?_;refine AK ?_;refine Abo ?_;refine Aay ?_;refine C1 ?_;refine Aah ?_
   focus ((refine BB (CA (k:=.i64) (a:=f) (b:=2) (c:=0) rfl rfl (by show f<2 ^ 64; omega) (by decide) hc rfl) rfl rfl rfl ?_))
   refine A5 ?_;refine AX ?_;refine Aao ?_;refine Aaw ?_;exact A2 ⟨rfl,rfl⟩
  ·refine AC ?_
   refine Aci ?_
   focus ((refine AL w1 rfl rfl rdZ rfl rfl ?_; rintro _ rfl))
   refine Abe ?_
   focus ((refine BB (CA (k:=.i64) (a:=f) (b:=4) (c:=0) rfl rfl (by show f<2 ^ 64; omega) (by decide) ha rfl) rfl rfl rfl ?_))
   refine A5 ?_;refine Ab1 ?_;refine AK ?_;refine Abo ?_;refine Aay ?_;refine BZ ?_;refine Ab1 ?_;refine AK ?_;refine Aao ?_;refine Aaw ?_;exact A2 ⟨rfl,rfl⟩
 ·have hd:f &&& 64=0:=by omega
  have ha4:f &&& 4=4:=((by decide:∀ x:Fin 128,x.val &&& 4=0∨x.val &&& 4=4) ⟨f,by omega⟩).resolve_left ha
  by_cases hb:0<t
  ·have hc:f &&& 2=0:=by omega
   refine Aag ?_;refine Aak ?_
   focus ((refine AL w1 rfl rfl rdZ rfl rfl ?_; rintro _ rfl))
   refine Abe ?_
   focus ((refine BB (CA (k:=.i64) (a:=f) (b:=4) (c:=4) rfl rfl (by show f<2 ^ 64; omega) (by decide) ha4 rfl) rfl rfl rfl ?_))
   refine DU ?_;refine Aah ?_
   focus ((refine BB (CA (k:=.i64) (a:=f) (b:=64) (c:=0) rfl rfl (by show f<2 ^ 64; omega) (by decide) hd rfl) rfl rfl rfl ?_))
   refine A5 ?_;refine AX ?_;refine Abo ?_;refine Aay ?_;refine C1 ?_;refine Aah ?_
   focus ((refine BB (CA (k:=.i64) (a:=f) (b:=2) (c:=0) rfl rfl (by show f<2 ^ 64; omega) (by decide) hc rfl) rfl rfl rfl ?_))
   refine A5 ?_;refine AX ?_;refine Aao ?_;refine Aaw ?_;exact A2 ⟨rfl,rfl⟩
  ·refine AC ?_
   refine Aci ?_
   focus ((refine AL w1 rfl rfl rdZ rfl rfl ?_; rintro _ rfl))
   refine Abe ?_
   focus ((refine BB (CA (k:=.i64) (a:=f) (b:=4) (c:=4) rfl rfl (by show f<2 ^ 64; omega) (by decide) ha4 rfl) rfl rfl rfl ?_))
   refine DU ?_;refine Aah ?_
   focus ((refine BB (CA (k:=.i64) (a:=f) (b:=64) (c:=0) rfl rfl (by show f<2 ^ 64; omega) (by decide) hd rfl) rfl rfl rfl ?_))
   refine A5 ?_;refine AX ?_;refine Abo ?_;refine Aay ?_;refine BZ ?_;refine Ab1 ?_;refine AK ?_;refine Aao ?_;refine Aaw ?_;exact A2 ⟨rfl,rfl⟩
theorem bnBlocks_spec:Ans Tryz.prog (fv 46) [.slice none 0 0] [] (fun r=>r=int 0):=by
 refine spec_in (cap:=[]) Tryz.func46 rfl rfl Tryz.ntmps46 rfl envZ (fun N β=>?_)
 refine Ab3 ?_;refine BT ?_;refine BZ ?_;refine Aax ?_;refine Aab ?_;refine Acf ?_
 refine BQ [0,11] (X:=Unit) () (fun _=>True) (fun _=>[(12,int 0)]) (fun _=>[]) (fun _=>0) pickZ trivial covZ Sel.refl ?_
 rintro ⟨⟩ -;refine Abd ?_;refine AD ?_;refine Aaw ?_;refine AV ?_
 refine BQ [0] (X:=Unit) () (fun _=>True) (fun _=>[(6,int 1)]) (fun _=>[]) (fun _=>0) pickZ trivial covZ Sel.refl ?_
 rintro ⟨⟩ -;refine Ab ?_;refine AB ?_;refine BT ?_;refine BM ?_;refine AE ?_;refine Aas ?_;refine Aaw ?_;exact A2 ⟨rfl,rfl⟩
end Go.Proofs.YtjopknnkcnehmaaGreatDoor
