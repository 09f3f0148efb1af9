/- Texts of this proof, one after the other; no conditions. -/
import Derived.LoopNIn
import Derived.Test.YtjopknnkcnehmaaGreatDoorWB6
import Derived.Test.YtjopknnkcnehmaaGreatDoorWB1
set_option linter.all false
/- Runs of closed calls, reckoned: calls; one operation; a list of operations. No conditions. -/
namespace Go.Ev
open Go.Eng
section
variable {P:Program} {ρ:Rn} {fr:Fr} {w:World} {h:AH} {η:PH} {r:Option Nat}
theorem call_op {o:Oper} {f:Od} {xs:List Od} (hi:inOf P o=some (.call f xs)):∃ dst ty pos aft g fo xo ts,o=⟨dst,.call ⟨.value fo,xo,ts⟩,ty,pos,aft,g⟩∧odOf fo=some f∧odsOf xo.toList=some xs:=by
  cases ha:actO o.op with
  | false=>have:=rd_op hi ha; cases this
  | true =>
    obtain ⟨dst,op,ty,pos,aft,g⟩:=o
    cases op with
    | store t a b =>
      exfalso
      simp only [inOf] at hi
      repeat' split at hi
      all_goals cases hi
    | alloc x=>exact (map_no hi (fun a h=>by cases h)).elim
    | box t x=>exact (map_no hi (fun a h=>by cases h)).elim
    | convert s d x =>
      exfalso
      simp only [inOf] at hi
      split at hi
      · rcases inConv_wr hi with ⟨m,e⟩|⟨m,e⟩ <;> cases e
      · cases hi
    | call c =>
      obtain ⟨cal,args,ts⟩:=c
      have hi:inCall P ⟨dst,.call ⟨cal,args,ts⟩,ty,pos,aft,g⟩ ⟨cal,args,ts⟩=some (.call f xs):=hi
      rcases inCall_k hi with ⟨f',xs',e⟩|⟨b,hb,e⟩
      · cases cal with
        | value fo =>
          simp only [inCall,inCallV] at hi
          split at hi
          · rename_i q1 q2
            cases hi
            exact ⟨dst,ty,pos,aft,g,fo,args,ts,rfl,q2,q1⟩
          · cases hi
        | builtin b =>
          simp only [inCall] at hi
          rcases inCallB_k hi with ⟨m,e⟩|⟨_,m,e⟩ <;> cases e
        | invoke r n=>cases hi
      · rcases inCallB_k e with ⟨m,e⟩|⟨_,m,e⟩ <;> cases e
    | makeMap t r=>cases r <;> cases hi
    | buildSlice t n ps =>
      exfalso
      simp only [inOf] at hi
      split at hi
      · split at hi
        · rename_i s zs _ _
          cases hz:zs.length.beq s with
          | false=>rw [hz] at hi; cases hi
          | true=>rw [hz] at hi; exact map_no hi (fun a h=>by cases h)
        · cases hi
      · cases hi
    | makeSlice t l c =>
      exfalso
      simp only [inOf] at hi
      split at hi
      · split at hi
        · rename_i s b zs _ _ _
          cases hz:zs.length.beq s <;> rw [hz] at hi <;> cases hi
        · cases hi
      · cases hi
    | mapUpdate t m k v =>
      exfalso
      simp only [inOf] at hi
      repeat' split at hi
      all_goals cases hi
    | insert t m k v =>
      exfalso
      simp only [inOf] at hi
      repeat' split at hi
      all_goals cases hi
    | _=>cases ha
theorem not_defer {o:Oper} {i:In} (hi:inOf P o=some i):∀ c,o.op≠.defer c:=fun c e=>by
  obtain ⟨dst,op,ty,pos,aft,g⟩:=o
  subst e
  cases hi
theorem fnv_rn {g:FuncId} {us cs:List Value} {u:Value} (e:rn ρ (.func (.func g) ⟨us⟩ ⟨cs⟩)=some u):∃ us' cs',rnL ρ us=some us'∧rnL ρ cs=some cs'∧u=.func (.func g) us'.toArray cs'.toArray:=by
  simp only [rn,rnF,rnR] at e
  cases h1:rnL ρ us with
  | none=>simp [h1] at e
  | some us'=>cases h2:rnL ρ cs with
    | none=>simp [h1,h2] at e
    | some cs'=>simp only [h1,h2,Option.some.injEq] at e; exact ⟨us',cs',rfl,rfl,e.symm⟩
theorem fny_rn {l:Nat} {cs:Array Value} {u:Value} (e:rn ρ (.func (.yield l) ⟨[]⟩ cs)=some u):∃ b s x cs',ρ l=some (b,s,x)∧u=.func (.yield b) #[] cs':=by
  simp only [rn,rnF,rnR,rnL] at e
  cases h1:ρ l with
  | none=>simp [h1] at e
  | some x =>
    obtain ⟨b,s,x⟩:=x
    rw [h1] at e
    cases h2:rnR ρ cs with
    | none=>simp [h2] at e
    | some cs'=>simp only [h2,Option.some.injEq] at e; exact ⟨b,s,x,cs',rfl,e.symm⟩
/-! the next number never sinks -/
theorem storeN_next {i o:Nat} {vs:List Value} {h':AH} (e:storeN h i o vs=some h'):h'.next=h.next:=by
  unfold storeN at e
  split at e
  · split at e
    · exact put_next e
    · cases e
  · cases e
theorem newC_next {e:TypeId} {l:List Value} {i:Nat} {h':AH} (hn:newC h e l=some (i,h')):h.next≤h'.next:=new_next (newC_some hn).2
theorem stO_next {i o:Nat} {v v':Value} {l:Option (List Value)} {h':AH} (e:stO h i o v l=some (v',h')):h'.next=h.next:=by
  unfold stO at e
  split at e
  · split at e
    · rename_i h2 hs; cases e; exact storeN_next hs
    · cases e
  · cases e
theorem mkS_next {n:Nat} {t:TypeId} {l:Option (List Value)} {v:Value} {h':AH} (e:mkS n t h l=some (v,h')):h.next≤h'.next:=by
  obtain ⟨l',_,h2,_⟩:=mkS_some e; exact new_next h2
theorem evApp_next {e:TypeId} {s by_ m:Nat} {p v:Value} {news:List Value} {h':AH} (q:evApp h e s by_ p m news=some (v,h')):h.next≤h'.next:=by
  unfold evApp at q
  split at q
  · rename_i a n c
    cases h0:!(Nat.ble ((n+m)*by_) 70368744177664 && Nat.ble (n+m) 70368744177664) with
    | true=>rw [h0,cond_true] at q; cases q
    | false =>
      rw [h0,cond_false] at q
      cases h1:Nat.ble (n+m) (kcap c) with
      | true =>
        rw [h1,cond_true] at q;unfold appI at q
        split at q
        · split at q
          · rename_i hs; cases q; exact Nat.le_of_eq (storeN_next hs).symm
          · cases q
        · cases hm:m.beq 0 with
          | true=>rw [hm,cond_true] at q; cases q; exact Nat.le_refl _
          | false=>rw [hm,cond_false] at q; cases q
      | false =>
        rw [h1,cond_false] at q
        have hU:∀ {a k n m},appU h e a k n m news=some (v,h')→h.next≤h'.next:=fun {a k n m} q=>by
          unfold appU at q
          split at q
          · split at q
            · rename_i cs t hg
              cases hb:(Nat.beq t e && Nat.beq (_+k) cs.length) with
              | false=>rw [hb,cond_false] at q; cases q
              | true =>
                rw [hb,cond_true] at q
                split at q
                · rename_i h1' hp
                  have:=mkS_next q
                  rw [put_next hp] at this;exact this
                · cases q
            · cases q
          · cases q
        cases h2:lt1 c with
        | true =>
          rw [h2,cond_true] at q;unfold appN at q
          split at q
          · exact mkS_next q
          · cases hn:n.beq 0 with
            | true=>rw [hn,cond_true] at q; exact mkS_next q
            | false=>rw [hn,cond_false] at q; cases q
          · cases q
        | false =>
          rw [h2,cond_false] at q
          cases h3:lt2 c with
          | true =>
            rw [h3,cond_true] at q
            cases hn:Nat.beq n (sub1 c) with
            | true=>rw [hn,cond_true] at q; exact hU q
            | false=>rw [hn,cond_false] at q; cases q
          | false =>
            rw [h3,cond_false] at q
            split at q
            · exact hU q
            · cases q
  · cases q
theorem evWr_next {wr:Wr} {v:Value} {h':AH} (e:evWr fr h wr=some (v,h')):h.next≤h'.next:=by
  cases wr with
  | alc t zs=>obtain ⟨i,q,_⟩:=ptrN_some (show ptrN (newC h t zs)=_ from e); exact newC_next q
  | box t x =>
    have e:wrBox h t (evO fr x)=some (v,h'):=e
    unfold wrBox at e
    split at e
    · obtain ⟨i,q,_⟩:=ptrN_some e; exact newC_next q
    · cases e
  | bsl t n s zs ps =>
    have e:wrBsl h t n s (fillO (rep zs n) (evPs fr ps))=some (v,h'):=e
    unfold wrBsl at e
    split at e
    · cases hb:(Nat.ble (n*s) 16777216 && Nat.blt n big) with
      | true=>rw [hb,cond_true] at e; obtain ⟨i,q,_⟩:=slcN_some e; exact newC_next q
      | false=>rw [hb,cond_false] at e; cases e
    · cases e
  | mks t s b zs l c =>
    have e:wrMks h t b zs (natI (evO fr l)) (natI (evO fr c))=some (v,h'):=e
    unfold wrMks at e
    split at e
    · rename_i l' c' _ _
      cases hb:(Nat.ble l' c' && Nat.ble (b*c') 281474976710656 && Nat.ble c' 70368744177664) with
      | true=>rw [hb,cond_true] at e; obtain ⟨i,q,_⟩:=slcN_some e; exact newC_next q
      | false=>rw [hb,cond_false] at e; cases e
    · cases e
  | mkm =>
    have e:wrMkm h (h.new (.map [] 0))=some (v,h'):=e
    unfold wrMkm at e
    split at e
    · rename_i hq; cases e; exact new_next hq
    · cases e
  | app t s b x y =>
    have e:wrApp h t s b (evO fr x) (evO fr y)=some (v,h'):=e
    unfold wrApp at e
    split at e
    · unfold appO at e
      split at e
      · rename_i m news _
        cases hb:oneAll news with
        | true=>rw [hb,cond_true] at e; exact evApp_next e
        | false=>rw [hb,cond_false] at e; cases e
      · cases e
    · cases e
  | cpy s x y =>
    have e:wrCpy h s (evO fr x) (evO fr y)=some (v,h'):=e
    unfold wrCpy at e
    split at e
    · unfold cpyO at e
      split at e
      · split at e
        · exact Nat.le_of_eq (stO_next e).symm
        · cases e; exact Nat.le_refl _
        · cases e
      · cases e
    · cases e
  | clr s zs x =>
    have e:wrClr h zs (evO fr x)=some (v,h'):=e
    unfold wrClr at e
    split at e
    · rename_i n _ _
      cases hb:n.beq 0 with
      | true=>rw [hb,cond_true] at e; cases e; exact Nat.le_refl _
      | false =>
        rw [hb,cond_false] at e
        split at e
        · exact Nat.le_of_eq (stO_next e).symm
        · cases e
    · cases e
  | s2b t x =>
    have e:wrS2b h t (evO fr x)=some (v,h'):=e
    unfold wrS2b at e
    split at e
    · rename_i s _
      cases hb:Nat.blt s.data.toList.length big with
      | true=>rw [hb,cond_true] at e; obtain ⟨i,q,_⟩:=slcN_some e; exact newC_next q
      | false=>rw [hb,cond_false] at e; cases e
    · cases e
  | mup m k x n =>
    have e:wrMup h n (evO fr m) (evO fr k) (evO fr x)=some (v,h'):=e
    unfold wrMup at e
    split at e
    · split at e
      · unfold mupO at e
        split at e
        · split at e
          · rename_i hq; cases e; exact Nat.le_of_eq (put_next hq).symm
          · cases e
        · cases e
      · cases e
    · cases e
theorem evCall_next {cf:CallF} {yf:YF} (hcf:FOK P cf) (hyf:YOK P yf) {f:Option Value} {vs:Option (List Value)} {v:Value} {h':AH} (e:evCall cf yf h f vs=some (v,h')):h.next≤h'.next:=by
  unfold evCall at e
  split at e
  · exact (hcf _ _ _ _ _ e).1
  · exact (hyf _ _ _ _ _ e).1
  · cases e
theorem evIn_next {cf:CallF} {yf:YF} (hcf:FOK P cf) (hyf:YOK P yf) {i:In} {v:Value} {h':AH} (e:evIn cf yf fr h i=some (v,h')):h.next≤h'.next:=by
  have hq:∀ x,ret1 h x=some (v,h')→h.next≤h'.next:=fun x q=>by
    cases x with
    | none=>cases q
    | some y=>cases q; exact Nat.le_refl _
  cases i with
  | st x y n =>
    have e:evSt h n (evO fr x) (evO fr y)=some (v,h'):=e
    unfold evSt at e
    split at e
    · rename_i u _ _
      cases hb:Nat.beq (cl u).length n with
      | true =>
        rw [hb,cond_true] at e
        split at e
        · rename_i hs; cases e; exact Nat.le_of_eq (storeN_next hs).symm
        · cases e
      | false=>rw [hb,cond_false] at e; cases e
    · cases e
  | call f xs=>exact evCall_next hcf hyf e
  | wr wr=>exact evWr_next e
  | _=>exact hq _ e
theorem op_wp {cf:CallF} {yf:YF} (hcf:FOK P cf) (hyf:YOK P yf) {o:Oper} {i:In} {v:Value} {h':AH} {a:Act} {ev:Operand→Value} (hi:inOf P o=some i) (hv:evIn cf yf fr h i=some (v,h')) (hev:ev=a.eval) (hf:FR ρ fr) (hk:EK ρ fr ev o.op.operands) (hr:HR P ρ h η) (hw:η.le w) (hfr:Fresh ρ h.next h'.next) {next:Act→World→Prop} {Q:Exit→Act→World→Prop}
    (hn:∀ u ρ' η' w',rn ρ' v=some u→After P ρ η w h h' ρ' η' w'→next (a.put o.dst u) w'):o.wpIn (wideR r) 0 P a w next Q:=by
  subst hev
  refine ⟨fun _ _=>trivial,?_⟩
  rw [Oper.semAt_eq _ _ _ (not_defer hi)]
  by_cases hc:∃ f xs,i=.call f xs
  · obtain ⟨f,xs,rfl⟩:=hc
    obtain ⟨dst,ty,pos,aft,g,fo,xo,ts,rfl,k1,k2⟩:=call_op hi
    have hv:evCall cf yf h (evO fr f) (evOs fr xs)=some (v,h'):=hv
    unfold evCall at hv
    have hmem:∀ x∈xo.toList,x∈(Op.call ⟨.value fo,xo,ts⟩).operands:=fun y hy=>by simp [Op.operands,Call.operands]; right; simpa using hy
    have hmf:fo∈(Op.call ⟨.value fo,xo,ts⟩).operands:=by simp [Op.operands,Call.operands]
    split at hv
    · rename_i gf us cs vs hf1 hv1
      obtain ⟨p,p1,p2⟩:=od_ev hf hk hmf k1 hf1
      obtain ⟨us',cs',q1,q2,rfl⟩:=fnv_rn p1
      obtain ⟨vs',q3,q4⟩:=ods_ev hf hk hmem k2 hv1
      have hargs:xo.map a.eval=vs'.toArray:=by
        rw [← q4,← Array.toList_map]
      have hall:=rnL_append.2 ⟨_,_,rnL_append.2 ⟨_,_,q1,q3,rfl⟩,q2,rfl⟩
      obtain ⟨c1,c2⟩:=(hcf _ _ _ _ _ hv).2 ρ η w _ hr hw hfr hall
      have hex:(execOp a.eval ⟨dst,.call ⟨.value fo,xo,ts⟩,ty,pos,aft,g⟩)=callFunc gf (us' ++ vs' ++ cs').toArray:=by
        simp [execOp,resolve,hargs,p2,Deferred.ofValue,invoke]
      rw [hex,c1]
      refine ⟨fun h=>by simp [Fence.wide] at h,?_⟩
      refine CallsIn.mono (show CallsIn (wideR r) 0 P gf _ w _ from c2) ?_
      rintro e w' ⟨u,rfl,ρ',η',k1,k2⟩;exact hn u ρ' η' w' k1 k2
    · rename_i gl cs vs hf1 hv1
      obtain ⟨p,p1,p2⟩:=od_ev hf hk hmf k1 hf1
      obtain ⟨b,s,x,cs',q1,rfl⟩:=fny_rn p1
      obtain ⟨vs',q3,q4⟩:=ods_ev hf hk hmem k2 hv1
      have hargs:xo.map a.eval=vs'.toArray:=by
        rw [← q4,← Array.toList_map]
      obtain ⟨f',tmps,asg,body,w1,c1,c2⟩:=(hyf _ _ _ _ _ hv).2 ρ η w _ b s x hr hw hfr q3 q1
      have hex:(execOp a.eval ⟨dst,.call ⟨.value fo,xo,ts⟩,ty,pos,aft,g⟩)=Instr.yield b vs'.toArray:=by
        simp [execOp,resolve,hargs,p2,Deferred.ofValue,invoke]
      rw [hex,c1]
      refine ⟨fun h=>by simp [Fence.wide] at h,?_⟩
      refine RoundIn.mono (show RoundIn (wideR r) 0 P b f' tmps asg body w1 _ from c2) ?_
      rintro e w' ⟨u,rfl,ρ',η',k1,k2⟩;exact hn u ρ' η' w' k1 k2
    · cases hv
  · have hc':∀ f xs,i≠.call f xs:=fun f xs e=>hc ⟨f,xs,e⟩
    obtain ⟨_,hl⟩:=evA_run hi hc' hv hr hw hf hk
    obtain ⟨u,ρ',η',w',hrun,k1,k2,k3,k4⟩:=hl hfr
    have hgo:=hn u ρ' η' w' k1 ⟨k2,k3,k4⟩
    rcases hrun with hrun|⟨hrun,rfl⟩
    · rw [hrun]; exact hgo
    · rw [hrun]; exact hgo
theorem evOps_cons {M:Nat} {ev:Fr→AH→In→Option (Value × AH)} {q:Op1} {l:List Op1} {fr:Fr} {h:AH} {x:Fr × AH} (e:evOps M ev (q::l) fr h=some x):∃ b,want fr q.g=some b∧((b=false∧∃ fr1,putF M fr q.d undef=some fr1∧evOps M ev l fr1 h=some x)∨(b=true∧∃ v h1 fr1,ev fr h q.i=some (v,h1)∧putF M fr q.d v=some fr1∧evOps M ev l fr1 h1=some x)):=by
  have e:(Option.rec none (fun b=>Bool.rec (Option.rec none (fun fr'=>evOps M ev l fr' h) (putF M fr q.d undef)) (Option.rec none (fun r=>Option.rec none (fun fr'=>evOps M ev l fr' r.2) (putF M fr q.d r.1)) (ev fr h q.i)) b) (want fr q.g):Option (Fr × AH))=some x:=e
  cases hw:want fr q.g with
  | none=>rw [hw] at e; cases e
  | some b =>
    rw [hw] at e
    cases b with
    | false =>
      simp only at e
      cases hp:putF M fr q.d undef with
      | none=>rw [hp] at e; cases e
      | some fr1=>rw [hp] at e; exact ⟨false,rfl,.inl ⟨rfl,fr1,rfl,e⟩⟩
    | true =>
      simp only at e
      cases hv:ev fr h q.i with
      | none=>rw [hv] at e; cases e
      | some y =>
        obtain ⟨v,h1⟩:=y
        rw [hv] at e;simp only at e
        cases hp:putF M fr q.d v with
        | none=>rw [hp] at e; cases e
        | some fr1=>rw [hp] at e; exact ⟨true,rfl,.inr ⟨rfl,v,h1,fr1,rfl,hp,e⟩⟩
theorem After.refl (hr:HR P ρ h η) (hw:η.le w) {n:Nat}:HR P ρ h η∧Upd [η] [η] w w∧Ext ρ ρ h.next n:=⟨hr,upd_refl hw,Ext.refl⟩
theorem evOps_wp {cf:CallF} {yf:YF} (hcf:FOK P cf) (hyf:YOK P yf) {M:Nat} {all:Array Oper}:∀ (l:List Oper) (qs:List Op1),op1s P all l=some qs→∀ (fr:Fr) (h:AH) (fr':Fr) (h':AH),evOps M (evIn cf yf) qs fr h=some (fr',h')→h.next≤h'.next ∧
    ∀ (ρ:Rn) (η:PH) (a:Act) (w:World) (Q:Exit→Act→World→Prop),a.tmps.size=M→FK ρ fr (fun t=>a.tmps.getD t undef)→HR P ρ h η→η.le w→Fresh ρ h.next h'.next →
      (∀ ρ' η' a' w',a'.tmps.size=M→a'.defers=a.defers→FK ρ' fr' (fun t=>a'.tmps.getD t undef)→After P ρ η w h h' ρ' η' w'→Q .normal a' w')→wpListIn (wideR r) 0 P all Q l a w
  | [],qs,hq,fr,h,fr',h',e=>by
    cases hq
    cases e
    exact ⟨Nat.le_refl _,fun ρ η a w Q hs hk hr hw _ hn=>hn ρ η a w hs rfl hk ⟨hr,upd_refl hw,Ext.refl⟩⟩
  | o::l,qs,hq,fr,h,fr',h',e=>by
    simp only [op1s] at hq
    cases h1:op1 P all o with
    | none=>simp [h1] at hq
    | some q=>cases h2:op1s P all l with
      | none=>simp [h1,h2] at hq
      | some qs' =>
        simp only [h1,h2,Option.some.injEq] at hq;subst hq
        obtain ⟨k1,k2⟩:=op1_i h1
        obtain ⟨b,hwn,hx⟩:=evOps_cons e
        rcases hx with ⟨rfl,fr1,hp,e1⟩|⟨rfl,v,h1',fr1,hv,hp,e1⟩
        · obtain ⟨n1,ih⟩:=evOps_wp hcf hyf l qs' h2 fr1 h fr' h' e1
          refine ⟨n1,fun ρ η a w Q hs hk hr hw hfr hn=>?_⟩
          have hwa:=want_fr (a:=a) h1 hwn hk
          obtain ⟨g1,g2,g3⟩:=FK.put (u:=undef) hk hs hp rfl
          simp only [wpListIn,hwa,Bool.false_eq_true,if_false];rw [k2] at g1 g2 g3
          exact ⟨fun _ _=>trivial,ih ρ η _ w Q g2 g1 hr hw hfr (fun ρ' η' a' w' s1 s2 s3 s4=>hn ρ' η' a' w' s1 (s2.trans g3) s3 s4)⟩
        · have n0:=evIn_next hcf hyf hv
          obtain ⟨n1,ih⟩:=evOps_wp hcf hyf l qs' h2 fr1 h1' fr' h' e1
          refine ⟨Nat.le_trans n0 n1,fun ρ η a w Q hs hk hr hw hfr hn=>?_⟩
          have hwa:=want_fr (a:=a) h1 hwn hk
          simp only [wpListIn,hwa,if_true]
          refine op_wp hcf hyf k1 hv rfl hk.toFR (hk.toEK _) hr hw (fun i x y=>hfr i x (by omega)) (fun u ρ' η' w' s1 s2=>?_)
          have hk':=hk.mono s2.2.2.1
          obtain ⟨g1,g2,g3⟩:=FK.put hk' hs hp s1
          rw [k2] at g1 g2 g3
          exact ih ρ' η' _ w' Q g2 g1 s2.1 s2.le (hfr.after s2.2.2 n0) (fun ρ2 η2 a2 w2 t1 t2 t3 t4=>hn ρ2 η2 a2 w2 t1 (t2.trans g3) t3 (s2.comp t4 n0 n1))
theorem reg_wp {cf:CallF} {yf:YF} (hcf:FOK P cf) (hyf:YOK P yf) {M id:Nat} {ops:Array Oper} {qs:List Op1} (hq:op1s P ops ops.toList=some qs) {fr:Fr} {h:AH} {fr':Fr} {h':AH} (e:evOps M (evIn cf yf) qs fr h=some (fr',h')):h.next≤h'.next ∧
    ∀ (ρ:Rn) (η:PH) (a:Act) (w:World) (Q:Exit→Act→World→Prop),a.tmps.size=M→FK ρ fr (fun t=>a.tmps.getD t undef)→HR P ρ h η→η.le w→Fresh ρ h.next h'.next →
      (∀ ρ' η' a' w',a'.tmps.size=M→a'.defers=a.defers→FK ρ' fr' (fun t=>a'.tmps.getD t undef)→After P ρ η w h h' ρ' η' w'→Q .normal a' w')→(Code.region id ops false).wpIn (wideR r) 0 P Q a w:=
  let ⟨n1,ih⟩:=evOps_wp (r:=r) hcf hyf _ _ hq fr h fr' h' e
  ⟨n1,fun ρ η a w Q hs hk hr hw hfr hn=>wpIn_region_list (ih ρ η a w Q hs hk hr hw hfr hn)⟩
end
end Go.Ev
namespace Go.Ev
open Go.Eng
def exK:Ex→Exit
  | .normal=>.normal
  | .ret=>.ret
  | .exit id=>.exit id
inductive MK (ρ:Rn):List Nat→List Deferred→Prop
  | nil:MK ρ [] []
  | cons {i b s x:Nat} {d:Deferred} {ms:List Nat} {ds:List Deferred}:ρ i=some (b,s,x)→d.target=.collected b→MK ρ ms ds→MK ρ (i::ms) (d::ds)
theorem MK.mono {ρ ρ':Rn} (h:ρ.le ρ') {ms:List Nat} {ds:List Deferred} (m:MK ρ ms ds):MK ρ' ms ds:=by
  induction m with
  | nil=>exact .nil
  | cons h1 h2 _ ih=>exact .cons (h _ _ h1) h2 ih
def RK (ρ:Rn):Option Nat→Option Nat→Prop
  | none,none=>True
  | some i,some b=>∃ s x,ρ i=some (b,s,x)
  | _,_=>False
theorem RK.mono {ρ ρ':Rn} (h:ρ.le ρ'):∀ {x y:Option Nat},RK ρ x y→RK ρ' x y
  | none,none,_=>trivial
  | some _,some _,⟨s,x,e⟩=>⟨s,x,h _ _ e⟩
  | none,some _,e=>e.elim
  | some _,none,e=>e.elim
structure SI (P:Program) (M:Nat) (ρ:Rn) (s:St) (η:PH) (a:Act) (w:World):Prop where
  size:a.tmps.size=M
  fk:FK ρ s.fr (fun t=>a.tmps.getD t undef)
  mks:MK ρ s.ms a.defers
  hr:HR P ρ s.h η
  le:η.le w
abbrev EndQ (P:Program) (M:Nat) (ρ:Rn) (η:PH) (w:World) (n:Nat) (e:Ex) (s':St) (Q:Exit→Act→World→Prop):Prop:=
  ∀ ρ' η' a' w',SI P M ρ' s' η' a' w'→Upd [η] [η'] w w'→Ext ρ ρ' n s'.h.next→Q (exK e) a' w'
abbrev StepC:=Cc→Code→St→Option (Ex × St)
def COK (P:Program) (c:StepC):Prop:=∀ cc cd s e s',c cc cd s=some (e,s')→s.h.next≤s'.h.next ∧
  ∀ ρ η a w r Q,RK ρ cc.rd r→SI P cc.M ρ s η a w→Fresh ρ s.h.next s'.h.next→EndQ P cc.M ρ η w s.h.next e s' Q→cd.wpIn (wideR r) 0 P Q a w
def LpK (P:Program) (l:StepC):Prop:=∀ cc b s e s',l cc b s=some (e,s')→s.h.next≤s'.h.next∧∃ n,
  ∀ ρ η a w r Q,RK ρ cc.rd r→SI P cc.M ρ s η a w→Fresh ρ s.h.next s'.h.next→EndQ P cc.M ρ η w s.h.next e s' Q→Code.roundsIn (wideR r) 0 P b Q n a w
structure MOK (P:Program) (m:Mac):Prop where
  c:COK P m.c
  f:FOK P m.f
  y:YOK P m.y
  l:LpK P m.l
section
variable {P:Program} {ρ:Rn} {η:PH} {w:World} {a:Act} {r:Option Nat} {Q:Exit→Act→World→Prop}
theorem EndQ.after {M:Nat} {n k:Nat} {e:Ex} {s':St} {ρ1:Rn} {η1:PH} {w1:World} (h:EndQ P M ρ η w n e s' Q) (u:Upd [η] [η1] w w1) (x:Ext ρ ρ1 n k) (h1:n≤k) (h2:k≤s'.h.next):EndQ P M ρ1 η1 w1 k e s' Q:=
  fun ρ' η' a' w' si u' x'=>h ρ' η' a' w' si (Upd.comp u u') (x.trans x' h1 h2)
theorem then_ex {e:Ex} (he:e≠.normal) {K:Act→World→Prop} {a':Act} {w':World} (h:Q (exK e) a' w'):Exit.then K Q (exK e) a' w':=by
  cases e with
  | normal=>exact absurd rfl he
  | ret=>exact h
  | exit id=>exact h
theorem seq_ok {m:Mac} (hm:MOK P m) {cc:Cc} {x y:Code} {s s':St} {e:Ex} (h:(match m.c cc x s with|some (.normal,s1)=>m.c cc y s1|r=>r)=some (e,s')):s.h.next≤s'.h.next ∧
    ∀ ρ η a w r Q,RK ρ cc.rd r→SI P cc.M ρ s η a w→Fresh ρ s.h.next s'.h.next→EndQ P cc.M ρ η w s.h.next e s' Q→(Code.seq x y).wpIn (wideR r) 0 P Q a w:=by
  split at h
  · rename_i s1 h1
    obtain ⟨n1,g1⟩:=hm.c _ _ _ _ _ h1
    obtain ⟨n2,g2⟩:=hm.c _ _ _ _ _ h
    refine ⟨Nat.le_trans n1 n2,fun ρ η a w r Q hr si hf hq=>wpIn_seq (g1 ρ η a w r _ hr si (fun i p q=>hf i p (by omega)) (fun ρ' η' a' w' si' u x=>?_))⟩
    exact g2 ρ' η' a' w' r Q (hr.mono x.1) si' (hf.after x n1) (EndQ.after hq u x n1 n2)
  · rename_i hn
    obtain ⟨n1,g1⟩:=hm.c _ _ _ _ _ h
    refine ⟨n1,fun ρ η a w r Q hr si hf hq=>wpIn_seq (g1 ρ η a w r _ hr si hf (fun ρ' η' a' w' si' u x=>?_))⟩
    exact then_ex (fun he=>hn s' (by rw [h,he])) (hq ρ' η' a' w' si' u x)
theorem loop_ok {m:Mac} (hm:MOK P m) {cc:Cc} {b:Code} {s s':St} {e:Ex} (h:stL m cc b s=some (e,s')):s.h.next≤s'.h.next∧∃ n,
    ∀ ρ η a w r Q,RK ρ cc.rd r→SI P cc.M ρ s η a w→Fresh ρ s.h.next s'.h.next→EndQ P cc.M ρ η w s.h.next e s' Q→Code.roundsIn (wideR r) 0 P b Q n a w:=by
  unfold stL at h
  split at h
  · rename_i s1 h1
    obtain ⟨n1,g1⟩:=hm.c _ _ _ _ _ h1
    obtain ⟨n2,n,g2⟩:=hm.l _ _ _ _ _ h
    refine ⟨Nat.le_trans n1 n2,n+1,fun ρ η a w r Q hr si hf hq=>?_⟩
    rw [roundsIn_succ]
    refine g1 ρ η a w r _ hr si (fun i p q=>hf i p (by omega)) (fun ρ' η' a' w' si' u x=>?_)
    exact g2 ρ' η' a' w' r Q (hr.mono x.1) si' (hf.after x n1) (EndQ.after hq u x n1 n2)
  · rename_i hn
    obtain ⟨n1,g1⟩:=hm.c _ _ _ _ _ h
    refine ⟨n1,1,fun ρ η a w r Q hr si hf hq=>?_⟩
    rw [roundsIn_succ]
    refine g1 ρ η a w r _ hr si hf (fun ρ' η' a' w' si' u x=>?_)
    exact then_ex (fun he=>hn s' (by rw [h,he])) (hq ρ' η' a' w' si' u x)
theorem block_ok {m:Mac} (hm:MOK P m) {cc:Cc} {id:Nat} {b:Code} {s s':St} {e:Ex} (h:(match m.c cc b s with|some (.exit i,s')=>bif Nat.beq i id then some (Ex.normal,s') else some (.exit i,s')|r=>r)=some (e,s')):s.h.next≤s'.h.next ∧
    ∀ ρ η a w r Q,RK ρ cc.rd r→SI P cc.M ρ s η a w→Fresh ρ s.h.next s'.h.next→EndQ P cc.M ρ η w s.h.next e s' Q→(Code.block id b).wpIn (wideR r) 0 P Q a w:=by
  split at h
  · rename_i i s1 h1
    obtain ⟨n1,g1⟩:=hm.c _ _ _ _ _ h1
    cases hi:Nat.beq i id with
    | true =>
      rw [hi,cond_true] at h
      cases h
      have:=Nat.eq_of_beq_eq_true hi
      refine ⟨n1,fun ρ η a w r Q hr si hf hq=>wpIn_block (g1 ρ η a w r _ hr si hf (fun ρ' η' a' w' si' u x=>?_))⟩
      simp only [exK,Exit.inBlock,this,if_true];exact hq ρ' η' a' w' si' u x
    | false =>
      rw [hi,cond_false] at h
      cases h
      have hne:i≠id:=fun e=>by subst e; rw [show Nat.beq i i=true from Nat.beq_refl i] at hi; cases hi
      refine ⟨n1,fun ρ η a w r Q hr si hf hq=>wpIn_block (g1 ρ η a w r _ hr si hf (fun ρ' η' a' w' si' u x=>?_))⟩
      simp only [exK,Exit.inBlock,if_neg hne];exact hq ρ' η' a' w' si' u x
  · rename_i hn
    obtain ⟨n1,g1⟩:=hm.c _ _ _ _ _ h
    refine ⟨n1,fun ρ η a w r Q hr si hf hq=>wpIn_block (g1 ρ η a w r _ hr si hf (fun ρ' η' a' w' si' u x=>?_))⟩
    have:=hq ρ' η' a' w' si' u x
    cases e with
    | normal=>exact this
    | ret=>exact this
    | exit i=>exact absurd h (hn i s')
theorem cond_ok {m:Mac} (hm:MOK P m) {cc:Cc} {x:Operand} {p q:Code} {s s':St} {e:Ex} (h:stC P m cc (.cond x p q) s=some (e,s')):s.h.next≤s'.h.next ∧
    ∀ ρ η a w r Q,RK ρ cc.rd r→SI P cc.M ρ s η a w→Fresh ρ s.h.next s'.h.next→EndQ P cc.M ρ η w s.h.next e s' Q→(Code.cond x p q).wpIn (wideR r) 0 P Q a w:=by
  simp only [stC] at h
  have hev:∀ {ρ:Rn} {η:PH} {a:Act} {w:World} {d:Od} {b:Bool},SI P cc.M ρ s η a w→odOf x=some d→evO s.fr d=some (.bool b)→a.eval x=.bool b:=fun si h1 h2=>by
    obtain ⟨u,k1,k2⟩:=od_ev trivial (si.fk.toEK #[x]) (by simp) h1 h2
    cases k1; exact k2
  split at h
  · rename_i d hd
    split at h
    · rename_i hv
      obtain ⟨n1,g1⟩:=hm.c _ _ _ _ _ h
      exact ⟨n1,fun ρ η a w r Q hr si hf hq=>wpIn_cond_true (hev si hd hv) (g1 ρ η a w r Q hr si hf hq)⟩
    · rename_i hv
      obtain ⟨n1,g1⟩:=hm.c _ _ _ _ _ h
      exact ⟨n1,fun ρ η a w r Q hr si hf hq=>wpIn_cond_false (hev si hd hv) (g1 ρ η a w r Q hr si hf hq)⟩
    · cases h
  · cases h
theorem stEnd_some {ms:List Nat} {x:Option (Fr × AH)} {e:Ex} {s':St} (h:stEnd ms x=some (e,s')):∃ fr h',x=some (fr,h')∧e=.normal∧s'=⟨fr,h',ms⟩:=by
  unfold stEnd at h
  split at h
  · cases h; exact ⟨_,_,rfl,rfl,rfl⟩
  · cases h
theorem stReg_ok {m:Mac} (hm:MOK P m) {cc:Cc} {id:Nat} {ops:Array Oper} {s s':St} {e:Ex} (h:stReg cc.M m (op1s P ops ops.toList) s=some (e,s')):s.h.next≤s'.h.next ∧
    ∀ ρ η a w r Q,RK ρ cc.rd r→SI P cc.M ρ s η a w→Fresh ρ s.h.next s'.h.next→EndQ P cc.M ρ η w s.h.next e s' Q→(Code.region id ops false).wpIn (wideR r) 0 P Q a w:=by
  unfold stReg at h
  split at h
  · rename_i l hl
    obtain ⟨fr,h',h1,rfl,rfl⟩:=stEnd_some h
    obtain ⟨n1,_⟩:=reg_wp (r:=none) (id:=id) hm.f hm.y hl h1
    refine ⟨n1,fun ρ η a w r Q hr si hf hq=>?_⟩
    obtain ⟨_,g⟩:=reg_wp (r:=r) (id:=id) hm.f hm.y hl h1
    exact g ρ η a w Q si.size si.fk si.hr si.le hf (fun ρ' η' a' w' k1 k2 k3 k4=>hq ρ' η' a' w' ⟨k1,k3,by rw [k2]; exact si.mks.mono k4.2.2.1,k4.1,k4.le⟩ k4.2.1 k4.2.2)
  · cases h
/-! blocks are given up,turned -/
theorem upd_drop (hw:η.le w) {b:Nat} {o0:Obj} (hb:η b=some o0) (o:Obj):Upd [η] [setP η b none] w { w with heap:=w.heap.setIfInBounds b o }:=by
  refine Upd.one ⟨by simp,rfl,rfl,rfl,Nat.le_refl _⟩ (fun b' hb' hn=>?_) (fun b' ob' hb'=>?_) (fun b' hb'=>?_)
  · have:b≠b':=fun e=>by subst e; rw [hb] at hn; cases hn
    simp [Array.getElem?_setIfInBounds,this]
  · unfold setP at hb'
    split at hb'
    · cases hb'
    · rename_i e1
      have:=hw b' ob' hb'
      simp [Array.getElem?_setIfInBounds,Ne.symm e1,this]
  · unfold setP at hb'
    split at hb'
    · exact absurd rfl hb'
    · exact .inl hb'
theorem marks_ok {fn:Func} {tmps:Array Value} {S:Value→World→Prop}:∀ {ms:List Nat} {ds:List Deferred} {h h':AH} {η:PH} {w:World},dropMk ms h=some h'→MK ρ ms ds→HR P ρ h η→η.le w →
    h'.next=h.next∧((∀ η' w',HR P ρ h' η'→Upd [η] [η'] w w'→∃ v,(results fn tmps).run P w'=.ok v w'∧S v w')→MarksQ P fn tmps S ds w)
  | [],ds,h,h',η,w,hd,hm,hr,hw=>by
    cases hd
    cases hm
    exact ⟨rfl,fun k=>k η w hr (upd_refl hw)⟩
  | i::ms,ds,h,h',η,w,hd,hm,hr,hw=>by
    cases hm with
    | @cons _ b s x d _ ds h1 h2 h3 =>
      unfold dropMk at hd
      split at hd
      · rename_i hg
        split at hd
        · rename_i hh hp
          obtain ⟨b',s',x',o,q1,q2,q3⟩:=hr.val i _ hg
          rw [h1] at q1;simp only [Option.some.injEq,Prod.mk.injEq] at q1
          obtain ⟨rfl,rfl,rfl⟩:=q1
          have q3:o=.deferred (some []):=q3
          subst q3
          have hb:=hw b _ q2
          have u1:=upd_drop hw q2 (.deferred none)
          obtain ⟨n1,g1⟩:=marks_ok (fn:=fn) (tmps:=tmps) (S:=S) hd h3 (hr.drop hg hp h1) (u1.own _ (by simp))
          refine ⟨n1.trans (put_next hp),fun k=>⟨b,_,h2,?_,g1 (fun η' w' r1 u=>k η' w' r1 (Upd.comp u1 u))⟩⟩
          simp [Instr.takeDeferred,getObj,setObj,Sem.run,hb]
        · cases hd
      · cases hd
theorem dropMk_next:∀ {ms:List Nat} {h h':AH},dropMk ms h=some h'→h'.next=h.next
  | [],h,h',hd=>by cases hd; rfl
  | i::ms,h,h',hd=>by
    unfold dropMk at hd
    split at hd
    · split at hd
      · rename_i hp; exact (dropMk_next hd).trans (put_next hp)
      · cases hd
    · cases hd
/-! results -/
theorem evRes_ok {fr:Fr} {h:AH} {tmps:Array Value} {F:ResultVar→Sem Value} (f1:∀ t,F (.tmp t)=pure (tmps.getD t undef)) (f2:∀ a t,F (.cell a t)=(do loadVar t (← asAddr (tmps.getD a undef)))) (hr:HR P ρ h η) (hw:η.le w) (hk:FK ρ fr (fun t=>tmps.getD t undef)):∀ {rs:List ResultVar} {l:List Value},evRes fr h P rs=some l →
    ∃ us,rnL ρ l=some us∧(rs.mapM F).run P w=.ok us w
  | [],l,e=>by cases e; exact ⟨[],rfl,rfl⟩
  | .tmp t::rs,l,e=>by
    unfold evRes at e
    split at e
    · rename_i v l' h1 h2
      cases e
      obtain ⟨u,k1,k2⟩:=hk t v h1
      obtain ⟨us,k3,k4⟩:=evRes_ok f1 f2 hr hw hk h2
      simp only at k2
      exact ⟨u::us,rnL_cons.2 ⟨u,us,k1,k3,rfl⟩,by rw [List.mapM_cons,f1,k2]; simp [k4]⟩
    · cases e
  | .cell a t::rs,l,e=>by
    unfold evRes at e
    split at e
    · rename_i n l' ha hs h2
      split at e
      · rename_i v hv
        cases e
        obtain ⟨i,o,e1,_⟩:=evLd_ptr hv
        rw [e1] at hv
        obtain ⟨u,q1,q2⟩:=hk a _ e1
        obtain ⟨b,o',us0,rfl,e4,rfl,e5⟩:=evLdn hr hw hv q1
        obtain ⟨us,k3,k4⟩:=evRes_ok f1 f2 hr hw hk h2
        simp only at q2;refine ⟨_::us,rnL_cons.2 ⟨_,us,e4,k3,rfl⟩,?_⟩;rw [List.mapM_cons,f2,q2]; simp [asAddr,loadVar,Eng.run_isAgg ha,Eng.run_sizeOf hs,loadCells_run e5,k4]
      · cases e
    · rename_i l' ha hs h2
      split at e
      · rename_i v hv
        cases e
        obtain ⟨i,o,e1,_⟩:=evLd_ptr hv
        rw [e1] at hv
        obtain ⟨u,q1,q2⟩:=hk a _ e1
        obtain ⟨b,o',u',rfl,e4,e5⟩:=evLd1 hr hw hv q1
        obtain ⟨us,k3,k4⟩:=evRes_ok f1 f2 hr hw hk h2
        simp only at q2;refine ⟨u'::us,rnL_cons.2 ⟨_,us,e4,k3,rfl⟩,?_⟩;rw [List.mapM_cons,f2,q2]; simp [asAddr,loadVar,Eng.run_isAgg ha,e5,k4]
      · cases e
    · cases e
theorem results_ok {fn:Func} {fr:Fr} {h:AH} {tmps:Array Value} (hr:HR P ρ h η) (hw:η.le w) (hk:FK ρ fr (fun t=>tmps.getD t undef)) {l:List Value} (e:evRes fr h P fn.results.toList=some l) :
    ∃ u,rn ρ (one l)=some u∧(results fn tmps).run P w=.ok u w:=by
  obtain ⟨us,k1,k2⟩:=evRes_ok (F:=fun | .tmp t=>pure (tmps.getD t undef) | .cell a t=>do loadVar t (← asAddr (tmps.getD a undef))) (fun _=>rfl) (fun _ _=>rfl) hr hw hk e
  have hl:=rnL_len k1
  refine ⟨if h:us.toArray.size=1 then us.toArray[0] else .tuple us.toArray,?_,?_⟩
  · match l,us,k1 with
    | [],us,k1=>cases k1; rfl
    | [v],us,k1 =>
      obtain ⟨u,r,q1,q2,rfl⟩:=rnL_cons.1 k1
      cases q2
      exact q1
    | v::v'::l,us,k1 =>
      have hl:us.length=(v::v'::l).length:=rnL_len k1
      have:¬ us.toArray.size=1:=by simp at hl ⊢; omega
      rw [dif_neg this];simp only [one,rn,rnR,k1]
  · have key:∀ G:Sem (List Value),G.run P w=.ok us w→(do let vs ← (List.toArray <$> G); pure (if h:vs.size=1 then vs[0] else .tuple vs):Sem Value).run P w=.ok (if h:us.toArray.size=1 then us.toArray[0] else .tuple us.toArray) w:=fun G hG=>by simp [hG]
    unfold results;rw [Array.mapM_eq_mapM_toList];exact key _ k2
/-! arguments -/
theorem frOf_ok {M:Nat}:∀ {l:List Value} {k:Nat} {fr fr':Fr},frOf M k l fr=some fr'→k+l.length≤M∨l=[]∧True→∀ t v,fr'.get t=some v→(k≤t∧l[t-k]?=some v)∨(fr.get t=some v∧¬ (k≤t∧t<k+l.length))
  | [],k,fr,fr',e,_,t,v,hv=>by cases e; exact .inr ⟨hv,by simp⟩
  | x::l,k,fr,fr',e,hM,t,v,hv=>by
    unfold frOf at e
    split at e
    · rename_i fr1 hp
      have hM':k+(l.length+1)≤M:=by
        rcases hM with h|h
        · simpa using h
        · cases h.1
      rcases frOf_ok e (.inl (by omega)) t v hv with ⟨h1,h2⟩|⟨h1,h2⟩
      · refine .inl ⟨by omega,?_⟩
        rw [show t-k=(t-(k+1))+1 by omega,List.getElem?_cons_succ]; exact h2
      · have hp:(Bool.rec none (Option.rec none (fun v'=>Tr.put 10 fr k (some v')) (fV x)) (Nat.blt k M):Option Fr)=some fr1:=hp
        rw [blt_t.2 (by omega),fV_eq] at hp
        have hp:Tr.put 10 fr k (some x)=some fr1:=hp
        rw [Tr.get_put 10 (some x) fr fr1 k t hp] at h1
        by_cases et:t=k
        · rw [if_pos et] at h1
          subst et
          exact .inl ⟨Nat.le_refl _,by simpa using h1⟩
        · rw [if_neg et] at h1
          exact .inr ⟨h1,by simp; omega⟩
    · cases e
theorem frOf_len {M:Nat}:∀ {l:List Value} {k:Nat} {fr fr':Fr},frOf M k l fr=some fr'→k+l.length≤M∨l=[]∧True
  | [],k,fr,fr',e=>.inr ⟨rfl,trivial⟩
  | x::l,k,fr,fr',e=>by
    unfold frOf at e
    split at e
    · rename_i fr1 hp
      have hk:k<M:=by
        cases hb:Nat.blt k M with
        | true=>exact blt_t.1 hb
        | false =>
          have hp:(Bool.rec none (Option.rec none (fun v'=>Tr.put 10 fr k (some v')) (fV x)) (Nat.blt k M):Option Fr)=some fr1:=hp
          rw [hb] at hp; cases hp
      rcases frOf_len e with h|⟨rfl,_⟩
      · left; simp; omega
      · left; simp; omega
    · cases e
theorem frame0 {M:Nat} {vs us:List Value} {fr:Fr} (e:frOf M 0 vs .e=some fr) (hu:rnL ρ vs=some us):(us.toArray ++ Array.replicate (M-us.toArray.size) undef).size=M∧FK ρ fr (fun t=>(us.toArray ++ Array.replicate (M-us.toArray.size) undef).getD t undef):=by
  have hl:=rnL_len hu
  have hM:=frOf_len e
  refine ⟨?_,fun t v hv=>?_⟩
  · rcases hM with h|⟨rfl,_⟩
    · simp; omega
    · cases hu; simp
  · rcases frOf_ok e hM t v hv with ⟨_,h2⟩|⟨h1,_⟩
    · obtain ⟨u,k1,k2⟩:=rnL_get hu h2
      refine ⟨u,k2,?_⟩;rw [Nat.sub_zero] at k1
      have hlt:=(List.getElem?_eq_some_iff.1 k1).1
      simp only [Array.getD_eq_getD_getElem?]
      rw [Array.getElem?_append_left (by simpa using hlt)]
      simp [k1]
    · cases h1
theorem putL_ok {M:Nat}:∀ {ps:List Nat} {vs us:List Value} {fr fr':Fr} {tmps:Array Value},putL M ps vs fr=some fr'→rnL ρ vs=some us→tmps.size=M→FK ρ fr (fun t=>tmps.getD t undef) →
    ps.length=us.length∧((ps.zip us).foldl (fun tmps (x:Nat × Value)=>tmps.setIfInBounds x.1 x.2) tmps).size=M∧FK ρ fr' (fun t=>((ps.zip us).foldl (fun tmps (x:Nat × Value)=>tmps.setIfInBounds x.1 x.2) tmps).getD t undef)
  | [],[],us,fr,fr',tmps,e,hu,hs,hk=>by cases e; cases hu; exact ⟨rfl,hs,hk⟩
  | [],_::_,us,fr,fr',tmps,e,hu,hs,hk=>by cases e
  | _::_,[],us,fr,fr',tmps,e,hu,hs,hk=>by cases e
  | p::ps,v::vs,us,fr,fr',tmps,e,hu,hs,hk=>by
    unfold putL at e
    split at e
    · rename_i fr1 hp
      obtain ⟨u,r,q1,q2,rfl⟩:=rnL_cons.1 hu
      obtain ⟨g1,g2,_⟩:=FK.put (a:=⟨tmps,[]⟩) (d:=some p) hk hs hp q1
      obtain ⟨k1,k2,k3⟩:=putL_ok (tmps:=tmps.setIfInBounds p u) e q2 g2 g1
      exact ⟨by simp [k1],k2,k3⟩
    · cases e
end
end Go.Ev
namespace Go.Ev
open Go.Eng
section
variable {P : Program} {ρ : Rn} {η : PH} {w : World} {a : Act} {r : Option Nat} {Q : Exit → Act → World → Prop} {h : AH}
theorem new_any (hr : HR P ρ h η) (hw : η.le w) {x : AO} {o : Obj} {h' : AH} (hn : h.new x = some h') (ho : ∀ ρ', ρ.le ρ' → OR P ρ' 0 0 x o) (hf : Fresh ρ h.next h'.next) :
    HR P (setR ρ h.next (w.heap.size, 0, 0)) h' (setP η w.heap.size (some o)) ∧ Upd [η] [setP η w.heap.size (some o)] w (w.alloc o) ∧ Ext ρ (setR ρ h.next (w.heap.size, 0, 0)) h.next h'.next := by
  have hnx := (AH.get_new hn).2
  have hn0 : ρ h.next = none := hf _ (Nat.le_refl _) (by omega)
  refine ⟨hr.new hn hn0 (le_none hw) (ho _ (setR_le hn0)), upd_alloc hw _, setR_le hn0, fun i hi => ?_⟩
  unfold setR at hi
  split at hi
  · rename_i e; exact .inr ⟨by omega, by omega⟩
  · exact .inl hi
theorem hr_loop (hr : HR P ρ h η) (hw : η.le w) {i : Nat} {st : LoopState} {pd : Option Code} {g : FuncId} {fr : Fr} {M : Nat} {ps : Array Tmp} {asg body : Code} (hi : h.get i = some (.loop st pd g fr M ps asg body)) {b s x : Nat} (hρ : ρ i = some (b, s, x)) :
    ∃ r : Loop, η b = some (.loop r) ∧ w.heap[b]? = some (.loop r) ∧ r.state = st ∧ r.pending = pd ∧ r.params = ps ∧ r.assign = asg ∧ r.body = body ∧ r.tmps.size = M ∧ FK ρ fr (fun t => r.tmps.getD t undef) := by
  obtain ⟨b', s', x', o, q1, q2, r, rfl, q3⟩ := hr.val i _ hi
  rw [hρ] at q1;simp only [Option.some.injEq, Prod.mk.injEq] at q1
  obtain ⟨rfl, rfl, rfl⟩ := q1
  exact ⟨r, q2, hw b _ q2, q3⟩
theorem enter_ok {s : St} {cc : Cc} {h1 : AH} (hh : rdH s.h cc.rd = some h1) (hrk : RK ρ cc.rd r) (si : SI P cc.M ρ s η a w) (hf : Fresh ρ s.h.next h1.next) (fnn : FuncId) (ps : Array Tmp) (asg body : Code) :
    ∃ ρ1 η1 w1 mark dd, HR P ρ1 h1 η1 ∧ Upd [η] [η1] w w1 ∧ Ext ρ ρ1 s.h.next h1.next ∧ MK ρ1 (match cc.rd with | none => s.h.next :: s.ms | some _ => s.ms) (mark ++ a.defers) ∧
      (Instr.enterLoop fnn a.tmps ps asg body r).run P w = .ok (w1.heap.size, mark) (w1.alloc (.loop { state := .ready, pending := none, fn := fnn, tmps := a.tmps, params := ps, assign := asg, body := body, defers := dd })) := by
  cases hc : cc.rd with
  | none =>
    rw [hc] at hh hrk
    cases r with
    | some b => exact hrk.elim
    | none =>
      have hh : s.h.new .mark = some h1 := hh
      obtain ⟨k1, k2, k3⟩ := new_any (o := .deferred (some [])) si.hr si.le hh (fun _ _ => rfl) hf
      refine ⟨_, _, w.alloc (.deferred (some [])), [{ target := .collected w.heap.size, args := #[] }], w.heap.size, k1, k2, k3, .cons rn_new rfl (si.mks.mono k3.1), ?_⟩
      simp [Instr.enterLoop]
  | some i =>
    rw [hc] at hh hrk
    cases r with
    | none => exact hrk.elim
    | some b =>
      obtain ⟨s0, x, hρ⟩ := hrk
      unfold rdH at hh
      split at hh
      · rename_i he; cases he
      · rename_i l he
        cases he
        split at hh
        · rename_i hg
          cases hh
          obtain ⟨r, q1, q2, _⟩ := hr_loop si.hr si.le hg hρ
          refine ⟨ρ, η, w, [], r.defers, si.hr, upd_refl si.le, Ext.refl, si.mks, ?_⟩
          simp [Instr.enterLoop, run_getLoop q2]
        · cases hh
theorem exOf_some {s s' : St} {pd : Option Code} {e : Ex} (h : exOf s pd = some (e, s')) : s' = s ∧ ((pd = none ∧ e = .normal) ∨ (∃ id, pd = some (.exit id) ∧ e = .exit id) ∨ (pd = some .ret ∧ e = .ret)) := by
  unfold exOf at h
  split at h
  · cases h; exact ⟨rfl, .inl ⟨rfl, rfl⟩⟩
  · cases h; exact ⟨rfl, .inr (.inl ⟨_, rfl, rfl⟩)⟩
  · cases h; exact ⟨rfl, .inr (.inr ⟨rfl, rfl⟩)⟩
  · cases h
theorem rdH_next {rd : Option Nat} {h1 : AH} (hh : rdH h rd = some h1) : h.next ≤ h1.next := by
  unfold rdH at hh
  split at hh
  · exact new_next hh
  · split at hh
    · cases hh; exact Nat.le_refl _
    · cases hh
theorem range_ok {m : Mac} (hm : MOK P m) {cc : Cc} {g : Operand} {d : Od} (hd : odOf g = some d) {ps : Array Tmp} {asg body : Code} {s s' : St} {e : Ex} (h : stRange m cc (evO s.fr d) ps asg body s = some (e, s')) : s.h.next ≤ s'.h.next ∧
    ∀ ρ η a w r Q, RK ρ cc.rd r → SI P cc.M ρ s η a w → Fresh ρ s.h.next s'.h.next → EndQ P cc.M ρ η w s.h.next e s' Q → (Code.rangeFunc g ps asg body).wpIn (wideR r) 0 P Q a w := by
  unfold stRange at h
  split at h
  · rename_i gf us cs h1 hv hh1
    split at h
    · rename_i h2 hn2
      split at h
      · rename_i v3 h3 hf3
        have n1 := rdH_next hh1
        have n2 : h2.next = h1.next + 1 := (AH.get_new hn2).2
        obtain ⟨n3, g3⟩ := hm.f _ _ _ _ _ hf3
        have key : ∀ (st : LoopState) (pd : Option Code) (f0 : FuncId) (fr0 : Fr) (M0 : Nat) (ps0 : Array Tmp) (asg0 body0 : Code) (h4 : AH), h3.get h1.next = some (.loop st pd f0 fr0 M0 ps0 asg0 body0) → st ≠ .busy → h3.put h1.next none = some h4 →
            exOf ⟨s.fr, h4, (match cc.rd with | none => s.h.next :: s.ms | some _ => s.ms)⟩ pd = some (e, s') → s.h.next ≤ s'.h.next ∧
            ∀ ρ η a w r Q, RK ρ cc.rd r → SI P cc.M ρ s η a w → Fresh ρ s.h.next s'.h.next → EndQ P cc.M ρ η w s.h.next e s' Q → (Code.rangeFunc g ps asg body).wpIn (wideR r) 0 P Q a w := by
          intro st pd f0 fr0 M0 ps0 asg0 body0 h4 hg3 hst hp4 hx
          obtain ⟨rfl, hpd⟩ := exOf_some hx
          have n4 := put_next hp4
          refine ⟨by show s.h.next ≤ h4.next; omega, fun ρ η a w r Q hrk si hfr hq => wpIn_rangeFunc (fun fnn _ => ?_)⟩
          have hfr : Fresh ρ s.h.next h4.next := hfr
          obtain ⟨ρ1, η1, w1, mark, dd, k1, k2, k3, k4, k5⟩ := enter_ok hh1 hrk si (fun i x y => hfr i x (by omega)) fnn ps asg body
          have hfr1 : Fresh ρ1 h1.next h4.next := hfr.after k3 n1
          let rc : Loop := { state := .ready, pending := none, fn := fnn, tmps := a.tmps, params := ps, assign := asg, body := body, defers := dd }
          obtain ⟨q1, q2, q3⟩ := new_any (o := .loop rc) k1 (k2.own _ (by simp)) hn2 (fun ρ' hle => ⟨rc, rfl, rfl, rfl, rfl, rfl, rfl, si.size, (si.fk.mono k3.1).mono hle⟩) (fun i x y => hfr1 i x (by omega))
          have hx2 := k3.trans q3 n1 (by omega)
          have hu2 := Upd.comp k2 q2
          obtain ⟨u, p1, p2⟩ := od_ev trivial (si.fk.toEK #[g]) (by simp) hd hv
          obtain ⟨us', cs', r1, r2, rfl⟩ := fnv_rn p1
          have hle2 := hx2.1
          have hy : rn (setR ρ1 h1.next (w1.heap.size, 0, 0)) (.func (.yield h1.next) ⟨[]⟩ ⟨[]⟩) = some (.func (.yield w1.heap.size) #[] #[]) := by simp [rn, rnF, rnR, rnL, rn_new]
          have hall := rnL_append.2 ⟨_, _, rnL_append.2 ⟨_, _, rnL_mono hle2 r1, rnL_cons.2 ⟨_, [], hy, rnL_nil, rfl⟩, rfl⟩, rnL_mono hle2 r2, rfl⟩
          have hfr2 : Fresh (setR ρ1 h1.next (w1.heap.size, 0, 0)) h2.next h4.next := hfr1.after q3 (by omega)
          obtain ⟨c1, c2⟩ := g3 _ _ _ _ q1 (q2.own _ (by simp)) (fun i x y => hfr2 i x (by omega)) hall
          refine ⟨w1.heap.size, mark, w1.alloc (.loop rc), ⟨.fn (.func gf) cs'.toArray, us'.toArray ++ #[.func (.yield w1.heap.size) #[] #[]]⟩, w1.alloc (.loop rc), gf, (us' ++ [Value.func (.yield w1.heap.size) #[] #[]] ++ cs').toArray, w1.alloc (.loop rc), k5, ?_, fun _ _ => trivial, ?_, fun h => by simp [Fence.wide] at h, ?_⟩
          · have hc : a.eval (.const (.func (.yield w1.heap.size) #[] #[])) = .func (.yield w1.heap.size) #[] #[] := rfl
            simp [resolve, Deferred.ofValue, p2, hc]
          · have : us'.toArray ++ #[Value.func (.yield w1.heap.size) #[] #[]] ++ cs'.toArray = (us' ++ [Value.func (.yield w1.heap.size) #[] #[]] ++ cs').toArray := by simp
            simp only [invoke];rw [this];exact c1
          · refine CallsIn.mono (show CallsIn (wideR r) 0 P gf _ _ _ from c2) ?_
            rintro e3 w3 ⟨u3, rfl, ρ3, η3, s1, s2, s3, s4⟩
            have hρ3 : ρ3 h1.next = some (w1.heap.size, 0, 0) := s4.1 _ _ rn_new
            have hle3 := s3.own η3 (by simp)
            obtain ⟨r', t1, t2, t3, t4, _⟩ := hr_loop s2 hle3 hg3 hρ3
            have hend : (Instr.endLoop w1.heap.size).run P w3 = .ok r'.pending { w3 with heap := w3.heap.setIfInBounds w1.heap.size (.loop { r' with state := .exhausted }) } := by
              simp [Instr.endLoop, run_getLoop t2, run_setLoop t2, t3, hst]
            have u4 := upd_drop hle3 t1 (.loop { r' with state := .exhausted })
            have hr4 := s2.drop hg3 hp4 hρ3
            have hxx : Ext ρ ρ3 s.h.next h4.next := by rw [n4]; exact hx2.trans s4 (by omega) n3
            have hfin : ∀ e', e' = e → Q (exK e') { a with defers := mark ++ a.defers } { w3 with heap := w3.heap.setIfInBounds w1.heap.size (.loop { r' with state := .exhausted }) } := fun e' he => by
              subst he
              exact hq ρ3 (setP η3 w1.heap.size none) _ _ ⟨si.size, si.fk.mono hxx.1, k4.mono (fun i x hi => s4.1 _ _ (q3.1 _ _ hi)), hr4, u4.own _ (by simp)⟩ (Upd.comp (Upd.comp hu2 s3) u4) hxx
            generalize ({ w3 with heap := w3.heap.setIfInBounds w1.heap.size (.loop { r' with state := .exhausted }) } : World) = W at hend hfin
            refine ⟨r'.pending, W, hend, ?_⟩;rw [t4]
            rcases hpd with ⟨hp, he⟩ | ⟨id, hp, he⟩ | ⟨hp, he⟩
            · rw [hp]; exact hfin .normal he.symm
            · rw [hp]; exact wpIn_exit (hfin (.exit id) he.symm)
            · rw [hp]; exact wpIn_ret (hfin .ret he.symm)
        split at h
        · cases h
        · rename_i st pd f0 fr0 M0 ps0 asg0 body0 hnb hg3
          split at h
          · rename_i h4 hp4
            exact key st pd f0 fr0 M0 ps0 asg0 body0 h4 hg3 (fun e => hnb e) hp4 h
          · cases h
        · cases h
      · cases h
    · cases h
  · cases h
theorem stF_ok {orc : CallF} {m : Mac} (hm : MOK P m) (ho : FOK P orc) (hP : ∀ (f : FuncId) (fn : Func), P.funcs[f]? = some fn → (fn.name == "runtime.NumGoroutine") = false) : FOK P (stF P orc m) := by
  intro f vs h v h' hv
  unfold stF at hv
  split at hv
  · rename_i x hx
    cases hv
    exact ho _ _ _ _ _ hx
  · split at hv
    · rename_i fn hfn
      split at hv
      · rename_i c fr hb hfr
        have key : ∀ (e : Ex) (s : St) (h2 : AH) (l : List Value), m.c ⟨f, fn.ntmps, none⟩ c ⟨fr, h, []⟩ = some (e, s) → (∀ i, e ≠ .exit i) → dropMk s.ms s.h = some h2 → evRes s.fr h2 P fn.results.toList = some l → v = one l → h' = h2 →
            h.next ≤ h'.next ∧ ∀ ρ η w us, HR P ρ h η → η.le w → Fresh ρ h.next h'.next → rnL ρ vs = some us →
              (callFunc f us.toArray).run P w = .ok (.enter f us.toArray) w ∧ CallsIn Fence.wide 0 P f us.toArray w (fun e w' => ∃ u, e = .returned u ∧ ∃ ρ' η', rn ρ' v = some u ∧ After P ρ η w h h' ρ' η' w') := by
          intro e s h2 l hc he hd hl hv hh
          subst hv hh
          obtain ⟨n1, g1⟩ := hm.c _ _ _ _ _ hc
          have n2 := dropMk_next hd
          have n1 : h.next ≤ s.h.next := n1
          refine ⟨by omega, fun ρ η w us hr hw hf hu => ⟨?_, ?_⟩⟩
          · have hname' : ¬ fn.name = "runtime.NumGoroutine" := by simpa using hP f fn hfn
            simp [callFunc, program, Sem.run, bind, Sem.bind, pure, hfn, hb, hname']
          · obtain ⟨f1, f2⟩ := frame0 hfr hu
            refine callsIn_of_wp_marks hfn hb trivial ?_
            refine (show c.wpIn (wideR none) 0 P _ _ w from g1 ρ η _ w none _ trivial ⟨f1, f2, .nil, hr, hw⟩ (fun i x y => hf i x (by show i < h'.next; have : i < s.h.next := y; omega)) (fun ρ' η' a' w' si u x => ?_))
            obtain ⟨_, g2⟩ := marks_ok (fn := fn) (tmps := a'.tmps) (S := fun u w' => ∃ ρ' η', rn ρ' (one l) = some u ∧ After P ρ η w h h' ρ' η' w') hd si.mks si.hr si.le
            have hmk := g2 (fun η2 w2 r2 u2 => by
              obtain ⟨uu, t1, t2⟩ := results_ok r2 (u2.own _ (by simp)) si.fk hl
              exact ⟨uu, t2, ρ', η2, t1, r2, Upd.comp u u2, by rw [n2]; exact x⟩)
            cases e with
            | normal => exact hmk.leaves (T := fun e w' => ∃ u, e = .returned u ∧ ∃ ρ' η', rn ρ' (one l) = some u ∧ After P ρ η w h h' ρ' η' w') (fun v w' hS => ⟨v, rfl, hS⟩)
            | ret => exact hmk.leaves (T := fun e w' => ∃ u, e = .returned u ∧ ∃ ρ' η', rn ρ' (one l) = some u ∧ After P ρ η w h h' ρ' η' w') (fun v w' hS => ⟨v, rfl, hS⟩)
            | exit i => exact absurd rfl (he i)
        split at hv
        · cases hv
        · rename_i e s hne hc
          split at hv
          · rename_i h2 hd
            split at hv
            · rename_i l hl
              cases hv
              exact key e s _ l hc (fun i ei => by subst ei; exact hne i rfl) hd hl rfl rfl
            · cases hv
          · cases hv
        · cases hv
      · cases hv
    · cases hv
theorem endL_ok {o1 o2 : AO} {e : Ex} (h : endL e (some o1) = some o2) : ∃ st pd g fr M ps asg body, o1 = .loop st pd g fr M ps asg body ∧ ((e = .normal ∧ o2 = .loop .ready none g fr M ps asg body) ∨ (∃ id, e = .exit id ∧ o2 = .loop .done (some (.exit id)) g fr M ps asg body) ∨ (e = .ret ∧ o2 = .loop .done (some .ret) g fr M ps asg body)) := by
  cases o1 with
  | loop st pd g fr M ps asg body =>
    refine ⟨st, pd, g, fr, M, ps, asg, body, rfl, ?_⟩
    cases e with
    | normal => cases h; exact .inl ⟨rfl, rfl⟩
    | ret => cases h; exact .inr (.inr ⟨rfl, rfl⟩)
    | exit id => cases h; exact .inr (.inl ⟨id, rfl, rfl⟩)
  | _ => cases h
theorem stY_ok {m : Mac} (hm : MOK P m) : YOK P (stY m) := by
  intro l vs h v h' hv
  unfold stY at hv
  split at hv
  · rename_i pd0 g fr M ps asg body hg
    split at hv
    · rename_i fr1 hp1
      split at hv
      · rename_i s1 hc1
        split at hv
        · rename_i pd1 g1 fr1' M1 ps1 asg1 body1 hg1
          split at hv
          · rename_i h2 hp2
            unfold stY2 at hv
            split at hv
            · rename_i e s3 hc2
              split at hv
              · rename_i o3 he3
                split at hv
                · rename_i h4 hp4
                  cases hv
                  obtain ⟨n1, c1⟩ := hm.c _ _ _ _ _ hc1
                  obtain ⟨n2, c2⟩ := hm.c _ _ _ _ _ hc2
                  have n1 : h.next ≤ s1.h.next := n1
                  have n2 : h2.next ≤ s3.h.next := n2
                  have nb := put_next hp2
                  have n4 := put_next hp4
                  refine ⟨by omega, fun ρ η w us b s x hr hw hf hu hρ => ?_⟩
                  obtain ⟨rc, q1, q2, q3, q4, q5, q6, q7, q8, q9⟩ := hr_loop hr hw hg hρ
                  obtain ⟨f1, f2, f3⟩ := putL_ok hp1 hu q8 q9
                  refine ⟨rc.fn, (ps.toList.zip us).foldl (fun tmps (x : Nat × Value) => tmps.setIfInBounds x.1 x.2) rc.tmps, asg, body, w, ?_, ?_⟩
                  · obtain ⟨psl⟩ := ps
                    have f1 : psl.length = us.length := f1
                    simp [Instr.yield, run_getLoop q2, q5, f1, q6, q7]
                  · refine roundIn_of_wpIn (F := Fence.wide) trivial ?_
                    refine (show asg.wpIn (wideR (some b)) 0 P _ _ w from c1 ρ η _ w (some b) _ ⟨s, x, hρ⟩ ⟨f2, f3, .nil, hr, hw⟩ (fun i x y => hf i x (by have : i < s1.h.next := y; omega)) (fun ρ1 η1 a1 w1 si1 u1 x1 => ?_))
                    have hρ1 := x1.1 _ _ hρ
                    obtain ⟨rc1, t1, t2, t3, t4, t5, t6, t7, t8, t9⟩ := hr_loop si1.hr si1.le hg1 hρ1
                    have u2 := upd_put si1.le t1 (o := .loop { rc1 with state := .busy })
                    have hr2 : HR P ρ1 h2 (setP η1 b (some (.loop { rc1 with state := .busy }))) := si1.hr.put hg1 hp2 hρ1 ⟨_, rfl, rfl, t4, t5, t6, t7, t8, t9⟩
                    refine ⟨_, show (Instr.beginRound b).run P w1 = .ok () { w1 with heap := w1.heap.setIfInBounds b (.loop { rc1 with state := .busy }) } from by simp [Instr.beginRound, run_getLoop t2, run_setLoop t2, t3], ?_⟩
                    have x1 : Ext ρ ρ1 h.next s1.h.next := x1
                    refine (show body.wpIn (wideR (some b)) 0 P _ _ _ from c2 ρ1 _ _ _ (some b) _ ⟨s, x, hρ1⟩ ⟨si1.size, si1.fk, si1.mks, hr2, u2.own _ (by simp)⟩ (fun i x y => (hf.after x1 n1) i (by have : h2.next ≤ i := x; omega) (by have : i < s3.h.next := y; omega)) (fun ρ3 η3 a3 w3 si3 u3 x3 => ?_))
                    have x3 : Ext ρ1 ρ3 h2.next s3.h.next := x3
                    have hρ3 := x3.1 _ _ hρ1
                    cases hg3 : s3.h.get l with
                    | none => rw [hg3] at he3; cases he3
                    | some o1 =>
                      rw [hg3] at he3
                      obtain ⟨st, pd, g3, fr3, M3, ps3, asg3, body3, rfl, ho3⟩ := endL_ok he3
                      obtain ⟨rc3, v1, v2, v3, v4, v5, v6, v7, v8, v9⟩ := hr_loop si3.hr si3.le hg3 hρ3
                      have xx : Ext ρ ρ3 h.next h'.next := by
                        rw [n4]; rw [nb] at x3
                        exact x1.trans x3 n1 (by omega)
                      have fin : ∀ (jump : Option Code), OR P ρ3 s x o3 (.loop { rc3 with state := if jump.isNone then .ready else .done, pending := jump }) → isN e = jump.isNone →
                          ∃ v w', (Instr.endRound b jump).run P w3 = .ok v w' ∧ (∃ u, Ending.returned v = .returned u ∧ ∃ ρ' η', rn ρ' (.bool (isN e)) = some u ∧ After P ρ η w h h' ρ' η' w') := fun jump hor hj => by
                        have u4 := upd_put si3.le v1 (o := .loop { rc3 with state := if jump.isNone then .ready else .done, pending := jump })
                        exact ⟨_, _, run_endRound jump v2, _, rfl, ρ3, _, by rw [hj]; rfl, si3.hr.put hg3 hp4 hρ3 hor, Upd.comp (Upd.comp (Upd.comp u1 u2) u3) u4, xx⟩
                      rcases ho3 with ⟨rfl, rfl⟩ | ⟨id, rfl, rfl⟩ | ⟨rfl, rfl⟩
                      · exact fin none ⟨_, rfl, rfl, rfl, v5, v6, v7, v8, v9⟩ rfl
                      · exact fin (some (.exit id)) ⟨_, rfl, rfl, rfl, v5, v6, v7, v8, v9⟩ rfl
                      · exact fin (some .ret) ⟨_, rfl, rfl, rfl, v5, v6, v7, v8, v9⟩ rfl
                · cases hv
              · cases hv
            · cases hv
          · cases hv
        · cases hv
      · cases hv
    · cases hv
  · cases hv
end
end Go.Ev
namespace Go.Ev
open Go.Eng
section
variable {P:Program} {ρ:Rn} {fr:Fr} {ev:Operand→Value} {w:World} {h:AH} {η:PH}
def NOK (P:Program) (ρ:Rn) (ev:Operand→Value) (w:World) (h:AH) (o:Oper) (v:Value) (h':AH):Prop:=
  ∃ x ob u,h.new x=some h'∧(execOp ev o).run P w=.ok (.value u) (w.alloc ob)∧rn (setR ρ h.next (w.heap.size,0,0)) v=some u∧∀ ρ',ρ.le ρ'→OR P ρ' 0 0 x ob
theorem or_cells {l us:List Value} {e:TypeId} (hl:rnL ρ l=some us):∀ ρ',ρ.le ρ'→OR P ρ' 0 0 (.cells l e) (.cells us.toArray e (0,0)):=fun _ hle =>
  ⟨[],us,[],(0,0),0,by simp,rnL_mono hle hl,rfl,rfl,.inl rfl,noFz0 _⟩
theorem n_alloc {dst:Option Tmp} {t ty:TypeId} {pos:String} {aft:Array Edge} {g:Option (Nat × Bool)} {wr:Wr} {v:Value} {h':AH} (hi:inOf P ⟨dst,.alloc t,ty,pos,aft,g⟩=some (.wr wr)) (hv:evWr fr h wr=some (v,h')):NOK P ρ ev w h ⟨dst,.alloc t,ty,pos,aft,g⟩ v h':=by
  simp only [inOf,Option.map_eq_some_iff] at hi
  obtain ⟨zs,hz,e⟩:=hi
  cases e
  obtain ⟨i,e1,rfl⟩:=ptrN_some (show ptrN (newC h t zs)=some (v,h') from hv)
  obtain ⟨rfl,e2⟩:=newC_some e1
  obtain ⟨z,z1,z2,z3⟩:=zsP_some (ρ:=ρ) hz
  refine ⟨_,.cells zs.toArray t (0,0),.pointer (some ⟨w.heap.size,0,none⟩),e2,?_,by simp [rn,rnA,rn_new],or_cells z3⟩
  have hz2:zs.toArray=z.cells:=by rw [← z2]
  rw [hz2]
  simp [execOp,Instr.alloc,run_zeroValue z1,newVar,newRow,newObj]
  rfl
theorem n_box {dst:Option Tmp} {t ty:TypeId} {x:Operand} {pos:String} {aft:Array Edge} {g:Option (Nat × Bool)} {wr:Wr} {v:Value} {h':AH} (hi:inOf P ⟨dst,.box t x,ty,pos,aft,g⟩=some (.wr wr)) (hv:evWr fr h wr=some (v,h')) (hk:EK ρ fr ev #[x]):NOK P ρ ev w h ⟨dst,.box t x,ty,pos,aft,g⟩ v h':=by
  simp only [inOf,Option.map_eq_some_iff] at hi
  obtain ⟨d,hd,e⟩:=hi
  cases e
  have hv:wrBox h t (evO fr d)=some (v,h'):=hv
  unfold wrBox at hv
  split at hv
  · rename_i a ha
    obtain ⟨i,e1,rfl⟩:=ptrN_some hv
    obtain ⟨rfl,e2⟩:=newC_some e1
    obtain ⟨u,q1,q2⟩:=od_ev trivial hk (by simp) hd ha
    refine ⟨_,.cells u.cells.toList.toArray t (0,0),.pointer (some ⟨w.heap.size,0,none⟩),e2,?_,by simp [rn,rnA,rn_new],or_cells (rn_cl q1)⟩
    simp [execOp,Instr.box,q2,newVar,newRow,newObj]
    rfl
  · cases hv
theorem n_bsl {dst:Option Tmp} {ty:TypeId} {pos:String} {aft:Array Edge} {g:Option (Nat × Bool)} {t:TypeId} {n0:Nat} {ps:Array (Nat × Operand)} {wr:Wr} {v:Value} {h':AH} (hi:inOf P ⟨dst,.buildSlice t n0 ps,ty,pos,aft,g⟩=some (.wr wr)) (hv:evWr fr h wr=some (v,h')) (hk:EK ρ fr ev (Op.buildSlice t n0 ps).operands) :
    NOK P ρ ev w h ⟨dst,.buildSlice t n0 ps,ty,pos,aft,g⟩ v h':=by
  have hx:∀ x∈ps.toList.map (·.2),x∈(Op.buildSlice t n0 ps).operands:=fun x hx=>by simpa [Op.operands] using hx
  have hps:ps.map (fun (x:Nat × Operand)=>(x.1,ev x.2))=(ps.toList.map fun (x:Nat × Operand)=>(x.1,ev x.2)).toArray:=by
    rw [← Array.toList_map]
  simp only [inOf] at hi
  split at hi
  · rename_i e ht
    split at hi
    · rename_i s zs hs hz
      cases hb:zs.length.beq s with
      | false=>rw [hb] at hi; cases hi
      | true =>
        rw [hb] at hi;simp only [cond_true,Option.map_eq_some_iff] at hi
        obtain ⟨qs,hq,e1⟩:=hi
        cases e1
        have hv:wrBsl h e n0 s (fillO (rep zs n0) (evPs fr qs))=some (v,h'):=hv
        unfold wrBsl at hv
        split at hv
        · rename_i cs hcs
          cases hle0:(Nat.ble (n0*s) 16777216 && Nat.blt n0 big) with
          | false=>rw [hle0] at hv; cases hv
          | true =>
            rw [hle0] at hv;simp only [cond_true] at hv
            obtain ⟨hle,hlt⟩:=Bool.and_eq_true_iff.1 hle0
            obtain ⟨i,e1,rfl⟩:=slcN_some hv
            obtain ⟨rfl,e2⟩:=newC_some e1
            unfold fillO at hcs
            split at hcs
            · rename_i l hl
              obtain ⟨z,z1,z2,z3⟩:=zsP_some (ρ:=ρ) hz
              have hzl:=Nat.eq_of_beq_eq_true hb
              obtain ⟨r',f1,f2⟩:=fill_ev trivial hk (plcA_ok hq) hx hl hcs (rnL_rep z3 n0)
              have hbig:n0<big:=blt_t.1 hlt
              refine ⟨_,.cells r'.toArray e (0,0),.slice (some ⟨w.heap.size,0,none⟩) n0 n0,e2,?_,by rw [rn_sl1 rn_new hbig],or_cells f1⟩
              have hzs:z.cells.size=s:=by rw [← Array.length_toList,z2,hzl]
              have hmade:=made_rep (n:=n0) hzs
              rw [z2] at hmade;rw [← hmade] at f2
              by_cases h0:n0*s=0
              · have hz0:madeCells z.cells (n0*s) = #[]:=by rw [h0]; simp [madeCells]
                rw [hz0] at f2;simp only [execOp,Instr.buildSlice]
                have hz1:(Array.range 0:Array Nat) = #[]:=rfl
                simp [run_underlying ht,Eng.run_sizeOf hs,h0,newRow,hz1,f2]
              · simp only [execOp,Instr.buildSlice]
                simp only [madeCells] at f2
                simp [run_underlying ht,Eng.run_sizeOf hs,run_zeroValue z1,h0,Nat.not_lt.2 (Nat.le_of_ble_eq_true hle),newRow,f2]
            · cases hcs
        · cases hv
    · cases hi
  · cases hi
theorem new_ok {cf:CallF} {yf:YF} {o:Oper} {i:In} {v:Value} {h':AH} (hi:inOf P o=some i) (hc:clsI i=2) (hv:evIn cf yf fr h i=some (v,h')) (hk:EK ρ fr ev o.op.operands):NOK P ρ ev w h o v h':=by
  have hw:(∃ t zs,i=.wr (.alc t zs))∨(∃ t x,i=.wr (.box t x))∨∃ t n s zs ps,i=.wr (.bsl t n s zs ps):=by
    unfold clsI at hc
    split at hc
    all_goals first|(cases hc; done)|exact .inl ⟨_,_,rfl⟩|exact .inr (.inl ⟨_,_,rfl⟩)|exact .inr (.inr ⟨_,_,_,_,_,rfl⟩)
  have hrd:∃ wr,i=.wr wr:=by
    rcases hw with ⟨t,zs,rfl⟩|⟨t,x,rfl⟩|⟨t,n,s,zs,ps,rfl⟩ <;> exact ⟨_,rfl⟩
  cases ha:actO o.op with
  | false =>
    have:=rd_op hi ha
    obtain ⟨wr,rfl⟩:=hrd
    cases this
  | true =>
    obtain ⟨wr,rfl⟩:=hrd
    have hv:evWr fr h wr=some (v,h'):=hv
    obtain ⟨dst,op,ty,pos,aft,g⟩:=o
    cases op with
    | store t a b =>
      exfalso
      simp only [inOf] at hi
      repeat' split at hi
      all_goals cases hi
    | alloc x=>exact n_alloc hi hv
    | box t x=>exact n_box hi hv hk
    | buildSlice t n ps=>exact n_bsl hi hv hk
    | makeSlice t n x =>
      exfalso
      simp only [inOf] at hi
      split at hi
      · split at hi
        · rename_i s b zs _ _ _
          cases hz:zs.length.beq s <;> rw [hz] at hi <;> cases hi
          rcases hw with ⟨t,zs,e⟩|⟨t,x,e⟩|⟨t,n,s,zs,ps,e⟩ <;> cases e
        · cases hi
      · cases hi
    | makeMap t r =>
      cases r with
      | none =>
        cases hi
        rcases hw with ⟨t,zs,e⟩|⟨t,x,e⟩|⟨t,n,s,zs,ps,e⟩ <;> cases e
      | some r=>cases hi
    | mapUpdate t m k x =>
      exfalso
      simp only [inOf] at hi
      repeat' split at hi
      all_goals first|(cases hi; done)|(cases hi; rcases hw with ⟨t,zs,e⟩|⟨t,x,e⟩|⟨t,n,s,zs,ps,e⟩ <;> cases e)
    | insert t m k x =>
      exfalso
      simp only [inOf] at hi
      repeat' split at hi
      all_goals first|(cases hi; done)|(cases hi; rcases hw with ⟨t,zs,e⟩|⟨t,x,e⟩|⟨t,n,s,zs,ps,e⟩ <;> cases e)
    | convert s d x =>
      exfalso
      simp only [inOf] at hi
      split at hi
      · unfold inConv at hi
        repeat' split at hi
        all_goals first|(cases hi; done)|(cases hi; rcases hw with ⟨t,zs,e⟩|⟨t,x,e⟩|⟨t,n,s,zs,ps,e⟩ <;> cases e)
      · cases hi
    | call c =>
      exfalso
      rcases inCall_k hi with ⟨f,xs,e⟩|⟨b,hb,e⟩
      · cases e
      · rcases inCallB_k e with ⟨m,e⟩|⟨hbb,m,e'⟩
        · cases e
        · rcases hbb with rfl|rfl|rfl
          · obtain ⟨_,_,_,_,_,_,_,_,_,_,_,_,_,_,_,_,e2⟩:=app_in e
            cases e2
            rcases hw with ⟨t,zs,e⟩|⟨t,x,e⟩|⟨t,n,s,zs,ps,e⟩ <;> cases e
          · obtain ⟨_,_,_,_,_,_,_,_,_,_,e2⟩:=cpy_in e
            cases e2
            rcases hw with ⟨t,zs,e⟩|⟨t,x,e⟩|⟨t,n,s,zs,ps,e⟩ <;> cases e
          · obtain ⟨_,_,_,_,_,_,_,_,_,_,_,e2⟩:=clr_in e
            cases e2
            rcases hw with ⟨t,zs,e⟩|⟨t,x,e⟩|⟨t,n,s,zs,ps,e⟩ <;> cases e
    | _=>cases ha
end
end Go.Ev
namespace Go.Ev
open Go.Eng
theorem hasB_eq (m i:Nat):hasB m i=m.testBit i:=by
  unfold hasB
  have h1:Nat.shiftRight m i=m / 2 ^ i:=Nat.shiftRight_eq_div_pow m i
  rw [h1,Nat.testBit_eq_decide_div_mod_eq,nbeq]
theorem tb_bit (i j:Nat):(bit i).testBit j=true↔j=i:=by
  have h1:bit i=2 ^ i:=by unfold bit; show 1 <<< i=_; rw [Nat.shiftLeft_eq,Nat.one_mul]
  rw [h1,Nat.testBit_two_pow]
  simp; exact eq_comm
theorem tb_or (a b j:Nat):(Nat.lor a b).testBit j=true↔a.testBit j=true∨b.testBit j=true:=by
  have:Nat.lor a b=a ||| b:=rfl
  rw [this,Nat.testBit_or,Bool.or_eq_true]
theorem subB_ok {a b:Nat} (h:subB a b=true) (j:Nat) (hj:a.testBit j=true):b.testBit j=true:=by
  have h1:Nat.land a b=a:=Nat.eq_of_beq_eq_true h
  have h2:Nat.land a b=a &&& b:=rfl
  rw [← h1,h2,Nat.testBit_and,Bool.and_eq_true] at hj;exact hj.2
theorem tb_mask:∀ (l:List Nat) (j:Nat),(maskOf l).testBit j=true↔j∈l
  | [],j=>by simp [maskOf]
  | i::l,j=>by
    have e:maskOf (i::l)=Nat.lor (bit i) (maskOf l):=rfl
    rw [e,tb_or,tb_bit,tb_mask l j]; simp
theorem tb_anc {an:Tr Nat} {m:Nat}:∀ (ps:List Nat) (j:Nat),(ancOf an ps m).testBit j=true→m.testBit j=true∨∃ k∈ps,∃ x,an.get k=some x∧x.testBit j=true
  | [],j,h=>.inl h
  | k::ps,j,h=>by
    have h:(Option.rec (ancOf an ps m) (fun x=>Nat.lor x (ancOf an ps m)) (an.get k):Nat).testBit j=true:=h
    cases e:an.get k with
    | none =>
      rw [e] at h
      rcases tb_anc ps j h with h|⟨k',h1,h2⟩
      · exact .inl h
      · exact .inr ⟨k',by simp [h1],h2⟩
    | some x =>
      rw [e] at h
      rcases (tb_or _ _ _).1 h with h|h
      · exact .inr ⟨k,by simp,x,e,h⟩
      · rcases tb_anc ps j h with h|⟨k',h1,h2⟩
        · exact .inl h
        · exact .inr ⟨k',by simp [h1],h2⟩
structure DK (P:Program) (ops:Array Oper) (d:DOp):Prop where
  o:∃ o,ops[d.i]?=some o∧op1 P ops o=some d.q∧d.ps=predsO o∧d.rs=readsOf ops o
  pm:d.pm=maskOf d.ps
  k:d.k=clsI d.q.i
theorem dops_ok {P:Program} {ops:Array Oper}:∀ {l:List Oper} {k:Nat} {r:List DOp},dops P ops k l=some r→(∀ j,l[j]?=ops[k+j]?)→r.length=l.length∧∀ d∈r,DK P ops d∧k≤d.i
  | [],k,r,h,_=>by cases h; exact ⟨rfl,fun d hd=>by cases hd⟩
  | o::l,k,r,h,hl=>by
    unfold dops at h;rw [fN_eq] at h
    split at h
    · rename_i q i' h1 h2
      cases h2
      split at h
      · rename_i r' h3
        cases h
        obtain ⟨k1,k2⟩:=dops_ok h3 (fun j=>by have:=hl (j+1); rw [List.getElem?_cons_succ] at this; rw [this]; congr 1; omega)
        refine ⟨by simp [k1],fun d hd=>?_⟩
        rcases List.mem_cons.1 hd with rfl|hd
        · exact ⟨⟨⟨o,by have:=hl 0; simpa using this.symm,h1,rfl,rfl⟩,rfl,rfl⟩,Nat.le_refl _⟩
        · have:=k2 d hd; exact ⟨this.1,by omega⟩
      · cases h
    · cases h
theorem slots_cons {d:DOp} {l:List DOp} {t:Tr Nat} (h:slots (d::l)=some t):∃ t0,slots l=some t0∧((d.q.d=none∧t=t0)∨∃ s,d.q.d=some s∧t0.get s=none∧Tr.put 12 t0 s (some d.i)=some t):=by
  have h:(Option.rec none (fun t=>Option.rec (some t) (fun s=>Option.rec (Tr.put 12 t s (some d.i)) (fun _=>none) (Tr.get t s)) d.q.d) (slots l):Option (Tr Nat))=some t:=h
  cases e:slots l with
  | none=>rw [e] at h; cases h
  | some t0 =>
    rw [e] at h;refine ⟨t0,rfl,?_⟩
    cases ed:d.q.d with
    | none=>rw [ed] at h; cases h; exact .inl ⟨rfl,rfl⟩
    | some s =>
      rw [ed] at h;simp only at h
      cases eg:t0.get s with
      | none=>rw [eg] at h; exact .inr ⟨s,rfl,eg,h⟩
      | some x=>rw [eg] at h; cases h
theorem slots_ok:∀ {l:List DOp} {t:Tr Nat},slots l=some t→∀ d∈l,∀ s,d.q.d=some s→t.get s=some d.i
  | [],t,h,d,hd,s,hs=>by cases hd
  | x::l,t,h,d,hd,s,hs=>by
    obtain ⟨t0,h0,h1⟩:=slots_cons h
    rcases List.mem_cons.1 hd with rfl|hd
    · rcases h1 with ⟨h1,rfl⟩|⟨s',h1,h2,h3⟩
      · rw [hs] at h1; cases h1
      · rw [hs] at h1; cases h1
        rw [Tr.get_put 12 _ _ _ s s h3,if_pos rfl]
    · have:=slots_ok h0 d hd s hs
      rcases h1 with ⟨h1,rfl⟩|⟨s',h1,h2,h3⟩
      · exact this
      · rw [Tr.get_put 12 _ _ _ s' s h3]
        by_cases e:s=s'
        · subst e; rw [h2] at this; cases this
        · rw [if_neg e]; exact this
theorem rdsOK_ok {sl:Tr Nat} {pm:Nat}:∀ {rs:List Nat},rdsOK sl pm rs=true→∀ t∈rs,∀ j,sl.get t=some j→pm.testBit j=true
  | [],h,t,ht,j,hj=>by cases ht
  | x::rs,h,t,ht,j,hj=>by
    have h:(Option.rec (rdsOK sl pm rs) (fun j=>Bool.rec false (rdsOK sl pm rs) (hasB pm j)) (sl.get x):Bool)=true:=h
    have hr:rdsOK sl pm rs=true∧∀ j,sl.get x=some j→pm.testBit j=true:=by
      cases e:sl.get x with
      | none=>rw [e] at h; exact ⟨h,fun j hj=>by cases hj⟩
      | some y =>
        rw [e] at h;simp only at h
        cases eb:hasB pm y with
        | false=>rw [eb] at h; cases h
        | true=>rw [eb] at h; exact ⟨h,fun j hj=>by cases hj; rw [← hasB_eq]; exact eb⟩
    rcases List.mem_cons.1 ht with rfl|ht
    · exact hr.2 j hj
    · exact rdsOK_ok hr.1 t ht j hj
abbrev Sch:=List (DOp × Nat)
def idxS (A:Sch):List Nat:=A.map (·.1.i)
def Down (X:Nat→Prop) (A:Sch):Prop:=∀ y∈A,X y.1.i→∀ j∈y.1.ps,X j
structure Good1 (sl:Tr Nat) (A:Sch) (x:DOp × Nat):Prop where
  pre:∀ j∈x.1.ps,j∈idxS A
  new:x.1.i∉idxS A
  anc:∀ X,Down X A→(∀ j∈x.1.ps,X j)→∀ j,hasB x.2 j=true→X j
  eff:(x.1.k=1∨x.1.k=3)→∀ y∈A,effK y.1.k=true→hasB x.2 y.1.i=true
  rds:∀ t∈x.1.rs,∀ j,sl.get t=some j→j∈x.1.ps
def Good (full:Nat) (sl:Tr Nat):Sch→Sch→Prop
  | A,[]=>∀ j,full.testBit j=true→j∈idxS A
  | A,x::r=>Good1 sl A x∧Good full sl (A ++ [x]) r
theorem natrec0 {α:Type} {x:Option α} {n:Nat} {r:α} (h:(Nat.rec (motive:=fun _=>Option α) x (fun _ _=>none) n:Option α)=some r):n=0∧x=some r:=by
  cases n with
  | zero=>exact ⟨rfl,h⟩
  | succ n=>cases h
theorem ckAll_cons {full:Nat} {sl:Tr Nat} {d:DOp} {l:List DOp} {dn eff:Nat} {an:Tr Nat} {r:Sch} (h:ckAll full sl (d::l) dn eff an=some r) :
    ∃ an' r',dn.testBit d.i=false∧subB d.pm dn=true∧ckK d.k eff (ancOf an d.ps d.pm)=true∧rdsOK sl d.pm d.rs=true∧Tr.put 8 an d.i (some (ancOf an d.ps d.pm))=some an' ∧
      ckAll full sl l (Nat.lor dn (bit d.i)) (Bool.rec eff (Nat.lor eff (bit d.i)) (effK d.k)) an'=some r'∧r=(d,ancOf an d.ps d.pm)::r':=by
  have h:(Nat.rec (motive:=fun _=>Option (List (DOp × Nat)))
      (Bool.rec none (Option.rec none (fun an'=>Option.rec none (fun r=>some ((d,ancOf an d.ps d.pm)::r)) (ckAll full sl l (Nat.lor dn (bit d.i)) (Bool.rec eff (Nat.lor eff (bit d.i)) (effK d.k)) an')) (Tr.put 8 an d.i (some (ancOf an d.ps d.pm))))
        (subB d.pm dn && ckK d.k eff (ancOf an d.ps d.pm) && rdsOK sl d.pm d.rs))
      (fun _ _=>none) (Nat.shiftRight dn d.i % 2):Option (List (DOp × Nat)))=some r:=h
  have hb:dn.testBit d.i=decide (Nat.shiftRight dn d.i % 2=1):=by
    rw [Nat.testBit_eq_decide_div_mod_eq]
    have h1:Nat.shiftRight dn d.i=dn / 2 ^ d.i:=Nat.shiftRight_eq_div_pow dn d.i
    rw [h1]
  obtain ⟨e,h⟩:=natrec0 h
  · rw [e] at hb
    cases e2:(subB d.pm dn && ckK d.k eff (ancOf an d.ps d.pm) && rdsOK sl d.pm d.rs) with
    | false=>rw [e2] at h; cases h
    | true =>
      rw [e2] at h;simp only [Bool.and_eq_true] at h e2
      cases e3:Tr.put 8 an d.i (some (ancOf an d.ps d.pm)) with
      | none=>rw [e3] at h; cases h
      | some an' =>
        rw [e3] at h;simp only at h
        cases e4:ckAll full sl l (Nat.lor dn (bit d.i)) (Bool.rec eff (Nat.lor eff (bit d.i)) (effK d.k)) an' with
        | none=>rw [e4] at h; cases h
        | some r' =>
          rw [e4] at h;simp only [Option.some.injEq] at h
          exact ⟨an',r',by rw [hb]; rfl,e2.1.1,e2.1.2,e2.2,rfl,e4,h.symm⟩
theorem ckAll_ok {full:Nat} {sl:Tr Nat}:∀ {l:List DOp} {dn eff:Nat} {an:Tr Nat} {r A:Sch},ckAll full sl l dn eff an=some r→(∀ d∈l,d.pm=maskOf d.ps) →
    (∀ j,dn.testBit j=true↔j∈idxS A)→(∀ y∈A,effK y.1.k=true→eff.testBit y.1.i=true) →
    (∀ i m,an.get i=some m→∃ y∈A,y.1.i=i∧∀ X,Down X A→(∀ j∈y.1.ps,X j)→∀ j,m.testBit j=true→X j)→r.map (·.1)=l∧Good full sl A r
  | [],dn,eff,an,r,A,h,_,h1,_,_=>by
    have h:(Bool.rec none (some []) (Nat.beq dn full):Option Sch)=some r:=h
    cases e:Nat.beq dn full with
    | false=>rw [e] at h; cases h
    | true =>
      rw [e] at h; cases h
      have:=Nat.eq_of_beq_eq_true e
      subst this
      exact ⟨rfl,fun j hj=>(h1 j).1 hj⟩
  | d::l,dn,eff,an,r,A,h,hp,h1,h2,h3=>by
    obtain ⟨an',r',k1,k2,k3,k4,k5,k6,rfl⟩:=ckAll_cons h
    have hpm:=hp d (by simp)
    have hanc:∀ X,Down X A→(∀ j∈d.ps,X j)→∀ j,(ancOf an d.ps d.pm).testBit j=true→X j:=fun X hX hd j hj=>by
      rcases tb_anc _ _ hj with h|⟨k,hk,x,hx,hj⟩
      · rw [hpm] at h; exact hd j ((tb_mask _ _).1 h)
      · obtain ⟨y,hy,hyi,hyX⟩:=h3 k x hx
        exact hyX X hX (hX y hy (by rw [hyi]; exact hd k hk)) j hj
    have hdn:∀ (X:Nat→Prop) (A':Sch),Down X (A ++ A')→Down X A:=fun X A' hX y hy=>hX y (by simp [hy])
    obtain ⟨g1,g2⟩:=ckAll_ok (A:=A ++ [(d,ancOf an d.ps d.pm)]) k6 (fun d' hd'=>hp d' (by simp [hd'])) (fun j=>by
        rw [tb_or,tb_bit,h1 j]; simp [idxS]) (fun y hy he=>by
        rcases List.mem_append.1 hy with hy|hy
        · have:=h2 y hy he
          cases effK d.k with
          | true=>exact (tb_or _ _ _).2 (.inl this)
          | false=>exact this
        · simp at hy; subst hy
          rw [show effK d.k=true from he]
          exact (tb_or _ _ _).2 (.inr ((tb_bit _ _).2 rfl))) (fun i m hm=>by
        rw [Tr.get_put 8 _ _ _ d.i i k5] at hm
        by_cases e:i=d.i
        · rw [if_pos e] at hm; cases hm
          exact ⟨(d,ancOf an d.ps d.pm),by simp,e.symm,fun X hX hd j hj=>hanc X (hdn X _ hX) hd j hj⟩
        · rw [if_neg e] at hm
          obtain ⟨y,hy,hyi,hyX⟩:=h3 i m hm
          exact ⟨y,by simp [hy],hyi,fun X hX=>hyX X (hdn X _ hX)⟩)
    refine ⟨by simp [g1],⟨?_,?_,?_,?_,?_⟩,g2⟩
    · intro j hj
      exact (h1 j).1 (subB_ok k2 j (by rw [hpm]; exact (tb_mask _ _).2 hj))
    · intro hj
      have:=(h1 d.i).2 hj
      rw [k1] at this; cases this
    · intro X hX hd j hj
      rw [hasB_eq] at hj;exact hanc X hX hd j hj
    · intro hk y hy he
      have:=h2 y hy he
      rw [hasB_eq]
      have hs:subB eff (ancOf an d.ps d.pm)=true:=by
        unfold ckK at k3
        rcases hk with hk|hk <;> rw [hk] at k3 <;> exact k3
      exact subB_ok hs _ this
    · intro t ht j hj
      have:=rdsOK_ok k4 t ht j hj
      rw [hpm] at this;exact (tb_mask _ _).1 this
theorem pickD_mem {p:DOp→Bool}:∀ {l:List DOp} {d:DOp} {r:List DOp},pickD p l=some (d,r)→d∈l∧∀ x∈r,x∈l
  | [],d,r,h=>by cases h
  | x::l,d,r,h=>by
    unfold pickD at h
    cases e:p x with
    | true=>rw [e,cond_true] at h; cases h; exact ⟨by simp,fun y hy=>by simp [hy]⟩
    | false =>
      rw [e,cond_false] at h
      split at h
      · rename_i y r' h1
        cases h
        obtain ⟨k1,k2⟩:=pickD_mem h1
        refine ⟨by simp [k1],fun z hz=>?_⟩
        rcases List.mem_cons.1 hz with rfl|hz
        · simp
        · simp [k2 z hz]
      · cases h
theorem ordG_mem {an:Tr Nat}:∀ {f dn:Nat} {l:List DOp},∀ d∈ordG an f dn l,d∈l
  | 0,dn,l,d,hd=>by cases hd
  | f+1,dn,l,d,hd=>by
    unfold ordG at hd
    split at hd
    · rename_i x r h1
      obtain ⟨k1,k2⟩:=pickD_mem h1
      rcases List.mem_cons.1 hd with rfl|hd
      · exact k1
      · exact k2 d (ordG_mem d hd)
    · split at hd
      · rename_i x r h1
        obtain ⟨k1,k2⟩:=pickD_mem h1
        rcases List.mem_cons.1 hd with rfl|hd
        · exact k1
        · exact k2 d (ordG_mem d hd)
      · cases hd
structure Sched (P:Program) (ops:Array Oper) (sl:Tr Nat) (r:Sch):Prop where
  dk:∀ x∈r,DK P ops x.1
  good:Good (Nat.sub (bit ops.size) 1) sl [] r
  slot:∀ x∈r,∀ s,x.1.q.d=some s→sl.get s=some x.1.i
theorem ckO_ok {P:Program} {ops:Array Oper} {l l':List DOp} {r:Sch} (hl:∀ d∈l,DK P ops d) (hl':∀ d∈l',d∈l) (h:ckO (slots l) ops.size l'=some r):∃ sl,Sched P ops sl r:=by
  unfold ckO at h
  split at h
  · rename_i sl hs
    obtain ⟨k1,k2⟩:=ckAll_ok (A:=[]) h (fun d hd=>(hl d (hl' d hd)).pm) (fun j=>by simp [idxS]) (fun y hy=>by cases hy) (fun i m hm=>by cases hm)
    have hm:∀ x∈r,x.1∈l:=fun x hx=>hl' _ (by rw [← k1]; exact List.mem_map.2 ⟨x,hx,rfl⟩)
    exact ⟨sl,fun x hx=>hl _ (hm x hx),k2,fun x hx s hs'=>slots_ok hs _ (hm x hx) s hs'⟩
  · cases h
theorem drawn_ok {P:Program} {ops:Array Oper} {r:Sch} (h:drawn (dops P ops 0 ops.toList)=some r):∃ sl,Sched P ops sl r:=by
  unfold drawn at h
  split at h
  · rename_i l hl
    obtain ⟨k1,k2⟩:=dops_ok hl (fun j=>by simp)
    have hn:l.length=ops.size:=by simpa using k1
    rw [hn] at h
    have hd:∀ d∈l,DK P ops d:=fun d hd=>(k2 d hd).1
    split at h
    · rename_i r' hr
      cases h
      exact ckO_ok hd (fun d hd=>hd) hr
    · unfold drawn2 at h
      split at h
      · rw [hn] at h
        exact ckO_ok hd (fun d hd=>ordG_mem d hd) h
      · cases h
  · cases h
end Go.Ev
namespace Go.Ev
open Go.Eng
/-! values that are said to be the same are the same -/
theorem beA_eq {a b:Option Addr} (h:beA a b=true):a=b:=by
  unfold beA at h
  split at h
  · rw [Bool.and_eq_true] at h
    have h1:=Nat.eq_of_beq_eq_true h.1
    have h2:=Nat.eq_of_beq_eq_true h.2
    subst h1; subst h2; rfl
  · rfl
  · cases h
theorem beV1_eq {u v:Value} (h:beV1 u v=true):u=v:=by
  unfold beV1 at h
  split at h
  · rfl
  · rfl
  · rw [Bool.and_eq_true] at h
    have h1:=kB_eq h.1
    have h2:=h.2
    rw [beI_eq] at h2
    have h2:=eq_of_beq h2
    subst h1; subst h2; rfl
  · rw [beB_eq] at h
    have h2:=eq_of_beq h
    subst h2; rfl
  · rw [beA_eq h]
  · simp only [Bool.and_eq_true] at h
    rw [beA_eq h.1.1,Nat.eq_of_beq_eq_true h.1.2,Nat.eq_of_beq_eq_true h.2]
  · rw [Nat.eq_of_beq_eq_true h]
  · rfl
  · rfl
  · rfl
  · rw [Nat.eq_of_beq_eq_true h]
  · cases h
theorem beVL_eq:∀ {l m:List Value},beVL l m=true→l=m
  | [],[],_=>rfl
  | [],_::_,h=>by cases h
  | _::_,[],h=>by cases h
  | u::l,v::m,h=>by
    have h:(beV1 u v && beVL l m)=true:=h
    rw [Bool.and_eq_true] at h;rw [beV1_eq h.1,beVL_eq h.2]
theorem beV_eq {u v:Value} (h:beV u v=true):u=v:=by
  unfold beV at h
  split at h
  · rw [beVL_eq h]
  · rw [beVL_eq h]
  · exact beV1_eq h
structure Evt where
  d:DOp
  am:Nat
  fr:Fr
  h:AH
  b:Bool
  v:Value
  h':AH
abbrev pr (e:Evt):DOp × Nat:=(e.d,e.am)
abbrev EvF:=Fr→AH→In→Option (Value × AH)
inductive Trace (M:Nat) (ev:EvF):Fr→AH→List Evt→Fr→AH→Prop
  | nil {fr:Fr} {h:AH}:Trace M ev fr h [] fr h
  | cons {fr fr1 fr':Fr} {h h1 h':AH} {d:DOp} {am:Nat} {b:Bool} {v:Value} {T:List Evt}:want fr d.q.g=some b→(b=true→ev fr h d.q.i=some (v,h1))→(b=false→v=undef∧h1=h) →
      putF M fr d.q.d v=some fr1→Trace M ev fr1 h1 T fr' h'→Trace M ev fr h (⟨d,am,fr,h,b,v,h1⟩::T) fr' h'
def Watch (i:Nat) (fr:Fr) (q:In) (v:Value):List Evt→Prop
  | []=>True
  | e::T=>(effK e.d.k=true→e.b=true→hasB e.am i=true∨evQ fr e.h' q=some v)∧((effK e.d.k=true∧e.b=true∧hasB e.am i=true)∨Watch i fr q v T)
def Rck:List Evt→Prop
  | []=>True
  | e::T=>(e.d.k=1→e.b=true→Watch e.d.i e.fr e.d.q.i e.v T)∧Rck T
theorem rechk_ok {am:Nat} {h:AH}:∀ {ws ws':List Wt},rechk am h ws=some ws'→∀ x∈ws,hasB am x.i=true∨(evQ x.fr h x.q=some x.v∧x∈ws')
  | [],ws',_,x,hx=>by cases hx
  | y::ws,ws',e,x,hx=>by
    have e:(Bool.rec (Bool.rec none (Option.rec none (fun r=>some (y::r)) (rechk am h ws)) (beO y.v (evQ y.fr h y.q))) (rechk am h ws) (hasB am y.i):Option (List Wt))=some ws':=e
    cases hb:hasB am y.i with
    | true =>
      rw [hb] at e
      rcases List.mem_cons.1 hx with rfl|hx
      · exact .inl hb
      · exact rechk_ok e x hx
    | false =>
      rw [hb] at e;simp only at e
      cases hv:beO y.v (evQ y.fr h y.q) with
      | false=>rw [hv] at e; cases e
      | true =>
        rw [hv] at e;simp only at e
        cases hr:rechk am h ws with
        | none=>rw [hr] at e; cases e
        | some r =>
          rw [hr] at e
          cases e
          rcases List.mem_cons.1 hx with rfl|hx
          · right
            refine ⟨?_,by simp⟩
            cases hq:evQ x.fr h x.q with
            | none=>rw [hq] at hv; cases hv
            | some u=>rw [hq] at hv; rw [beV_eq (show beV u x.v=true from hv)]
          · rcases rechk_ok hr x hx with h1|⟨h1,h2⟩
            · exact .inl h1
            · exact .inr ⟨h1,by simp [h2]⟩
theorem evDr_cons {M:Nat} {ev:EvF} {d:DOp × Nat} {l:Sch} {ws:List Wt} {fr:Fr} {h:AH} {x:Fr × AH} (e:evDr M ev (d::l) ws fr h=some x):∃ b v h1 fr1,want fr d.1.q.g=some b∧(b=true→ev fr h d.1.q.i=some (v,h1))∧(b=false→v=undef∧h1=h)∧putF M fr d.1.q.d v=some fr1 ∧
    ((b=false∧evDr M ev l ws fr1 h1=some x) ∨
     (b=true∧effK d.1.k=false∧evDr M ev l (Bool.rec ws (⟨d.1.i,fr,d.1.q.i,v⟩::ws) (Nat.beq d.1.k 1)) fr1 h1=some x) ∨
     (b=true∧effK d.1.k=true∧∃ ws',rechk d.2 h1 ws=some ws'∧evDr M ev l ws' fr1 h1=some x)):=by
  have e:(Option.rec none (fun b=>Bool.rec
    (Option.rec none (fun fr'=>evDr M ev l ws fr' h) (putF M fr d.1.q.d undef))
    (Option.rec none (fun r=>Option.rec none (fun fr'=>Bool.rec
        (evDr M ev l (Bool.rec ws (⟨d.1.i,fr,d.1.q.i,r.1⟩::ws) (Nat.beq d.1.k 1)) fr' r.2)
        (Option.rec none (fun ws'=>evDr M ev l ws' fr' r.2) (rechk d.2 r.2 ws)) (effK d.1.k)) (putF M fr d.1.q.d r.1)) (ev fr h d.1.q.i)) b) (want fr d.1.q.g):Option (Fr × AH))=some x:=e
  cases hw:want fr d.1.q.g with
  | none=>rw [hw] at e; cases e
  | some b =>
    rw [hw] at e;simp only at e
    cases b with
    | false =>
      simp only at e
      cases hp:putF M fr d.1.q.d undef with
      | none=>rw [hp] at e; cases e
      | some fr1=>rw [hp] at e; exact ⟨false,undef,h,fr1,rfl,fun h=>(by cases h),fun _=>⟨rfl,rfl⟩,hp,.inl ⟨rfl,e⟩⟩
    | true =>
      simp only at e
      cases hv:ev fr h d.1.q.i with
      | none=>rw [hv] at e; cases e
      | some r =>
        obtain ⟨v,h1⟩:=r
        rw [hv] at e;simp only at e
        cases hp:putF M fr d.1.q.d v with
        | none=>rw [hp] at e; cases e
        | some fr1 =>
          rw [hp] at e;simp only at e
          refine ⟨true,v,h1,fr1,rfl,fun _=>rfl,fun h=>(by cases h),hp,.inr ?_⟩
          cases hk:effK d.1.k with
          | false=>rw [hk] at e; exact .inl ⟨rfl,rfl,e⟩
          | true =>
            rw [hk] at e;simp only at e
            cases hr:rechk d.2 h1 ws with
            | none=>rw [hr] at e; cases e
            | some ws'=>rw [hr] at e; exact .inr ⟨rfl,rfl,ws',rfl,e⟩
theorem evDr_ok {M:Nat} {ev:EvF}:∀ {l:Sch} {ws:List Wt} {fr:Fr} {h:AH} {fr':Fr} {h':AH},evDr M ev l ws fr h=some (fr',h')→∃ T,Trace M ev fr h T fr' h'∧T.map pr=l∧Rck T∧∀ x∈ws,Watch x.i x.fr x.q x.v T
  | [],ws,fr,h,fr',h',e=>by cases e; exact ⟨[],.nil,rfl,trivial,fun _ _=>trivial⟩
  | d::l,ws,fr,h,fr',h',e=>by
    obtain ⟨b,v,h1,fr1,k1,k2,k3,k4,k5⟩:=evDr_cons e
    rcases k5 with ⟨rfl,k5⟩|⟨rfl,hk,k5⟩|⟨rfl,hk,ws',k6,k5⟩
    · obtain ⟨T,t1,t2,t3,t4⟩:=evDr_ok k5
      refine ⟨⟨d.1,d.2,fr,h,false,v,h1⟩::T,.cons k1 k2 k3 k4 t1,by simp [t2],⟨fun _ h=>(by cases h),t3⟩,fun x hx=>⟨fun _ h=>(by cases h),.inr (t4 x hx)⟩⟩
    · obtain ⟨T,t1,t2,t3,t4⟩:=evDr_ok k5
      refine ⟨⟨d.1,d.2,fr,h,true,v,h1⟩::T,.cons k1 k2 k3 k4 t1,by simp [t2],⟨fun hk1 _=>?_,t3⟩,fun x hx=>⟨fun h=>?_,.inr (t4 x ?_)⟩⟩
      · have hk1:d.1.k=1:=hk1
        have:=t4 ⟨d.1.i,fr,d.1.q.i,v⟩ (by rw [hk1]; exact List.mem_cons_self)
        exact this
      · have h:effK d.1.k=true:=h
        rw [hk] at h; cases h
      · cases Nat.beq d.1.k 1 with
        | true=>exact List.mem_cons_of_mem _ hx
        | false=>exact hx
    · obtain ⟨T,t1,t2,t3,t4⟩:=evDr_ok k5
      refine ⟨⟨d.1,d.2,fr,h,true,v,h1⟩::T,.cons k1 k2 k3 k4 t1,by simp [t2],⟨fun hk1 _=>?_,t3⟩,fun x hx=>?_⟩
      · have hk1:d.1.k=1:=hk1
        rw [hk1] at hk; cases hk
      · rcases rechk_ok k6 x hx with h1|⟨h1,h2⟩
        · exact ⟨fun _ _=>.inl h1,.inl ⟨hk,rfl,h1⟩⟩
        · exact ⟨fun _ _=>.inr h1,.inr (t4 x h2)⟩
/-! frames and heaps along the way -/
theorem putF_get {M:Nat} {fr fr1:Fr} {d:Option Nat} {v:Value} (h:putF M fr d v=some fr1) (t:Nat):fr1.get t=if d=some t then some v else fr.get t:=by
  cases d with
  | none=>cases h; simp
  | some d =>
    have h:(Bool.rec none (Option.rec none (fun v'=>Tr.put 10 fr d (some v')) (fV v)) (Nat.blt d M):Option Fr)=some fr1:=h
    cases hb:Nat.blt d M with
    | false=>rw [hb] at h; cases h
    | true =>
      rw [hb,fV_eq] at h
      have h:Tr.put 10 fr d (some v)=some fr1:=h
      rw [Tr.get_put 10 (some v) fr fr1 d t h]
      by_cases e:t=d
      · subst e; simp
      · rw [if_neg e,if_neg]; simp; exact fun h=>e h.symm
theorem putF_lt {M:Nat} {fr fr1:Fr} {d:Nat} {v:Value} (h:putF M fr (some d) v=some fr1):d<M:=by
  have h:(Bool.rec none (Option.rec none (fun v'=>Tr.put 10 fr d (some v')) (fV v)) (Nat.blt d M):Option Fr)=some fr1:=h
  cases hb:Nat.blt d M with
  | false=>rw [hb] at h; cases h
  | true=>exact blt_t.1 hb
theorem Trace.get {M:Nat} {ev:EvF} {fr fr':Fr} {h h':AH} {T:List Evt} (t:Trace M ev fr h T fr' h'):∀ s v,fr'.get s=some v→(∃ y∈T,y.d.q.d=some s∧y.v=v)∨(fr.get s=some v∧∀ y∈T,y.d.q.d≠some s):=by
  induction t with
  | nil=>exact fun s v hv=>.inr ⟨hv,fun y hy=>by cases hy⟩
  | @cons fr fr1 fr' h h1 h' d am b v T k1 k2 k3 k4 _ ih =>
    intro s u hu
    rcases ih s u hu with ⟨y,hy,h1,h2⟩|⟨h1,h2⟩
    · exact .inl ⟨y,by simp [hy],h1,h2⟩
    · rw [putF_get k4 s] at h1
      by_cases e:d.q.d=some s
      · rw [if_pos e] at h1; cases h1
        exact .inl ⟨_,List.mem_cons_self,e,rfl⟩
      · rw [if_neg e] at h1
        exact .inr ⟨h1,fun y hy=>by
          rcases List.mem_cons.1 hy with rfl|hy
          · exact e
          · exact h2 y hy⟩
theorem Trace.split {M:Nat} {ev:EvF} {fr fr':Fr} {h h':AH}:∀ {A B:List Evt},Trace M ev fr h (A ++ B) fr' h'→∃ fr1 h1,Trace M ev fr h A fr1 h1∧Trace M ev fr1 h1 B fr' h'
  | [],B,t=>⟨fr,h,.nil,t⟩
  | x::A,B,t=>by
    cases t with
    | cons k1 k2 k3 k4 t =>
      obtain ⟨fr1,h1,t1,t2⟩:=t.split
      exact ⟨fr1,h1,.cons k1 k2 k3 k4 t1,t2⟩
theorem Trace.head {M:Nat} {ev:EvF} {fr fr':Fr} {h h':AH} {e:Evt} {T:List Evt} (t:Trace M ev fr h (e::T) fr' h'):e.fr=fr∧e.h=h∧want fr e.d.q.g=some e.b∧(e.b=true→ev fr h e.d.q.i=some (e.v,e.h'))∧(e.b=false→e.v=undef∧e.h'=h)∧∃ fr1,putF M fr e.d.q.d e.v=some fr1∧Trace M ev fr1 e.h' T fr' h':=by
  cases t with
  | cons k1 k2 k3 k4 t=>exact ⟨rfl,rfl,k1,k2,k3,_,k4,t⟩
theorem Trace.next {M:Nat} {ev:EvF} (hev:∀ fr h i v h',ev fr h i=some (v,h')→h.next≤h'.next) {fr fr':Fr} {h h':AH} {T:List Evt} (t:Trace M ev fr h T fr' h'):h.next≤h'.next:=by
  induction t with
  | nil=>exact Nat.le_refl _
  | @cons fr fr1 fr' h h1 h' d am b v T k1 k2 k3 k4 _ ih =>
    refine Nat.le_trans ?_ ih
    cases b with
    | true=>exact hev _ _ _ _ _ (k2 rfl)
    | false=>rw [(k3 rfl).2]; exact Nat.le_refl _
end Go.Ev
