/- Texts of this proof, one after the other; no conditions. -/
import Derived.Deep.Upon
import Derived.Laws.MakeOwn
import Derived.MapKept
import Derived.Deep.AppendSrc
import Derived.Test.YtjopknnkcnehmaaGreatDoorWB5
set_option linter.all false
/- Runs of closed calls, reckoned: what reads, all in one; new blocks. No conditions. -/
namespace Go.Ev
open Go.Eng
section
variable {P:Program} {ρ:Rn} {fr:Fr} {ev:Operand→Value} {w:World} {h:AH} {η:PH} {dst:Option Tmp} {ty:TypeId} {pos:String} {aft:Array Edge} {g:Option (Nat × Bool)}
theorem map_wr {α:Type} {x:Option α} {f:α→Wr} {i:In} {v:Value} (hi:(x.map fun a=>In.wr (f a))=some i) (hv:evQ fr h i=some v):False:=by
  cases x with
  | none=>cases hi
  | some a=>cases hi; cases hv
theorem evQ_run {o:Oper} {i:In} {v:Value} (hi:inOf P o=some i) (hv:evQ fr h i=some v) (hr:HR P ρ h η) (hw:η.le w) (hf:FR ρ fr) (hk:EK ρ fr ev o.op.operands):QOK P ρ ev w o v:=by
  obtain ⟨dst,op,ty,pos,aft,g⟩:=o
  cases op with
  | move x =>
    simp only [inOf,Option.map_eq_some_iff] at hi
    obtain ⟨d,hd,rfl⟩:=hi
    obtain ⟨u,h1,h2⟩:=od_ev hf hk (by simp [Op.operands]) hd hv
    exact ⟨u,h1,by simp [execOp,h2]⟩
  | assign x =>
    simp only [inOf,Option.map_eq_some_iff] at hi
    obtain ⟨d,hd,rfl⟩:=hi
    obtain ⟨u,h1,h2⟩:=od_ev hf hk (by simp [Op.operands]) hd hv
    exact ⟨u,h1,by simp [execOp,h2]⟩
  | binOp op t x y yt=>exact q_bin hi hv hf hk
  | load t x=>exact q_ld hi hv hr hw hf hk
  | fieldAddr t x f=>exact q_fa hi hv hf hk
  | indexAddr t x y=>exact q_ia hi hv hf hk
  | unOp op t x=>exact q_un hi hv hf hk
  | pick c x y=>exact q_pk hi hv hf hk
  | extract x n=>exact q_ex hi hv hf hk
  | nilCheck x=>exact q_nc hi hv hf hk
  | makeFunc fn xs cs=>exact q_mf hi hv hf hk
  | field t x f=>exact q_fd hi hv hf hk
  | index t x y=>exact q_ix hi hv hf hk
  | slice t x lo hi' mx=>exact q_sl hi hv hf hk
  | build t ps=>exact q_bd hi hv hf hk
  | convert s d x=>exact q_cv hi hv hr hw hf hk
  | lookup t x y ok=>exact q_lk hi hv hr hw hf hk
  | call c =>
    cases hc:c.callee with
    | builtin b =>
      have hm:(∃ m,i=.mi m)∨∃ m,i=.wr m:=by
        simp only [inOf,inCall,hc] at hi;unfold inCallB at hi
        split at hi
        · unfold inLen at hi
          repeat' split at hi
          all_goals first|(cases hi; done)|(cases hi; exact .inl ⟨_,rfl⟩)
        · cases hi; exact .inl ⟨_,rfl⟩
        · cases hi; exact .inl ⟨_,rfl⟩
        · repeat' split at hi
          all_goals first|(cases hi; done)|(rename_i zs _ _ _; cases hz:zs.length.beq _ <;> rw [hz] at hi <;> cases hi; exact .inr ⟨_,rfl⟩)
        · repeat' split at hi
          all_goals first|(cases hi; done)|(cases hi; exact .inr ⟨_,rfl⟩)
        · repeat' split at hi
          all_goals first|(cases hi; done)|(rename_i zs _ _; cases hz:zs.length.beq _ <;> rw [hz] at hi <;> cases hi; exact .inr ⟨_,rfl⟩)
        · cases hi
      rcases hm with ⟨m,rfl⟩|⟨m,rfl⟩
      · exact q_ln hc hi ⟨m,rfl⟩ hv hf hk
      · cases hv
    | value f =>
      simp only [inOf,inCall,hc] at hi;unfold inCallV at hi
      split at hi
      · cases hi; cases hv
      · cases hi
    | invoke r n =>
      simp only [inOf,inCall,hc] at hi
      cases hi
  | store t x y =>
    simp only [inOf] at hi
    repeat' split at hi
    all_goals first|(cases hi; done)|(cases hi; cases hv)
  | alloc t=>simp only [inOf] at hi; exact (map_wr hi hv).elim
  | box t x=>simp only [inOf] at hi; exact (map_wr hi hv).elim
  | buildSlice t n ps =>
    simp only [inOf] at hi
    repeat' split at hi
    all_goals first|(cases hi; done)|(rename_i zs _ _; cases hz:zs.length.beq _ <;> rw [hz] at hi <;> first|(cases hi; done)|exact (map_wr hi hv).elim)
  | makeSlice t l c =>
    simp only [inOf] at hi
    repeat' split at hi
    all_goals first|(cases hi; done)|(rename_i zs _ _ _; cases hz:zs.length.beq _ <;> rw [hz] at hi <;> first|(cases hi; done)|(cases hi; cases hv))
  | makeMap t r =>
    cases r with
    | none=>cases hi; cases hv
    | some x=>cases hi
  | mapUpdate t m k v' =>
    simp only [inOf] at hi
    repeat' split at hi
    all_goals first|(cases hi; done)|(cases hi; cases hv)
  | insert t m k v' =>
    simp only [inOf] at hi
    repeat' split at hi
    all_goals first|(cases hi; done)|(cases hi; cases hv)
  | _=>cases hi
/-! what acts -/
def Ext (ρ ρ':Rn) (lo hi:Nat):Prop:=ρ.le ρ'∧∀ i,ρ' i≠none→ρ i≠none∨(lo≤i∧i<hi)
theorem Ext.refl {lo hi:Nat}:Ext ρ ρ lo hi:=⟨fun _ _ h=>h,fun _ h=>.inl h⟩
theorem Ext.trans {ρ1 ρ2 ρ3:Rn} {a b c:Nat} (h1:Ext ρ1 ρ2 a b) (h2:Ext ρ2 ρ3 b c) (hab:a≤b) (hbc:b≤c):Ext ρ1 ρ3 a c:=
  ⟨fun i x h=>h2.1 i x (h1.1 i x h),fun i h=>by
    rcases h2.2 i h with h|h
    · rcases h1.2 i h with h|h
      · exact .inl h
      · exact .inr ⟨h.1,by omega⟩
    · exact .inr ⟨by omega,h.2⟩⟩
def Fresh (ρ:Rn) (lo hi:Nat):Prop:=∀ i,lo≤i→i<hi→ρ i=none
theorem Fresh.after {ρ ρ':Rn} {a b c:Nat} (h:Fresh ρ a c) (e:Ext ρ ρ' a b) (hab:a≤b):Fresh ρ' b c:=fun i h1 h2=>by
  cases hi:ρ' i with
  | none=>rfl
  | some x =>
    rcases e.2 i (by rw [hi]; simp) with h3|h3
    · exact absurd (h i (by omega) h2) h3
    · omega
theorem Fresh.first {ρ:Rn} {a b c:Nat} (h:Fresh ρ a c) (hbc:b≤c):Fresh ρ a b:=fun i h1 h2=>h i h1 (by omega)
theorem Upd.one {η η':PH} {w w':World} (h1:w.heap.size≤w'.heap.size∧w'.os=w.os∧w'.output=w.output∧w'.tape=w.tape∧w.drawn≤w'.drawn) (h2:∀ b,b<w.heap.size→η b=none→w'.heap[b]?=w.heap[b]?)
    (h3:η'.le w') (h4:∀ b,η' b≠none→η b≠none∨w.heap.size≤b):Upd [η] [η'] w w':=
  ⟨h1,fun b hb hn=>h2 b hb (hn η (by simp)),fun ρ hρ=>by simp at hρ; subst hρ; exact h3,by simp,fun ρ hρ b hb=>by
    simp at hρ; subst hρ
    rcases h4 b hb with h|h
    · exact .inl ⟨η,by simp,h⟩
    · exact .inr h⟩
def LOK (P:Program) (ρ:Rn) (η:PH) (ev:Operand→Value) (w:World) (h:AH) (o:Oper) (v:Value) (h':AH):Prop:=
  h.next≤h'.next∧(Fresh ρ h.next h'.next→∃ u ρ' η' w',(((execOp ev o).run P w=.ok (.value u) w')∨((execOp ev o).run P w=.ok .skip w'∧u=undef))∧rn ρ' v=some u∧HR P ρ' h' η'∧Upd [η] [η'] w w'∧Ext ρ ρ' h.next h'.next)
theorem le_none (hw:η.le w):η w.heap.size=none:=by
  cases e:η w.heap.size with
  | none=>rfl
  | some o=>have:=hw.lt (b:=w.heap.size) (by rw [e]; simp); omega
theorem upd_alloc (hw:η.le w) (o:Obj):Upd [η] [setP η w.heap.size (some o)] w (w.alloc o):=by
  have hn:=le_none hw
  refine Upd.one ⟨by simp,rfl,rfl,rfl,Nat.le_refl _⟩ (fun b hb _=>?_) (fun b ob hb=>?_) (fun b hb=>?_)
  · exact heap_alloc_old w o hb
  · unfold setP at hb
    split at hb
    · rename_i e; cases hb; subst e; exact heap_alloc_new w _
    · rename_i e
      have h1:=hw b ob hb
      have h2:=hw.lt (b:=b) (by rw [hb]; simp)
      rw [heap_alloc_old w o h2]; exact h1
  · unfold setP at hb
    split at hb
    · rename_i e; exact .inr (by omega)
    · exact .inl hb
theorem newC_some {e:TypeId} {l:List Value} {i:Nat} {h':AH} (hn:newC h e l=some (i,h')):i=h.next∧h.new (.cells l e)=some h':=by
  unfold newC at hn;rw [fL1_eq] at hn;simp only at hn
  cases hh:h.new (.cells l e) with
  | none=>rw [hh] at hn; cases hn
  | some h2=>rw [hh] at hn; cases hn; exact ⟨rfl,rfl⟩
theorem noFz0 (n:Nat):NoFz (0,0) n:=fun o _ h=>by omega
theorem new_cells (hr:HR P ρ h η) (hw:η.le w) {e:TypeId} {l us:List Value} {h':AH} (hn:h.new (.cells l e)=some h') (hl:rnL ρ l=some us) (hf:Fresh ρ h.next h'.next) :
    HR P (setR ρ h.next (w.heap.size,0,0)) h' (setP η w.heap.size (some (.cells us.toArray e (0,0))))∧Upd [η] [setP η w.heap.size (some (.cells us.toArray e (0,0)))] w (w.alloc (.cells us.toArray e (0,0)))∧Ext ρ (setR ρ h.next (w.heap.size,0,0)) h.next h'.next:=by
  have hnx:=(AH.get_new hn).2
  have hn0:ρ h.next=none:=hf _ (Nat.le_refl _) (by omega)
  refine ⟨hr.new hn hn0 (le_none hw) ⟨[],us,[],(0,0),0,by simp,rnL_mono (setR_le hn0) hl,rfl,rfl,.inl rfl,noFz0 _⟩,upd_alloc hw _,setR_le hn0,fun i hi=>?_⟩
  unfold setR at hi
  split at hi
  · rename_i e; exact .inr ⟨by omega,by omega⟩
  · exact .inl hi
theorem new_next {x:AO} {h':AH} (hn:h.new x=some h'):h.next≤h'.next:=by rw [(AH.get_new hn).2]; omega
theorem put_next {i:Nat} {x:Option AO} {h':AH} (hn:h.put i x=some h'):h'.next=h.next:=(AH.get_put hn).2
theorem ptrN_some {x:Option (Nat × AH)} {v:Value} {h':AH} (e:ptrN x=some (v,h')):∃ i,x=some (i,h')∧v=.pointer (some ⟨i,0,none⟩):=by
  unfold ptrN at e
  split at e
  · cases e; exact ⟨_,rfl,rfl⟩
  · cases e
theorem slcN_some {x:Option (Nat × AH)} {n c:Nat} {v:Value} {h':AH} (e:slcN n c x=some (v,h')):∃ i,x=some (i,h')∧v=.slice (some ⟨i,0,none⟩) n c:=by
  unfold slcN at e
  split at e
  · cases e; exact ⟨_,rfl,rfl⟩
  · cases e
theorem rn_new {i:Nat} {x:Nat × Nat × Nat}:setR ρ i x i=some x:=by simp [setR]
theorem w_alloc {t:TypeId} {wr:Wr} {v:Value} {h':AH} (hi:inOf P ⟨dst,.alloc t,ty,pos,aft,g⟩=some (.wr wr)) (hv:evWr fr h wr=some (v,h')) (hr:HR P ρ h η) (hw:η.le w):LOK P ρ η ev w h ⟨dst,.alloc t,ty,pos,aft,g⟩ v h':=by
  simp only [inOf,Option.map_eq_some_iff] at hi
  obtain ⟨zs,hz,e⟩:=hi
  cases e
  obtain ⟨i,e1,rfl⟩:=ptrN_some (show ptrN (newC h t zs)=some (v,h') from hv)
  obtain ⟨rfl,e2⟩:=newC_some e1
  refine ⟨new_next e2,fun hf=>?_⟩
  obtain ⟨z,z1,z2,z3⟩:=zsP_some (ρ:=ρ) hz
  obtain ⟨k1,k2,k3⟩:=new_cells hr hw e2 z3 hf
  refine ⟨.pointer (some ⟨w.heap.size,0,none⟩),_,_,_,.inl ?_,by simp [rn,rnA,rn_new],k1,k2,k3⟩
  have hz2:zs.toArray=z.cells:=by rw [← z2]
  rw [hz2]
  simp [execOp,Instr.alloc,run_zeroValue z1,newVar,newRow,newObj]
  rfl
theorem w_box {t:TypeId} {x:Operand} {wr:Wr} {v:Value} {h':AH} (hi:inOf P ⟨dst,.box t x,ty,pos,aft,g⟩=some (.wr wr)) (hv:evWr fr h wr=some (v,h')) (hr:HR P ρ h η) (hw:η.le w) (hf:FR ρ fr) (hk:EK ρ fr ev #[x]):LOK P ρ η ev w h ⟨dst,.box t x,ty,pos,aft,g⟩ v h':=by
  simp only [inOf,Option.map_eq_some_iff] at hi
  obtain ⟨d,hd,e⟩:=hi
  cases e
  have hv:wrBox h t (evO fr d)=some (v,h'):=hv
  unfold wrBox at hv
  split at hv
  · rename_i a ha
    obtain ⟨i,e1,rfl⟩:=ptrN_some hv
    obtain ⟨rfl,e2⟩:=newC_some e1
    obtain ⟨u,q1,q2⟩:=od_ev hf hk (by simp) hd ha
    refine ⟨new_next e2,fun hf=>?_⟩
    obtain ⟨k1,k2,k3⟩:=new_cells hr hw e2 (rn_cl q1) hf
    refine ⟨.pointer (some ⟨w.heap.size,0,none⟩),_,_,_,.inl ?_,by simp [rn,rnA,rn_new],k1,k2,k3⟩
    simp [execOp,Instr.box,q2,newVar,newRow,newObj]
    rfl
  · cases hv
end
end Go.Ev
namespace Go.Ev
open Go.Eng
section
variable {P:Program} {ρ:Rn} {fr:Fr} {ev:Operand→Value} {w:World} {h:AH} {η:PH} {dst:Option Tmp} {ty:TypeId} {pos:String} {aft:Array Edge} {g:Option (Nat × Bool)}
theorem heap_setCells {b:Nat} {t:TypeId} {fz:Nat × Nat}:∀ (vs:List Value) (o:Nat) (w:World) (l:List Value),w.heap[b]?=some (.cells l.toArray t fz)→o+vs.length≤l.length→(w.setCells b o vs).heap[b]?=some (.cells (l.take o ++ vs ++ l.drop (o+vs.length)).toArray t fz)
  | [],o,w,l,h,_=>by simpa [World.setCells] using h
  | v::r,o,w,l,h,hl=>by
    simp only [List.length_cons] at hl
    have hs:(w.setCell ⟨b,o,none⟩ v).heap[b]?=some (.cells (l.set o v).toArray t fz):=by
      have hb:=(Array.getElem?_eq_some_iff.1 h).1
      simp [World.setCell,Array.getElem?_modify,h]
    have:=heap_setCells r (o+1) _ (l.set o v) hs (by simp; omega)
    rw [World.setCells,this]
    congr 2
    apply Array.ext'
    simp only
    have h1:(l.set o v).take (o+1)=l.take o ++ [v]:=by
      rw [List.set_eq_take_append_cons_drop,if_pos (by omega)]
      rw [List.take_append,List.take_take,Nat.min_eq_right (by omega)]
      simp [List.length_take,Nat.min_eq_left (show o≤l.length by omega)]
    rw [h1,List.drop_set_of_lt (by omega)]
    simp [Nat.add_comm,Nat.add_left_comm]
theorem size_setCells (b:Nat):∀ (vs:List Value) (o:Nat) (w:World),(w.setCells b o vs).heap.size=w.heap.size
  | [],_,_=>rfl
  | v::r,o,w=>by rw [World.setCells,size_setCells b r]; simp [World.setCell]
theorem setCells_tape (b:Nat):∀ (vs:List Value) (o:Nat) (w:World),(w.setCells b o vs).tape=w.tape∧(w.setCells b o vs).drawn=w.drawn
  | [],_,_=>⟨rfl,rfl⟩
  | v::r,o,w=>by rw [World.setCells]; exact setCells_tape b r _ _
theorem rn_isAgg {v u:Value} (e:rn ρ v=some u) (h:v.oneCell'=true):u.oneCell'=true:=by
  cases v with
  | agg c=>simp [Value.oneCell'] at h
  | tuple c=>simp [Value.oneCell'] at h
  | slice a n c =>
    rcases a with _|⟨i,o,_|s⟩
    · cases e; rfl
    · obtain ⟨_,_,_,rfl⟩:=rnS_any (by rw [← rn_eq]; exact e); rfl
    · simp [rn] at e
  | map r =>
    cases r with
    | none=>cases e; rfl
    | some i =>
      simp only [rn] at e
      split at e
      · cases e; rfl
      · cases e
  | pointer a =>
    simp only [rn] at e
    split at e
    · cases e; rfl
    · cases e
  | func f xs cs =>
    simp only [rn] at e
    split at e
    · cases e; rfl
    · cases e
  | float k b=>simp [rn] at e
  | complex k a b=>simp [rn] at e
  | chan r=>simp [rn] at e
  | iface t v=>simp [rn] at e
  | _=>cases e; rfl
theorem rnL_one:∀ {vs us:List Value},rnL ρ vs=some us→(∀ v∈vs,v.oneCell'=true)→∀ u∈us,u.oneCell'=true
  | [],us,e,_=>by cases e; simp
  | v::l,us,e,h=>by
    obtain ⟨u,us',h1,h2,rfl⟩:=rnL_cons.1 e
    intro x hx
    simp at hx
    rcases hx with rfl|hx
    · exact rn_isAgg h1 (h v (by simp))
    · exact rnL_one h2 (fun y hy=>h y (by simp [hy])) x hx
theorem setCells_nil {b o:Nat}:w.setCells b o []=w:=rfl
theorem storeN_run (hr:HR P ρ h η) (hw:η.le w) {i o:Nat} {vs us:List Value} {h':AH} (e:storeN h i o vs=some h') {b s ex:Nat} (hρ:ρ i=some (b,s,ex)) (hv:rnL ρ vs=some us) :
    (storeCells ⟨b,s+o,none⟩ us).run P w=.ok () (w.setCells b (s+o) us)∧h'.next=h.next∧(∀ j,j<us.length→(w.cell? ⟨b,s+o+j,none⟩).isSome=true)∧(∀ j,j<us.length→w.frozen? ⟨b,s+o+j,none⟩=false)∧(∀ u∈us,u.oneCell'=true) ∧
      ∃ η',HR P ρ h' η'∧Upd [η] [η'] w (w.setCells b (s+o) us):=by
  unfold storeN at e
  split at e
  · rename_i c t hi
    split at e
    · rename_i c' hc
      obtain ⟨rfl,k1,k2⟩:=setC_eq _ _ _ _ hc
      obtain ⟨b',s',e',ob,h1,h2,h3⟩:=hr.val i _ hi
      rw [hρ] at h1; cases h1
      obtain ⟨pre,us0,post,fz,k,rfl,q1,rfl,q3,q4,q5⟩:=h3
      have hb:=hw b _ h2
      have hl0:=rnL_len q1
      have hl1:=rnL_len hv
      have hone:=rnL_one hv k2
      have hcell:∀ j,j<us.length→(w.cell? ⟨b,pre.length+o+j,none⟩).isSome=true:=fun j hj=>by
        have:pre.length+o+j<(pre ++ us0 ++ post).length:=by simp; omega
        simp [World.cell?,hb]
        simp at this; omega
      have hfz:∀ j,j<us.length→w.frozen? ⟨b,pre.length+o+j,none⟩=false:=fun j hj=>by
        have:=q5 (pre.length+o+j) (by simp; omega)
        simp only [World.frozen?,hb];simp only [Bool.and_eq_false_iff,decide_eq_false_iff_not]
        rcases Nat.lt_or_ge (pre.length+o+j) fz.1 with h|h
        · left; simp; omega
        · right; simp only [Nat.not_lt]; exact Nat.not_lt.1 fun hh=>this ⟨h,hh⟩
      have hrun:=run_storeCells_cells (P:=P) b (pre.length+o) us 0 w (by simpa using hcell) (by simpa using hfz) hone
      simp only [Nat.add_zero] at hrun
      have hh:=heap_setCells (b:=b) (t:=t) (fz:=fz) us (pre.length+o) w _ hb (by simp; omega)
      have hrow:(pre ++ us0 ++ post).take (pre.length+o) ++ us ++ (pre ++ us0 ++ post).drop (pre.length+o+us.length)=pre ++ (us0.take o ++ us ++ us0.drop (o+us.length)) ++ post:=by
        have t1:(pre ++ us0 ++ post).take (pre.length+o)=pre ++ us0.take o:=by
          rw [List.append_assoc,List.take_length_add_append,List.take_append_of_le_length (by omega)]
        have t2:(pre ++ us0 ++ post).drop (pre.length+o+us.length)=us0.drop (o+us.length) ++ post:=by
          rw [List.append_assoc,Nat.add_assoc,List.drop_length_add_append,List.drop_append_of_le_length (by omega)]
        rw [t1,t2]; simp
      rw [hrow] at hh
      have hmid:rnL ρ (c.take o ++ vs ++ c.drop (o+vs.length))=some (us0.take o ++ us ++ us0.drop (o+us.length)):=by
        have r1:=(rnL_split o q1).1
        have r2:=(rnL_split (o+vs.length) q1).2
        rw [← hl1] at r2
        rw [show o+vs.length=o+us.length by omega]
        exact rnL_append.2 ⟨_,_,rnL_append.2 ⟨_,_,r1,hv,rfl⟩,r2,rfl⟩
      refine ⟨hrun,put_next e,hcell,hfz,hone,_,hr.put hi e hρ (o:=.cells (pre ++ (us0.take o ++ us ++ us0.drop (o+us.length)) ++ post).toArray t fz) ⟨pre,_,post,fz,k,rfl,hmid,rfl,q3,q4,?_⟩,?_⟩
      · have:(pre ++ (us0.take o ++ us ++ us0.drop (o+us.length)) ++ post).length=(pre ++ us0 ++ post).length:=by simp; omega
        rw [this]; exact q5
      · have hlt:=hw.lt (b:=b) (by rw [h2]; simp)
        have hsz:=size_setCells b us (pre.length+o) w
        refine Upd.one ⟨by rw [hsz]; exact Nat.le_refl _,World.os_setCells ..,World.output_setCells ..,?_,?_⟩ (fun b' hb' hn=>?_) (fun b' ob' hb'=>?_) (fun b' hb'=>?_)
        · exact (setCells_tape ..).1
        · exact Nat.le_of_eq (setCells_tape ..).2.symm
        · exact World.heap_setCells_other w b _ _ hb' (fun e=>by subst e; rw [h2] at hn; cases hn)
        · unfold setP at hb'
          split at hb'
          · rename_i e1; cases hb'; subst e1; exact hh
          · rename_i e1
            have l2:=hw.lt (b:=b') (by rw [hb']; simp)
            rw [World.heap_setCells_other w b _ _ l2 e1];exact hw b' ob' hb'
        · unfold setP at hb'
          split at hb'
          · rename_i e1; subst e1; left; rw [h2]; simp
          · exact .inl hb'
    · cases e
  · cases e
end
end Go.Ev
namespace Go.Ev
open Go.Eng
section
variable {P:Program} {ρ:Rn} {fr:Fr} {ev:Operand→Value} {w:World} {h:AH} {η:PH} {dst:Option Tmp} {ty:TypeId} {pos:String} {aft:Array Edge} {g:Option (Nat × Bool)}
theorem w_st {t:TypeId} {x y:Operand} {i:In} {v:Value} {h':AH} {a b:Od} {n:Nat} (hi:inOf P ⟨dst,.store t x y,ty,pos,aft,g⟩=some i) (he:i=.st a b n) (hv:evSt h n (evO fr a) (evO fr b)=some (v,h')) (hr:HR P ρ h η) (hw:η.le w) (hf:FR ρ fr) (hk:EK ρ fr ev #[x,y]) :
    LOK P ρ η ev w h ⟨dst,.store t x y,ty,pos,aft,g⟩ v h':=by
  subst he;simp only [inOf] at hi
  split at hi
  · rename_i x' y' n' h1 h2 hs
    cases hi
    unfold evSt at hv
    split at hv
    · rename_i r o u hx hy
      cases hb:Nat.beq (cl u).length n with
      | false=>rw [hb] at hv; cases hv
      | true =>
        rw [hb] at hv;simp only [cond_true] at hv
        split at hv
        · rename_i h2' hst
          cases hv
          obtain ⟨p,p1,p2⟩:=od_ev hf hk (by simp) h1 hx
          obtain ⟨q,q1,q2⟩:=od_ev hf hk (by simp) h2 hy
          obtain ⟨b,s,e,hρ,rfl⟩:=rn_ptr p1
          have k1:=rn_cl q1
          obtain ⟨r1,r2,_,_,_,η',r3,r4⟩:=storeN_run (P:=P) hr hw hst hρ k1
          have hl:=rnL_len k1
          have hn:=Nat.eq_of_beq_eq_true hb
          refine ⟨by omega,fun _=>⟨undef,ρ,η',_,.inr ⟨?_,rfl⟩,rfl,r3,r4,Ext.refl⟩⟩
          have hsz:q.cells.size=n:=by rw [← Array.length_toList,hl,hn]
          simp [execOp,p2,q2,Instr.storeAt,Instr.sureAddr,storeVar,Eng.run_sizeOf hs,hsz,r1]
        · cases hv
    · cases hv
  · cases hi
theorem rep_get {l:List Value}:∀ (n i:Nat),i<n*l.length→(rep l n)[i]?=l[i % l.length]?
  | 0,i,h=>by simp at h
  | n+1,i,h=>by
    rw [Nat.add_mul] at h;unfold rep
    rcases Nat.lt_or_ge i l.length with h1|h1
    · rw [List.getElem?_append_left h1,Nat.mod_eq_of_lt h1]
    · rw [List.getElem?_append_right h1,rep_get n (i-l.length) (by omega)]
      rw [Nat.mod_eq_sub_mod h1]
theorem rep_len {l:List Value}:∀ (n:Nat),(rep l n).length=n*l.length
  | 0=>by simp [rep]
  | n+1=>by rw [rep,List.length_append,rep_len n,Nat.add_mul]; omega
theorem made_rep {z:Array Value} {n s:Nat} (hs:z.size=s):madeCells z (n*s)=(rep z.toList n).toArray:=by
  subst hs
  apply Array.ext'
  apply List.ext_getElem?
  intro i
  rcases Nat.lt_or_ge i (n*z.size) with h1|h1
  · rw [show (rep z.toList n).toArray.toList=rep z.toList n from rfl,rep_get n i (by simpa using h1)]
    have h0:0<z.size:=by
      rcases Nat.eq_zero_or_pos z.size with h0|h0
      · rw [h0] at h1; omega
      · exact h0
    have hm:i % z.size<z.size:=Nat.mod_lt _ h0
    simp [madeCells,h1,hm]
  · rw [List.getElem?_eq_none (by simp [madeCells]; exact h1),List.getElem?_eq_none (by simp [rep_len]; exact h1)]
theorem rnL_rep {l us:List Value} (h:rnL ρ l=some us):∀ (n:Nat),rnL ρ (rep l n)=some (rep us n)
  | 0=>rfl
  | n+1=>rnL_append.2 ⟨_,_,h,rnL_rep h n,rfl⟩
theorem zeroCells_rep {z:Array Value} {n:Nat}:Builtin.zeroCells z n=(rep z.toList n).toArray:=made_rep (n:=n) (z:=z) rfl
theorem w_bsl {t:TypeId} {n0:Nat} {ps:Array (Nat × Operand)} {wr:Wr} {v:Value} {h':AH} (hi:inOf P ⟨dst,.buildSlice t n0 ps,ty,pos,aft,g⟩=some (.wr wr)) (hv:evWr fr h wr=some (v,h')) (hr:HR P ρ h η) (hw:η.le w) (hf:FR ρ fr) (hk:EK ρ fr ev (Op.buildSlice t n0 ps).operands) :
    LOK P ρ η ev w h ⟨dst,.buildSlice t n0 ps,ty,pos,aft,g⟩ v h':=by
  have hx:∀ x∈ps.toList.map (·.2),x∈(Op.buildSlice t n0 ps).operands:=fun x hx=>by simpa [Op.operands] using hx
  have hps:ps.map (fun (x:Nat × Operand)=>(x.1,ev x.2))=(ps.toList.map fun (x:Nat × Operand)=>(x.1,ev x.2)).toArray:=by
    rw [← Array.toList_map]
  simp only [inOf] at hi
  split at hi
  · rename_i e ht
    split at hi
    · rename_i s zs hs hz
      cases hb:zs.length.beq s with
      | false=>rw [hb] at hi; cases hi
      | true =>
        rw [hb] at hi;simp only [cond_true,Option.map_eq_some_iff] at hi
        obtain ⟨qs,hq,e1⟩:=hi
        cases e1
        have hv:wrBsl h e n0 s (fillO (rep zs n0) (evPs fr qs))=some (v,h'):=hv
        unfold wrBsl at hv
        split at hv
        · rename_i cs hcs
          cases hle0:(Nat.ble (n0*s) 16777216 && Nat.blt n0 big) with
          | false=>rw [hle0] at hv; cases hv
          | true =>
            rw [hle0] at hv;simp only [cond_true] at hv
            obtain ⟨hle,hlt⟩:=Bool.and_eq_true_iff.1 hle0
            obtain ⟨i,e1,rfl⟩:=slcN_some hv
            obtain ⟨rfl,e2⟩:=newC_some e1
            unfold fillO at hcs
            split at hcs
            · rename_i l hl
              obtain ⟨z,z1,z2,z3⟩:=zsP_some (ρ:=ρ) hz
              have hzl:=Nat.eq_of_beq_eq_true hb
              obtain ⟨r',f1,f2⟩:=fill_ev hf hk (plcA_ok hq) hx hl hcs (rnL_rep z3 n0)
              refine ⟨new_next e2,fun hfr=>?_⟩
              obtain ⟨k1,k2,k3⟩:=new_cells hr hw e2 f1 hfr
              have hbig:n0<big:=blt_t.1 hlt
              refine ⟨.slice (some ⟨w.heap.size,0,none⟩) n0 n0,_,_,_,.inl ?_,by rw [rn_sl1 rn_new hbig],k1,k2,k3⟩
              have hzs:z.cells.size=s:=by rw [← Array.length_toList,z2,hzl]
              have hmade:=made_rep (n:=n0) hzs
              rw [z2] at hmade;rw [← hmade] at f2
              by_cases h0:n0*s=0
              · have hz0:madeCells z.cells (n0*s) = #[]:=by rw [h0]; simp [madeCells]
                rw [hz0] at f2;simp only [execOp,Instr.buildSlice]
                have hz1:(Array.range 0:Array Nat) = #[]:=rfl
                simp [run_underlying ht,Eng.run_sizeOf hs,h0,newRow,hz1,f2]
              · simp only [execOp,Instr.buildSlice]
                simp only [madeCells] at f2
                simp [run_underlying ht,Eng.run_sizeOf hs,run_zeroValue z1,h0,Nat.not_lt.2 (Nat.le_of_ble_eq_true hle),newRow,f2]
            · cases hcs
        · cases hv
    · cases hi
  · cases hi
theorem natI_some {x:Option Value} {n:Nat} (e:natI x=some n):x=some (.int .i64 (n:Int)):=by
  unfold natI at e
  split at e
  · cases e; rfl
  · cases e
theorem w_mks {t:TypeId} {x y:Operand} {wr:Wr} {v:Value} {h':AH} (hi:inOf P ⟨dst,.makeSlice t x y,ty,pos,aft,g⟩=some (.wr wr)) (hv:evWr fr h wr=some (v,h')) (hr:HR P ρ h η) (hw:η.le w) (hf:FR ρ fr) (hk:EK ρ fr ev #[x,y]) :
    LOK P ρ η ev w h ⟨dst,.makeSlice t x y,ty,pos,aft,g⟩ v h':=by
  simp only [inOf] at hi
  split at hi
  · rename_i e lo co ht h1 h2
    split at hi
    · rename_i s by_ zs hs hby hz
      cases hb:zs.length.beq s with
      | false=>rw [hb] at hi; cases hi
      | true =>
        rw [hb] at hi
        cases hi
        have hv:wrMks h e by_ zs (natI (evO fr lo)) (natI (evO fr co))=some (v,h'):=hv
        unfold wrMks at hv
        split at hv
        · rename_i l c hl hc
          cases hle0:(Nat.ble l c && Nat.ble (by_*c) 281474976710656 && Nat.ble c 70368744177664) with
          | false=>rw [hle0] at hv; cases hv
          | true =>
            rw [hle0] at hv;simp only [cond_true] at hv
            obtain ⟨hle1,hc3⟩:=Bool.and_eq_true_iff.1 hle0
            obtain ⟨hc1,hc2⟩:=Bool.and_eq_true_iff.1 hle1
            have hc1:=Nat.le_of_ble_eq_true hc1
            have hc2:=Nat.le_of_ble_eq_true hc2
            have hc3:=Nat.le_of_ble_eq_true hc3
            obtain ⟨i,e1,rfl⟩:=slcN_some hv
            obtain ⟨rfl,e2⟩:=newC_some e1
            obtain ⟨z,z1,z2,z3⟩:=zsP_some (ρ:=ρ) hz
            have hzl:=Nat.eq_of_beq_eq_true hb
            have hzs:z.cells.size=s:=by rw [← Array.length_toList,z2,hzl]
            refine ⟨new_next e2,fun hfr=>?_⟩
            obtain ⟨k1,k2,k3⟩:=new_cells hr hw e2 (rnL_rep z3 c) hfr
            have hbig:c<big:=by simp only [big]; omega
            refine ⟨.slice (some ⟨w.heap.size,0,none⟩) l c,_,_,_,.inl ?_,by rw [rn_sl1 rn_new hbig],k1,k2,k3⟩
            obtain ⟨p,p1,p2⟩:=od_ev hf hk (x:=x) (by simp) h1 (natI_some hl)
            obtain ⟨q,q1,q2⟩:=od_ev hf hk (x:=y) (by simp) h2 (natI_some hc)
            cases p1; cases q1
            obtain ⟨inf,i1,rfl,i2,rfl⟩:=info_of hs z1 hby
            have hrun:=run_make (P:=P) w t e inf z ht i1 i2 .i64 .i64 l c (by omega) (by omega) (by rw [← Int.natCast_mul]; omega) (by omega)
            simp only [Int.toNat_natCast] at hrun;rw [made_rep hzs,z2] at hrun
            simp [execOp,p2,q2,hrun]
        · cases hv
    · cases hi
  · cases hi
theorem w_mkm {t:TypeId} {wr:Wr} {v:Value} {h':AH} (hi:inOf P ⟨dst,.makeMap t none,ty,pos,aft,g⟩=some (.wr wr)) (hv:evWr fr h wr=some (v,h')) (hr:HR P ρ h η) (hw:η.le w):LOK P ρ η ev w h ⟨dst,.makeMap t none,ty,pos,aft,g⟩ v h':=by
  cases hi
  have hv:wrMkm h (h.new (.map [] 0))=some (v,h'):=hv
  unfold wrMkm at hv
  split at hv
  · rename_i h2 hn
    cases hv
    have hnx:=(AH.get_new hn).2
    refine ⟨new_next hn,fun hfr=>?_⟩
    have hn0:ρ h.next=none:=hfr _ (Nat.le_refl _) (by omega)
    refine ⟨.map (some w.heap.size),_,_,_,.inl ?_,?_,hr.new hn hn0 (le_none hw) (s:=0) (ex:=0) (o:=.map #[] 0) ⟨[],rfl,rfl⟩,upd_alloc hw _,setR_le hn0,fun i hi=>?_⟩
    · simp [execOp,Instr.makeMap,newObj]
      rfl
    · simp only [rn,rn_new]
    · unfold setR at hi
      split at hi
      · rename_i e; exact .inr ⟨by omega,by omega⟩
      · exact .inl hi
  · cases hv
end
end Go.Ev
namespace Go.Ev
open Go.Eng
section
variable {P:Program} {ρ:Rn} {fr:Fr} {ev:Operand→Value} {w:World} {h:AH} {η:PH} {dst:Option Tmp} {ty:TypeId} {pos:String} {aft:Array Edge} {g:Option (Nat × Bool)}
theorem ods1 {l:List Operand} {x:Od} (e:odsOf l=some [x]):∃ a,l=[a]∧odOf a=some x:=by
  cases l with
  | nil=>cases e
  | cons a r =>
    simp only [odsOf] at e
    cases k1:odOf a with
    | none=>simp [k1] at e
    | some d=>cases k2:odsOf r with
      | none=>simp [k1,k2] at e
      | some r' =>
        simp only [k1,k2,Option.some.injEq,List.cons.injEq] at e
        obtain ⟨rfl,rfl⟩:=e
        cases r with
        | nil=>exact ⟨a,rfl,k1⟩
        | cons b r =>
          simp only [odsOf] at k2
          split at k2 <;> cases k2
theorem ods2 {l:List Operand} {x y:Od} (e:odsOf l=some [x,y]):∃ a b,l=[a,b]∧odOf a=some x∧odOf b=some y:=by
  cases l with
  | nil=>cases e
  | cons a r =>
    simp only [odsOf] at e
    cases k1:odOf a with
    | none=>simp [k1] at e
    | some d=>cases k2:odsOf r with
      | none=>simp [k1,k2] at e
      | some r' =>
        simp only [k1,k2,Option.some.injEq,List.cons.injEq] at e
        obtain ⟨rfl,rfl⟩:=e
        obtain ⟨b,rfl,k3⟩:=ods1 k2
        exact ⟨a,b,rfl,k1,k3⟩
theorem arr1 {α:Type} {xs:Array α} {a:α} (e:xs.toList=[a]):xs = #[a]:=by obtain ⟨l⟩:=xs; simp at e; subst e; rfl
theorem arr2 {α:Type} {xs:Array α} {a b:α} (e:xs.toList=[a,b]):xs = #[a,b]:=by obtain ⟨l⟩:=xs; simp at e; subst e; rfl
theorem upd_put (hw:η.le w) {b:Nat} {o0 o:Obj} (hb:η b=some o0):Upd [η] [setP η b (some o)] w { w with heap:=w.heap.setIfInBounds b o }:=by
  have h0:=hw b _ hb
  have hlt:=hw.lt (b:=b) (by rw [hb]; simp)
  refine Upd.one ⟨by simp,rfl,rfl,rfl,Nat.le_refl _⟩ (fun b' hb' hn=>?_) (fun b' ob' hb'=>?_) (fun b' hb'=>?_)
  · have:b≠b':=fun e=>by subst e; rw [hb] at hn; cases hn
    simp [Array.getElem?_setIfInBounds,this]
  · unfold setP at hb'
    split at hb'
    · rename_i e1; cases hb'; subst e1; simp [Array.getElem?_setIfInBounds,hlt]
    · rename_i e1
      have:=hw b' ob' hb'
      simp [Array.getElem?_setIfInBounds,Ne.symm e1,this]
  · unfold setP at hb'
    split at hb'
    · rename_i e1; subst e1; left; rw [hb]; simp
    · exact .inl hb'
theorem setN_ok {v k:Value} {v' k':Value} (hv:rn ρ v=some v') (hk:rn ρ k=some k'):∀ {j:Nat} {es es' r:List MapEntry},rnE ρ es=some es'→setN v k j es=some r→rnE ρ r=some (es'.modify j fun e=>{ e with key:=k',val:=v' })
  | _,[],es',r,_,e=>by simp [setN] at e
  | 0,m::l,es',r,h,e=>by
    simp only [setN,Option.some.injEq] at e;subst e;simp only [rnE] at h ⊢
    cases h1:rn ρ m.key with
    | none=>simp [h1] at h
    | some k2=>cases h2:rn ρ m.val with
      | none=>simp [h1,h2] at h
      | some v2=>cases h3:rnE ρ l with
        | none=>simp [h1,h2,h3] at h
        | some l' =>
          simp only [h1,h2,h3,Option.some.injEq] at h;subst h;simp only [hv,hk]
          rfl
  | n+1,m::l,es',r,h,e=>by
    simp only [setN] at e
    cases h0:setN v k n l with
    | none=>simp [h0] at e
    | some r' =>
      simp only [h0,Option.some.injEq] at e;subst e;simp only [rnE] at h ⊢
      cases h1:rn ρ m.key with
      | none=>simp [h1] at h
      | some k2=>cases h2:rn ρ m.val with
        | none=>simp [h1,h2] at h
        | some v2=>cases h3:rnE ρ l with
          | none=>simp [h1,h2,h3] at h
          | some l' =>
            simp only [h1,h2,h3,Option.some.injEq] at h;subst h;simp only [setN_ok hv hk h3 h0]
            rfl
theorem rnE_snoc {m:MapEntry} {k' v':Value} (hk:rn ρ m.key=some k') (hv:rn ρ m.val=some v'):∀ {es es':List MapEntry},rnE ρ es=some es'→rnE ρ (es ++ [m])=some (es' ++ [⟨k',v',m.born⟩])
  | [],es',h=>by cases h; simp [rnE,hk,hv]
  | x::l,es',h=>by
    simp only [rnE,List.cons_append] at h ⊢
    cases h1:rn ρ x.key with
    | none=>simp [h1] at h
    | some k2=>cases h2:rn ρ x.val with
      | none=>simp [h1,h2] at h
      | some v2=>cases h3:rnE ρ l with
        | none=>simp [h1,h2,h3] at h
        | some l' =>
          simp only [h1,h2,h3,Option.some.injEq] at h;subst h;simp only [rnE_snoc hk hv h3]
          rfl
theorem mup_ok {mt kt et:TypeId} {n:Nat} {m v:Value} {r:Nat} {k k' av v':Value} {h':AH} (hr:HR P ρ h η) (hw:η.le w) (ht:P.underlying mt=some (.map kt et)) (hkt:keyN P kt=some n)
    (e:wrMup h n (some (.map (some r))) (some k) (some av)=some (v,h')) (hm:rn ρ (.map (some r))=some m) (hkk:rn ρ k=some k') (hv:rn ρ av=some v') :
    v=undef∧h'.next=h.next∧∃ η' w',(Instr.mapUpdate mt m k' v').run P w=.ok () w'∧HR P ρ h' η'∧Upd [η] [η'] w w':=by
  simp only [wrMup] at e
  split at e
  · rename_i es cl hg
    obtain ⟨b,s,ex,es',h1,h2,h3,h4⟩:=map_at hr hw hg
    simp only [rn,h1,Option.some.injEq] at hm;subst hm
    have hgo:(getObj b).run P w=.ok (.map es'.toArray cl) w:=by simp [getObj,Sem.run,h3]
    have hso:∀ o,(setObj b o).run P w=.ok () { w with heap:=w.heap.setIfInBounds b o }:=fun o=>by simp [setObj,Sem.run,h3]
    unfold mupO at e
    split at e
    · rename_i es2 cl2 hms
      split at e
      · rename_i hp hput
        cases e
        unfold mapSet at hms
        split at hms
        · rename_i j v0 hfk
          split at hms
          · rename_i r' hset
            cases hms
            obtain ⟨rfl,hc,hsb,v2,q1,hfk2,_,q6⟩:=findA_run (w:=w) hkt hfk h2 hkk
            have hst:(Instr.keyThatStays k' k').run P w=.ok k' w:=by
              unfold Instr.keyThatStays;rw [if_pos hsb]; rfl
            have hor:OR P ρ s ex (.map es2 cl) (.map (es'.modify j fun e=>{ e with key:=k',val:=v' }).toArray cl):=⟨_,rfl,setN_ok hv hkk h2 hset⟩
            refine ⟨rfl,put_next hput,_,_,?_,hr.put hg hput h1 hor,upd_put hw h4⟩
            have hs:(((es'.toArray[j]?).map (·.key)).getD k')=k':=by
              have:es'.toArray[j]?=es'[j]?:=by simp
              rw [this,q6]; rfl
            have hmod:es'.toArray.modify j (fun e=>{ e with key:=k',val:=v' })=(es'.modify j fun e=>{ e with key:=k',val:=v' }).toArray:=by simp
            rw [← hmod];simp only [Instr.mapUpdate]
            simp [run_underlying ht,hgo,hc,hfk2]
            simp only [List.getElem?_toArray] at hs;rw [hs]
            simp [hst,hso]
          · cases hms
        · rename_i hfk
          cases hms
          obtain ⟨rfl,hc,_,hfk2⟩:=findA_run (w:=w) hkt hfk h2 hkk
          have hor:OR P ρ s ex (.map (es ++ [(⟨k',av,cl⟩:MapEntry)]) (cl+1)) (.map (es' ++ [(⟨k',v',cl⟩:MapEntry)]).toArray (cl+1)):=⟨es' ++ [(⟨k',v',cl⟩:MapEntry)],rfl,rnE_snoc (m:=⟨k',av,cl⟩) hkk hv h2⟩
          refine ⟨rfl,put_next hput,_,_,?_,hr.put hg hput h1 hor,upd_put hw h4⟩
          simp [Instr.mapUpdate,run_underlying ht,hgo,hc,hfk2,hso]
        · cases hms
      · cases e
    · cases e
  · cases e
end
end Go.Ev
namespace Go.Ev
open Go.Eng
section
variable {P:Program} {ρ:Rn} {fr:Fr} {ev:Operand→Value} {w:World} {h:AH} {η:PH} {dst:Option Tmp} {ty:TypeId} {pos:String} {aft:Array Edge} {g:Option (Nat × Bool)}
theorem mup_in {n:Nat} {x y z:Option Value} {v:Value} {h':AH} (e:wrMup h n x y z=some (v,h')):∃ r k u,x=some (.map (some r))∧y=some k∧z=some u:=by
  unfold wrMup at e
  split at e
  · exact ⟨_,_,_,rfl,rfl,rfl⟩
  · cases e
theorem w_mup {t:TypeId} {m k y:Operand} {o:Op} (ho:o=.mapUpdate t m k y∨o=.insert t m k y) {wr:Wr} {v:Value} {h':AH} (hi:inOf P ⟨dst,o,ty,pos,aft,g⟩=some (.wr wr)) (hv:evWr fr h wr=some (v,h')) (hr:HR P ρ h η) (hw:η.le w) (hf:FR ρ fr) (hk:EK ρ fr ev #[m,k,y]) :
    LOK P ρ η ev w h ⟨dst,o,ty,pos,aft,g⟩ v h':=by
  have hi:(match P.underlying t,odOf m,odOf k,odOf y with
    | some (.map kt _),some m,some k,some v=>match keyN P kt with
      | some n=>some (In.wr (.mup m k v n))
      | none=>none
    | _,_,_,_=>none)=some (.wr wr):=by rcases ho with rfl|rfl <;> exact hi
  split at hi
  · rename_i kt et dm dk dy ht h1 h2 h3
    split at hi
    · rename_i n hkt
      cases hi
      have hv:wrMup h n (evO fr dm) (evO fr dk) (evO fr dy)=some (v,h'):=hv
      obtain ⟨r,kv,u,e1,e2,e3⟩:=mup_in hv
      rw [e1,e2,e3] at hv
      obtain ⟨p,p1,p2⟩:=od_ev hf hk (x:=m) (by simp) h1 e1
      obtain ⟨q,q1,q2⟩:=od_ev hf hk (x:=k) (by simp) h2 e2
      obtain ⟨s,s1,s2⟩:=od_ev hf hk (x:=y) (by simp) h3 e3
      obtain ⟨rfl,k1,η',w',k2,k3,k4⟩:=mup_ok (mt:=t) hr hw ht hkt hv p1 q1 s1
      refine ⟨by omega,fun _=>⟨undef,ρ,η',w',.inr ⟨?_,rfl⟩,rfl,k3,k4,Ext.refl⟩⟩
      rcases ho with rfl|rfl <;> simp [execOp,p2,q2,s2,k2]
    · cases hi
  · cases hi
theorem bytesV_map:∀ (l:List UInt8),bytesV l=l.map fun b=>.int .u8 (b.toNat:Int)
  | []=>rfl
  | b::l=>by rw [bytesV,bytesV_map l]; rfl
theorem rnL_bytes:∀ (l:List UInt8),rnL ρ (bytesV l)=some (bytesV l)
  | []=>rfl
  | b::l=>rnL_cons.2 ⟨_,_,rfl,rnL_bytes l,rfl⟩
theorem behind_ok (hr:HR P ρ h η) {s m:Nat} {y y':Value} {news:List Value} (e:behind h s y=some (m,news)) (hy:rn ρ y=some y') :
    ∃ us,rnL ρ news=some us∧us.length=m*s∧(∀ w,(Builtin.lenOf y').run P w=.ok m w)∧∀ n w,n≤m→η.le w→(Builtin.firstCells s n y').run P w=.ok (us.take (n*s)).toArray w:=by
  unfold behind at e
  split at e
  · rename_i i o n c
    split at e
    · rename_i l hl
      simp only [Option.some.injEq,Prod.mk.injEq] at e
      obtain ⟨rfl,rfl⟩:=e
      have hll:l.length=n*s∧∃ cs t,h.get i=some (.cells cs t)∧l=(cs.drop o).take (n*s):=by
        unfold loadN at hl
        split at hl
        · rename_i cs t hi
          obtain ⟨l0,e2,e3⟩:=takeO_some hl
          obtain ⟨rfl,k1⟩:=dropC_eq _ _ _ e2
          obtain ⟨rfl,k2⟩:=takeC_eq _ _ _ e3
          exact ⟨by rw [List.length_take]; omega,cs,t,hi,rfl⟩
        · cases hl
      rcases Nat.eq_zero_or_pos n with rfl|hn
      · obtain ⟨b,o',c',rfl⟩:=rnS_any (by rw [← rn_eq]; exact hy)
        have h0:l=[]:=List.length_eq_zero_iff.1 (by rw [hll.1]; omega)
        subst h0
        refine ⟨[],rfl,by simp,fun _=>rfl,fun n w hn _=>?_⟩
        have:=loadCells_run (P:=P) (w:=w) (b:=b) (o:=o') (us:=[]) (fun _ _ h=>by cases h)
        have hn0:n=0:=by omega
        subst hn0
        simpa [Builtin.firstCells] using this
      · obtain ⟨b,s0,ex,c',hρ,rfl⟩:=rnS_pos (by rw [← rn_eq]; exact hy) hn
        obtain ⟨cs,t,hi,hl2⟩:=hll.2
        obtain ⟨b2,s2,e2,ob,k1,k2,k3⟩:=hr.val i _ hi
        rw [hρ] at k1; cases k1
        obtain ⟨pre,us,post,fz,k,_,q1,_⟩:=id k3
        have q2:=(rnL_split (n*s) (rnL_split o q1).2).1
        rw [← hl2] at q2
        have hlen:=rnL_len q2
        refine ⟨_,q2,by rw [hlen,hll.1],fun _=>rfl,fun m w hm hw=>?_⟩
        have hms:m*s≤n*s:=Nat.mul_le_mul_right s hm
        have:=loadCells_run (P:=P) (w:=w) (b:=b) (o:=s0+o) (us:=((us.drop o).take (n*s)).take (m*s)) (fun j u hu=>by
          rw [List.take_take,Nat.min_eq_left hms] at hu
          have hj:j<m*s:=by
            have:=(List.getElem?_eq_some_iff.1 hu).1
            simp at this; omega
          rw [List.getElem?_take_of_lt hj,List.getElem?_drop] at hu
          have:=hr.cell hw hi hρ q1 hu
          rw [Nat.add_assoc]; exact this)
        have hl3:(((us.drop o).take (n*s)).take (m*s)).length=m*s:=by
          rw [List.length_take,hlen,hll.1]; omega
        rw [hl3] at this
        simpa [Builtin.firstCells] using this
    · cases e
  · rename_i n c
    cases hn:n.beq 0 with
    | false=>rw [hn] at e; cases e
    | true =>
      rw [hn] at e
      cases e
      have:=Nat.eq_of_beq_eq_true hn
      subst this
      cases hy
      exact ⟨[],rfl,by simp,fun _=>rfl,fun n w _ _=>by simp [Builtin.firstCells]⟩
  · rename_i b
    cases hs:s.beq 1 with
    | false=>rw [hs] at e; cases e
    | true =>
      rw [hs,fL1_eq] at e;simp only [cond_true,Option.some.injEq,Prod.mk.injEq] at e
      obtain ⟨rfl,rfl⟩:=e
      have:=Nat.eq_of_beq_eq_true hs
      subst this
      cases hy
      refine ⟨_,rnL_bytes _,by simp [bytesV_map],fun _=>?_,fun n w hn _=>?_⟩
      · simp [Builtin.lenOf]
      · simp only [Builtin.firstCells,Sem.run_pure]
        congr 1
        apply Array.ext'
        simp [bytesV_map]
  · cases e
theorem cpy_in {o:Oper} {xs:Option (List Od)} {ts:List TypeId} {i:In} (e:inCallB P o .copy xs ts=some i):∃ x y t u el s,xs=some [x,y]∧ts=[t,u]∧P.underlying t=some (.slice el)∧szP P el=some s∧i=.wr (.cpy s x y):=by
  unfold inCallB at e
  split at e
  case _ h=>cases h
  case _ h=>cases h
  case _ h=>cases h
  case _ h=>cases h
  case _ x y t u _ =>
    split at e
    · rename_i el ht
      split at e
      · rename_i s hs
        cases e
        exact ⟨_,_,_,_,_,_,rfl,rfl,ht,hs,rfl⟩
      · cases e
    · cases e
  all_goals first|(rename_i h; cases h; done)|(cases e; done)
theorem clr_in {o:Oper} {xs:Option (List Od)} {ts:List TypeId} {i:In} (e:inCallB P o .clear xs ts=some i):∃ x t el s zs,xs=some [x]∧ts=[t]∧P.underlying t=some (.slice el)∧szP P el=some s∧zsP P el=some zs∧zs.length=s∧i=.wr (.clr s zs x):=by
  unfold inCallB at e
  split at e
  case _ h=>cases h
  case _ h=>cases h
  case _ h=>cases h
  case _ h=>cases h
  case _ h=>cases h
  case _ x t _ =>
    split at e
    · rename_i el ht
      split at e
      · rename_i s zs hs hz
        cases hb:zs.length.beq s with
        | false=>rw [hb] at e; cases e
        | true =>
          rw [hb] at e
          cases e
          exact ⟨_,_,_,_,_,rfl,rfl,ht,hs,hz,Nat.eq_of_beq_eq_true hb,rfl⟩
      · cases e
    · cases e
  all_goals first|(rename_i h; cases h; done)|(cases e; done)
theorem app_in {o:Oper} {xs:Option (List Od)} {ts:List TypeId} {i:In} (e:inCallB P o .append xs ts=some i):∃ x y t u el s b zs,xs=some [x,y]∧ts=[t,u]∧P.underlying t=some (.slice el)∧((∃ e',P.underlying u=some (.slice e'))∨P.underlying u=some .string)∧szP P el=some s∧bytesP P el=some b∧zsP P el=some zs∧zs.length=s∧i=.wr (.app el s b x y):=by
  unfold inCallB at e
  split at e
  case _ h=>cases h
  case _ h=>cases h
  case _ h=>cases h
  case _ x y t u _ =>
    split at e
    · rename_i el e' ht hu
      split at e
      · rename_i s b zs hs hb hz
        cases hl:zs.length.beq s with
        | false=>rw [hl] at e; cases e
        | true =>
          rw [hl] at e
          cases e
          exact ⟨_,_,_,_,_,_,_,_,rfl,rfl,ht,.inl ⟨_,hu⟩,hs,hb,hz,Nat.eq_of_beq_eq_true hl,rfl⟩
      · cases e
    · rename_i el ht hu
      split at e
      · rename_i s b zs hs hb hz
        cases hl:zs.length.beq s with
        | false=>rw [hl] at e; cases e
        | true =>
          rw [hl] at e
          cases e
          exact ⟨_,_,_,_,_,_,_,_,rfl,rfl,ht,.inr hu,hs,hb,hz,Nat.eq_of_beq_eq_true hl,rfl⟩
      · cases e
    · cases e
  all_goals first|(rename_i h; cases h; done)|(cases e; done)
theorem goInt_rn {n:Nat}:rn ρ (.int .i64 (.ofNat n))=some (goInt n):=rfl
theorem w_cpy {c:Call} (hc:c.callee=.builtin .copy) {wr:Wr} {v:Value} {h':AH} (hi:inOf P ⟨dst,.call c,ty,pos,aft,g⟩=some (.wr wr)) (hv:evWr fr h wr=some (v,h')) (hr:HR P ρ h η) (hw:η.le w) (hf:FR ρ fr) (hk:EK ρ fr ev (Op.call c).operands) :
    LOK P ρ η ev w h ⟨dst,.call c,ty,pos,aft,g⟩ v h':=by
  obtain ⟨cal,args,ts⟩:=c
  simp only at hc;subst hc;simp only [inOf,inCall] at hi
  obtain ⟨x,y,t,u,el,s,e1,e2,ht,hs,e3⟩:=cpy_in hi
  cases e3
  obtain ⟨xa,ya,e4,hx,hy⟩:=ods2 e1
  have e4:=arr2 e4
  have e2:=arr2 e2
  subst e4 e2
  have hv:wrCpy h s (evO fr x) (evO fr y)=some (v,h'):=hv
  unfold wrCpy at hv
  split at hv
  · rename_i a n cp yv hxa hyv
    obtain ⟨p,p1,p2⟩:=od_ev hf hk (x:=xa) (by simp [Op.operands,Call.operands]) hx hxa
    obtain ⟨q,q1,q2⟩:=od_ev hf hk (x:=ya) (by simp [Op.operands,Call.operands]) hy hyv
    unfold cpyO at hv
    split at hv
    · rename_i m news hb
      obtain ⟨us,b1,b2,b3,b4⟩:=behind_ok (P:=P) hr hb q1
      split at hv
      · rename_i i o
        unfold stO at hv
        split at hv
        · rename_i l hl
          split at hv
          · rename_i h2 hst
            cases hv
            obtain ⟨rfl,hle⟩:=takeC_eq _ _ _ hl
            have hmn:Nat.min m n≤m:=Nat.min_le_left m n
            have hfc:=b4 (Nat.min m n) w hmn hw
            have k1:=(rnL_split (Nat.min m n*s) b1).1
            rcases Nat.eq_zero_or_pos n with rfl|hn
            · obtain ⟨b,o',c',rfl⟩:=rnS_any (by rw [← rn_eq]; exact p1)
              obtain ⟨b0,s0,e0,hρ⟩:∃ b s e,ρ i=some (b,s,e):=by
                unfold storeN at hst
                split at hst
                · rename_i c t hi
                  obtain ⟨b,s,e,ob,h1,_⟩:=hr.val i _ hi
                  exact ⟨_,_,_,h1⟩
                · cases hst
              obtain ⟨r1,r2,_,_,_,η',r3,r4⟩:=storeN_run (P:=P) hr hw hst hρ k1
              have hz:Nat.min m 0=0:=Nat.min_eq_right (Nat.zero_le m)
              rw [hz] at hfc r4;simp only [Nat.zero_mul,List.take_zero,setCells_nil] at hfc r4
              refine ⟨by omega,fun _=>⟨_,ρ,η',_,.inl ?_,goInt_rn,r3,r4,Ext.refl⟩⟩
              rw [hz]
              simp [execOp,resolve,p2,q2,invoke,builtin,Builtin.copy_,run_underlying ht,b3,Eng.run_sizeOf hs,hz,hfc,storeCells]
            · obtain ⟨b,s0,ex,c',hρ,rfl⟩:=rnS_pos (by rw [← rn_eq]; exact p1) hn
              obtain ⟨r1,r2,_,_,_,η',r3,r4⟩:=storeN_run (P:=P) hr hw hst hρ k1
              refine ⟨by omega,fun _=>⟨_,ρ,η',_,.inl ?_,goInt_rn,r3,r4,Ext.refl⟩⟩
              simp [execOp,resolve,p2,q2,invoke,builtin,Builtin.copy_,run_underlying ht,b3,Eng.run_sizeOf hs,hfc,r1]
          · cases hv
        · cases hv
      · cases hv
        cases p1
        have hfc:=b4 (Nat.min m n) w (Nat.min_le_left m n) hw
        refine ⟨Nat.le_refl _,fun _=>⟨_,ρ,η,w,.inl ?_,goInt_rn,hr,?_,Ext.refl⟩⟩
        · simp [execOp,resolve,p2,q2,invoke,builtin,Builtin.copy_,run_underlying ht,b3,Eng.run_sizeOf hs,hfc]
        · exact Upd.one ⟨Nat.le_refl _,rfl,rfl,rfl,Nat.le_refl _⟩ (fun _ _ _=>rfl) hw (fun _ h=>.inl h)
      · cases hv
    · cases hv
  · cases hv
theorem w_clr {c:Call} (hc:c.callee=.builtin .clear) {wr:Wr} {v:Value} {h':AH} (hi:inOf P ⟨dst,.call c,ty,pos,aft,g⟩=some (.wr wr)) (hv:evWr fr h wr=some (v,h')) (hr:HR P ρ h η) (hw:η.le w) (hf:FR ρ fr) (hk:EK ρ fr ev (Op.call c).operands) :
    LOK P ρ η ev w h ⟨dst,.call c,ty,pos,aft,g⟩ v h':=by
  obtain ⟨cal,args,ts⟩:=c
  simp only at hc;subst hc;simp only [inOf,inCall] at hi
  obtain ⟨x,t,el,s,zs,e1,e2,ht,hs,hz,hzl,e3⟩:=clr_in hi
  cases e3
  obtain ⟨xa,e4,hx⟩:=ods1 e1
  have e4:=arr1 e4
  have e2:=arr1 e2
  subst e4 e2
  have hv:wrClr h zs (evO fr x)=some (v,h'):=hv
  unfold wrClr at hv
  split at hv
  · rename_i a n cp hxa
    obtain ⟨p,p1,p2⟩:=od_ev hf hk (x:=xa) (by simp [Op.operands,Call.operands]) hx hxa
    cases hn:n.beq 0 with
    | true =>
      rw [hn] at hv
      have:=Nat.eq_of_beq_eq_true hn
      subst this
      cases hv
      have hp:∃ a c,p=.slice a 0 c:=by
        rcases a with _|⟨i,o,_|sp⟩
        · cases p1; exact ⟨_,_,rfl⟩
        · obtain ⟨_,_,_,rfl⟩:=rnS_any (by rw [← rn_eq]; exact p1); exact ⟨_,_,rfl⟩
        · simp [rn] at p1
      obtain ⟨a',c',rfl⟩:=hp
      refine ⟨Nat.le_refl _,fun _=>⟨.tuple #[],ρ,η,w,.inl ?_,rfl,hr,?_,Ext.refl⟩⟩
      · cases a' <;> simp [execOp,resolve,p2,invoke,builtin,Builtin.clear_,run_underlying ht]
      · exact Upd.one ⟨Nat.le_refl _,rfl,rfl,rfl,Nat.le_refl _⟩ (fun _ _ _=>rfl) hw (fun _ h=>.inl h)
    | false =>
      rw [hn] at hv;simp only [cond_false] at hv
      have hn:0<n:=by
        rcases Nat.eq_zero_or_pos n with h0|h0
        · subst h0; cases hn
        · exact h0
      split at hv
      · rename_i i o
        unfold stO at hv
        split at hv
        · rename_i l hl
          cases hl
          split at hv
          · rename_i h2 hst
            cases hv
            obtain ⟨z,z1,z2,z3⟩:=zsP_some (ρ:=ρ) hz
            have k1:=rnL_rep z3 n
            obtain ⟨b,s0,ex,c',hρ,rfl⟩:=rnS_pos (by rw [← rn_eq]; exact p1) hn
            obtain ⟨r1,r2,_,_,_,η',r3,r4⟩:=storeN_run (P:=P) hr hw hst hρ k1
            refine ⟨by omega,fun _=>⟨.tuple #[],ρ,η',_,.inl ?_,rfl,r3,r4,Ext.refl⟩⟩
            have hzr:=zeroCells_rep (z:=z.cells) (n:=n)
            rw [z2] at hzr
            obtain ⟨n1,rfl⟩:∃ n1,n=n1+1:=⟨n-1,by omega⟩
            simp [execOp,resolve,p2,invoke,builtin,Builtin.clear_,run_underlying ht,run_zeroValue z1,hzr,r1]
          · cases hv
        · cases hv
      · cases hv
  · cases hv
end
end Go.Ev
namespace Go.Ev
open Go.Eng
section
variable {P:Program} {ρ:Rn} {fr:Fr} {ev:Operand→Value} {w:World} {h:AH} {η:PH} {dst:Option Tmp} {ty:TypeId} {pos:String} {aft:Array Edge} {g:Option (Nat × Bool)}
theorem oneAll_ok:∀ {l:List Value},oneAll l=true→∀ v∈l,v.oneCell'=true
  | [],_,v,hv=>by cases hv
  | x::l,e,v,hv=>by
    have e:(Bool.rec (oneAll l) false (isAgg1 x):Bool)=true:=e
    cases hx:isAgg1 x with
    | true=>rw [hx] at e; cases e
    | false =>
      rw [hx] at e
      simp at hv
      rcases hv with rfl|hv
      · exact isAgg1_f hx
      · exact oneAll_ok (l:=l) e v hv
theorem mkS_some {n:Nat} {e:TypeId} {l:Option (List Value)} {v:Value} {h':AH} (q:mkS n e h l=some (v,h')):∃ l',l=some l'∧h.new (.cells l' e)=some h'∧v=.slice (some ⟨h.next,0,none⟩) n (big+n):=by
  unfold mkS at q
  split at q
  · split at q
    · rename_i hn; cases q; exact ⟨_,rfl,hn,rfl⟩
    · cases q
  · cases q
theorem catO_some {b l:List Value} {a:Option (List Value)} (q:catO b a=some l):∃ a',a=some a'∧l=a' ++ b:=by
  cases a with
  | none=>cases q
  | some a =>
    have q:catC a b=some l:=q
    rw [catC_eq] at q; cases q; exact ⟨a,rfl,rfl⟩
theorem rn_big {i n b s ex:Nat} (hρ:ρ i=some (b,s,ex)) (hn:n<big):rn ρ (.slice (some ⟨i,0,none⟩) n (big+n))=some (.slice (some ⟨b,s,none⟩) n (n+ex)):=by
  have h1:big≤big+n:=Nat.le_add_right _ _
  have h2:big+n<big2:=by simp only [big,big2] at *; omega
  have h3:sub1 (big+n)=n:=by simp only [sub1,big] at *; omega
  rw [rn_sl2 hρ h1 h2,h3]; rfl
theorem grow_ok {h0:AH} {η0:PH} {t tx e:TypeId} {s by_:Nat} {z:Value} {n m C:Nat} {base:Option Addr} {q:Value} {ol news olds us:List Value} {h':AH} (hr:HR P ρ h0 η0) (hw:η0.le w) (hsub:∀ b,η b=none→η0 b=none) (ht:P.underlying t=some (.slice e)) (hs:szP P e=some s) (hb:bytesP P e=some by_)
    (hz:zeroP P e=some z) (hzs:z.cells.size=s) (hsrc:Src P s tx q m us w) (hold:(Builtin.firstCells s n (.slice base n C)).run P w.drew=.ok olds.toArray w.drew) (hC:C<n+m) (h1:(n+m)*by_≤70368744177664) (h2:n+m≤70368744177664)
    (ho:rnL ρ ol=some olds) (hnw:rnL ρ news=some us) (hn:h0.new (.cells (ol ++ news) e)=some h') (hf:Fresh ρ h0.next h'.next) :
    ∃ u ρ' η' w',(Builtin.append_ #[t,tx] ty #[.slice base n C,q]).run P w=.ok u w'∧rn ρ' (.slice (some ⟨h0.next,0,none⟩) (n+m) (big+(n+m)))=some u∧HR P ρ' h' η'∧Upd [η] [η'] w w'∧Ext ρ ρ' h0.next h'.next:=by
  obtain ⟨i,hi,rfl,hiz,rfl⟩:=info_of hs hz hb
  have hrun:=run_append_grow_src (P:=P) w t tx ty e i z ht hi hiz base n C olds hold q m us hsrc hC (by omega) (growslice_fits hC (by omega))
  have hge:=grownCap_ge w (n+m) C e
  have hnx:=(AH.get_new hn).2
  have hn0:ρ h0.next=none:=hf _ (Nat.le_refl _) (by omega)
  have hbn:=le_none hw
  have hrow:(olds ++ us).toArray ++ Builtin.zeroCells z.cells (grownCap w (n+m) C e-(n+m))=([] ++ (olds ++ us) ++ rep z.cells.toList (grownCap w (n+m) C e-(n+m))).toArray:=by
    rw [zeroCells_rep]; simp
  rw [hrow] at hrun
  have hor:OR P (setR ρ h0.next (w.heap.size,0,grownCap w (n+m) C e-(n+m))) 0 (grownCap w (n+m) C e-(n+m)) (.cells (ol ++ news) e) (.cells ([] ++ (olds ++ us) ++ rep z.cells.toList (grownCap w (n+m) C e-(n+m))).toArray e (0,0)):=
    ⟨[],olds ++ us,_,(0,0),i.size,rfl,rnL_mono (setR_le hn0) (rnL_append.2 ⟨_,_,ho,hnw,rfl⟩),rfl,by rw [rep_len,Array.length_toList,hzs],.inr hs,noFz0 _⟩
  have hbig:n+m<big:=by simp only [big]; omega
  refine ⟨_,_,_,_,hrun,?_,hr.new hn hn0 hbn hor,?_,setR_le hn0,fun j hj=>?_⟩
  · rw [rn_big rn_new hbig]
    congr 2
    omega
  · have hsz:w.drew.heap=w.heap:=rfl
    refine Upd.one ⟨by simp [hsz],rfl,rfl,rfl,by show w.drawn≤w.drawn+1; omega⟩ (fun b hb _=>?_) (fun b ob hb=>?_) (fun b hb=>?_)
    · exact heap_alloc_old w.drew _ hb
    · unfold setP at hb
      split at hb
      · rename_i e; cases hb; subst e; exact heap_alloc_new w.drew _
      · rename_i e
        have l1:=hw b ob hb
        have l2:=hw.lt (b:=b) (by rw [hb]; simp)
        rw [heap_alloc_old w.drew _ l2]; exact l1
    · unfold setP at hb
      split at hb
      · rename_i e; exact .inr (by omega)
      · refine .inl fun e=>hb (hsub b e)
  · unfold setR at hj
    split at hj
    · rename_i e; exact .inr ⟨by omega,by omega⟩
    · exact .inl hj
theorem appU_ok {t tx e:TypeId} {s by_:Nat} {z:Value} {n m X i o1 b s0 ex:Nat} {cs:List Value} {q:Value} {news us:List Value} {h1 h':AH} (hr:HR P ρ h η) (hw:η.le w) (ht:P.underlying t=some (.slice e)) (hs:szP P e=some s) (hb:bytesP P e=some by_)
    (hz:zeroP P e=some z) (hzs:z.cells.size=s) (hsrc:Src P s tx q m us w) (hm:0<m) (l1:(n+m)*by_≤70368744177664) (l2:n+m≤70368744177664) (hnw:rnL ρ news=some us)
    (hi:h.get i=some (.cells cs e)) (hρ:ρ i=some (b,s0,ex)) (hcs:o1+n*s=cs.length) (hX:ex≠0∨n≠0→X=s0+o1) (hp:h.put i none=some h1) (hn:h1.new (.cells (cs.drop o1 ++ news) e)=some h') (hf:Fresh ρ h.next h'.next) :
    ∃ u ρ' η' w',(Builtin.append_ #[t,tx] ty #[.slice (some ⟨b,X,none⟩) n (n+ex),q]).run P w=.ok u w'∧rn ρ' (.slice (some ⟨h1.next,0,none⟩) (n+m) (big+(n+m)))=some u∧HR P ρ' h' η'∧Upd [η] [η'] w w'∧Ext ρ ρ' h.next h'.next:=by
  have hp0:=put_next hp
  have hnx:=(AH.get_new hn).2
  obtain ⟨b',s',e',ob,k1,k2,k3⟩:=hr.val i _ hi
  rw [hρ] at k1; cases k1
  obtain ⟨pre,us0,post,fz,k,rfl,q1,rfl,q3,q4,q5⟩:=k3
  have hbk:=hw b _ k2
  have hr1:=hr.drop hi hp hρ
  have hl0:=rnL_len q1
  have hlt:=hw.lt (b:=b) (by rw [k2]; simp)
  have hbig:n+m<big:=by simp only [big]; omega
  have hod:=(rnL_split o1 q1).2
  have hus:=rnL_len hnw
  have hul:=hsrc.newsLen
  by_cases hroom:m≤ex
  · have hk:k=s:=by
      rcases q4 with q4|q4
      · omega
      · rw [hs] at q4; cases q4; rfl
    subst hk
    have hX:=hX (.inl (by omega))
    subst hX
    obtain ⟨inf,hin,rfl,hiz,rfl⟩:=info_of hs hz hb
    have hpos:pre.length+o1+n*inf.size=(pre ++ us0).length:=by simp; omega
    have hms:m*inf.size≤ex*inf.size:=Nat.mul_le_mul_right _ hroom
    have hrun:=run_append_room_src (P:=P) w t tx ty e inf ht hin b (pre.length+o1) n (n+ex) q m us hsrc (by omega) (fun j hj=>by
        rw [hpos]
        have:(pre ++ us0).length+j<(pre ++ us0 ++ post).length:=by simp; omega
        simp only [World.cell?,hbk]
        simp at this ⊢
        omega) (fun j hj=>by
        rw [hpos]
        have:=q5 ((pre ++ us0).length+j) (by simp; omega)
        simp only [World.frozen?,hbk];simp only [Bool.and_eq_false_iff,decide_eq_false_iff_not]
        rcases Nat.lt_or_ge ((pre ++ us0).length+j) fz.1 with h|h
        · left; omega
        · right; exact fun hh=>this ⟨h,hh⟩)
    rw [hpos] at hrun
    have hh:=heap_setCells (b:=b) (t:=e) (fz:=fz) us (pre ++ us0).length w _ hbk (by simp; omega)
    have hrow:(pre ++ us0 ++ post).take (pre ++ us0).length ++ us ++ (pre ++ us0 ++ post).drop ((pre ++ us0).length+us.length)=(pre ++ us0.take o1) ++ (us0.drop o1 ++ us) ++ post.drop us.length:=by
      rw [List.take_left,List.drop_length_add_append];simp only [List.append_assoc];rw [← List.append_assoc (us0.take o1) (us0.drop o1),List.take_append_drop]
    rw [hrow] at hh
    have hn0:ρ h1.next=none:=hf _ (by omega) (by omega)
    have hor:OR P (setR ρ h1.next (b,pre.length+o1,ex-m)) (pre.length+o1) (ex-m) (.cells (cs.drop o1 ++ news) e) (.cells ((pre ++ us0.take o1) ++ (us0.drop o1 ++ us) ++ post.drop us.length).toArray e fz):=by
      refine ⟨pre ++ us0.take o1,us0.drop o1 ++ us,post.drop us.length,fz,inf.size,rfl,rnL_mono (setR_le hn0) (rnL_append.2 ⟨_,_,hod,hnw,rfl⟩),?_,?_,.inr hs,?_⟩
      · simp; omega
      · rw [List.length_drop,q3,hul,Nat.sub_mul]
      · have:((pre ++ us0.take o1) ++ (us0.drop o1 ++ us) ++ post.drop us.length).length=(pre ++ us0 ++ post).length:=by
          rw [← hrow]; simp; omega
        rw [this]; exact q5
    refine ⟨_,_,_,_,hrun,?_,hr1.new hn hn0 (by simp [setP]) hor,?_,⟨setR_le hn0,fun j hj=>?_⟩⟩
    · rw [rn_big rn_new hbig]
      congr 2
      omega
    · have hsz:=size_setCells b us (pre ++ us0).length w
      refine Upd.one ⟨by rw [hsz]; exact Nat.le_refl _,World.os_setCells ..,World.output_setCells ..,(setCells_tape ..).1,Nat.le_of_eq (setCells_tape ..).2.symm⟩ (fun b' hb' hn=>?_) (fun b' ob' hb'=>?_) (fun b' hb'=>?_)
      · exact World.heap_setCells_other w b _ _ hb' (fun e=>by subst e; rw [k2] at hn; cases hn)
      · unfold setP at hb'
        split at hb'
        · rename_i e1; cases hb'; subst e1; exact hh
        · rename_i e1
          have l2:=hw.lt (b:=b') (by rw [hb']; simp)
          rw [World.heap_setCells_other w b _ _ l2 e1];exact hw b' ob' hb'
      · unfold setP at hb'
        split at hb'
        · rename_i e1; subst e1; left; rw [k2]; simp
        · rename_i e1
          exact .inl hb'
    · unfold setR at hj
      split at hj
      · rename_i e; exact .inr ⟨by omega,by omega⟩
      · exact .inl hj
  · have hle1:(setP η b none).le w:=fun b' ob' hb'=>by
      unfold setP at hb'
      split at hb'
      · cases hb'
      · exact hw b' ob' hb'
    have hold:(Builtin.firstCells s n (.slice (some ⟨b,X,none⟩) n (n+ex))).run P w.drew=.ok (us0.drop o1).toArray w.drew:=by
      have hlen:(us0.drop o1).length=n*s:=by rw [List.length_drop]; omega
      rcases Nat.eq_zero_or_pos n with rfl|hn
      · have h0:us0.drop o1=[]:=List.length_eq_zero_iff.1 (by rw [hlen]; omega)
        rw [h0]
        have:=loadCells_run (P:=P) (w:=w.drew) (b:=b) (o:=X) (us:=[]) (fun _ _ h=>by cases h)
        simpa [Builtin.firstCells] using this
      · have:=hX (.inr (by omega))
        subst this
        have:=loadCells_run (P:=P) (w:=w.drew) (b:=b) (o:=pre.length+o1) (us:=us0.drop o1) (fun j u hu=>by
          rw [List.getElem?_drop] at hu
          have:=hr.cell (w:=w.drew) hw hi hρ q1 hu
          rw [Nat.add_assoc]; exact this)
        rw [hlen] at this
        simpa [Builtin.firstCells] using this
    have:=grow_ok (ty:=ty) (η:=η) hr1 hle1 (fun b' hb'=>by unfold setP; split <;> first|rfl|exact hb') ht hs hb hz hzs hsrc hold (by omega) l1 l2 hod hnw hn (by rw [hp0]; exact hf)
    rw [hp0] at this ⊢;exact this
end
end Go.Ev
namespace Go.Ev
open Go.Eng
section
variable {P:Program} {ρ:Rn} {fr:Fr} {ev:Operand→Value} {w:World} {h:AH} {η:PH} {dst:Option Tmp} {ty:TypeId} {pos:String} {aft:Array Edge} {g:Option (Nat × Bool)}
theorem upd_refl (hw:η.le w):Upd [η] [η] w w:=Upd.one ⟨Nat.le_refl _,rfl,rfl,rfl,Nat.le_refl _⟩ (fun _ _ _=>rfl) hw (fun _ h=>.inl h)
theorem behind_src {s m:Nat} {t:TypeId} {y q:Value} {news:List Value} (hr:HR P ρ h η) (hw:η.le w) (hk:(∃ e',P.underlying t=some (.slice e'))∨P.underlying t=some .string) (hb:behind h s y=some (m,news)) (h1:oneAll news=true) (hy:rn ρ y=some q):∃ us,rnL ρ news=some us∧Src P s t q m us w:=by
  obtain ⟨us,b1,b2,b3,b4⟩:=behind_ok (P:=P) hr hb hy
  have ht:us.take (m*s)=us:=List.take_of_length_le (by omega)
  have c1:=b4 m w (Nat.le_refl _) hw
  have c2:=b4 m w.drew (Nat.le_refl _) hw
  rw [ht] at c1 c2;exact ⟨us,b1,hk,b3,c1,c2,b2,rnL_one b1 (oneAll_ok h1)⟩
theorem room_ok {i o n c m:Nat} {p:Value} (hp:rn ρ (.slice (some ⟨i,o,none⟩) n c)=some p) (hk:n+m≤kcap c):∃ b s0 ex X C,ρ i=some (b,s0,ex)∧p=.slice (some ⟨b,X,none⟩) n C∧n+m≤C∧rn ρ (.slice (some ⟨i,o,none⟩) (n+m) c)=some (.slice (some ⟨b,X,none⟩) (n+m) C)∧(X=s0+o∨n+m=0):=by
  rcases Nat.eq_zero_or_pos n with rfl|hn
  · cases hi:ρ i with
    | none=>rw [rn_eq] at hp; unfold rnS at hp; rw [hi] at hp; cases hp
    | some x =>
      obtain ⟨b,s0,ex⟩:=x
      rcases Nat.lt_or_ge c big with h1|h1
      · rw [rn_sl1 hi h1] at hp; cases hp
        rw [kcap1 h1] at hk;exact ⟨_,_,_,_,_,rfl,rfl,hk,rn_sl1 hi h1,.inl rfl⟩
      · rcases Nat.lt_or_ge c big2 with h2|h2
        · rw [rn_sl2 hi h1 h2] at hp; cases hp
          rw [kcap2 h1 h2] at hk
          exact ⟨_,_,_,_,_,rfl,rfl,by omega,rn_sl2 hi h1 h2,.inl rfl⟩
        · rw [kcap3 h2] at hk
          have hm:m=0:=by omega
          subst hm
          obtain ⟨b',X,C,e⟩:=rnS_any (by rw [← rn_eq]; exact hp)
          have hp2:=hp
          rw [rn_sl3 hi h2] at hp2
          split at hp2
          · cases hp2; exact ⟨_,_,_,_,_,rfl,rfl,by omega,hp,.inr rfl⟩
          · cases hp2; exact ⟨_,_,_,_,_,rfl,rfl,by omega,hp,.inr rfl⟩
  · obtain ⟨b,s0,ex,c',hi,rfl⟩:=rnS_pos (by rw [← rn_eq]; exact hp) hn
    rcases Nat.lt_or_ge c big with h1|h1
    · rw [rn_sl1 hi h1] at hp; cases hp
      rw [kcap1 h1] at hk;exact ⟨_,_,_,_,_,hi,rfl,hk,rn_sl1 hi h1,.inl rfl⟩
    · rcases Nat.lt_or_ge c big2 with h2|h2
      · rw [rn_sl2 hi h1 h2] at hp; cases hp
        rw [kcap2 h1 h2] at hk
        exact ⟨_,_,_,_,_,hi,rfl,by omega,rn_sl2 hi h1 h2,.inl rfl⟩
      · rw [kcap3 h2] at hk; omega
theorem appU_inv {e:TypeId} {a:Option Addr} {k n m:Nat} {news:List Value} {v:Value} {h':AH} (q:appU h e a k n m news=some (v,h')) :
    ∃ i o cs h1,a=some ⟨i,o,none⟩∧h.get i=some (.cells cs e)∧o+k=cs.length∧h.put i none=some h1∧h1.new (.cells (cs.drop o ++ news) e)=some h'∧v=.slice (some ⟨h1.next,0,none⟩) (n+m) (big+(n+m)):=by
  unfold appU at q
  split at q
  · rename_i i o
    split at q
    · rename_i cs t hi
      cases hb:(Nat.beq t e && Nat.beq (o+k) cs.length) with
      | false=>rw [hb] at q; cases q
      | true =>
        rw [hb,cond_true] at q
        obtain ⟨b1,b2⟩:=Bool.and_eq_true_iff.1 hb
        have b1:=Nat.eq_of_beq_eq_true b1
        have b2:=Nat.eq_of_beq_eq_true b2
        subst b1
        split at q
        · rename_i h1 hp
          obtain ⟨l,e1,e2,rfl⟩:=mkS_some q
          obtain ⟨a',e3,rfl⟩:=catO_some e1
          obtain ⟨rfl,_⟩:=dropC_eq _ _ _ e3
          exact ⟨i,o,cs,h1,rfl,hi,b2,hp,e2,rfl⟩
        · cases q
    · cases q
  · cases q
theorem app_ok {t tx e:TypeId} {s by_:Nat} {z:Value} {m:Nat} {a v p q:Value} {news us:List Value} {h':AH} (hr:HR P ρ h η) (hw:η.le w) (ht:P.underlying t=some (.slice e)) (hs:szP P e=some s) (hb:bytesP P e=some by_)
    (hz:zeroP P e=some z) (hzs:z.cells.size=s) (hsrc:Src P s tx q m us w) (hnw:rnL ρ news=some us) (hp:rn ρ a=some p) (he:evApp h e s by_ a m news=some (v,h')) :
    h.next≤h'.next∧(Fresh ρ h.next h'.next→∃ u ρ' η' w',(Builtin.append_ #[t,tx] ty #[p,q]).run P w=.ok u w'∧rn ρ' v=some u∧HR P ρ' h' η'∧Upd [η] [η'] w w'∧Ext ρ ρ' h.next h'.next):=by
  unfold evApp at he
  split at he
  · rename_i a n c
    cases hl:(!(Nat.ble ((n+m)*by_) 70368744177664 && Nat.ble (n+m) 70368744177664)) with
    | true=>rw [hl] at he; cases he
    | false =>
      rw [hl,cond_false] at he;simp only [Bool.not_eq_false',Bool.and_eq_true] at hl
      have l1:=Nat.le_of_ble_eq_true hl.1
      have l2:=Nat.le_of_ble_eq_true hl.2
      cases hk:Nat.ble (n+m) (kcap c) with
      | true =>
        rw [hk,cond_true] at he
        have hk:=Nat.le_of_ble_eq_true hk
        unfold appI at he
        split at he
        · rename_i i o
          split at he
          · rename_i h2 hst
            cases he
            obtain ⟨b,s0,ex,X,C,hρ,rfl,hC,hv,hX⟩:=room_ok hp hk
            obtain ⟨r1,r2,r5,r6,_,η',r3,r4⟩:=storeN_run (P:=P) hr hw hst hρ hnw
            refine ⟨by omega,fun _=>?_⟩
            obtain ⟨inf,hin,rfl,hiz,rfl⟩:=info_of hs hz hb
            have hul:=hsrc.newsLen
            rcases hX with rfl|h0
            · have hrun:=run_append_room_src (P:=P) w t tx ty e inf ht hin b (s0+o) n C q m us hsrc hC (fun j hj=>by
                have:=r5 j hj; rwa [show s0+(o+n*inf.size)+j=s0+o+n*inf.size+j by omega] at this) (fun j hj=>by
                have:=r6 j hj; rwa [show s0+(o+n*inf.size)+j=s0+o+n*inf.size+j by omega] at this)
              rw [← Nat.add_assoc] at r4;exact ⟨_,ρ,η',_,hrun,hv,r3,r4,Ext.refl⟩
            · have hm0:m=0:=by omega
              have hn0:n=0:=by omega
              subst hm0 hn0
              have hu0:us=[]:=List.length_eq_zero_iff.1 (by omega)
              subst hu0
              have hrun:=run_append_room_src (P:=P) w t tx ty e inf ht hin b X 0 C q 0 [] hsrc hC (fun j hj=>by simp at hj) (fun j hj=>by simp at hj)
              exact ⟨_,ρ,η',_,hrun,hv,r3,r4,Ext.refl⟩
          · cases he
        · rename_i hne
          cases hm:m.beq 0 with
          | false=>rw [hm] at he; cases he
          | true =>
            rw [hm] at he
            cases he
            have:=Nat.eq_of_beq_eq_true hm
            subst this
            rcases a with _|⟨i,o,_|sp⟩
            · cases hp
              refine ⟨Nat.le_refl _,fun _=>⟨_,ρ,η,w,?_,rfl,hr,upd_refl hw,Ext.refl⟩⟩
              have hc:n≤c:=Nat.le_trans hk (kcap_le c)
              have:=hsrc.len
              have h2:=hsrc.cells
              obtain ⟨inf,hin,rfl,hiz,rfl⟩:=info_of hs hz hb
              rcases hsrc.kind with ⟨e',hk2⟩|hk2 <;> simp [Builtin.append_,run_underlying ht,run_underlying hk2,sizeOf,typeInfo,hin,this,hc,h2]
            · exact absurd rfl (hne i o)
            · simp [rn] at hp
      | false =>
        rw [hk,cond_false] at he
        have hk:kcap c<n+m:=by
          rcases Nat.lt_or_ge (kcap c) (n+m) with h0|h0
          · exact h0
          · rw [Nat.ble_eq_true_of_le h0] at hk; cases hk
        cases h1:lt1 c with
        | true =>
          rw [h1,cond_true] at he
          have h1:=lt1_t.1 h1
          rw [kcap1 h1] at hk;unfold appN at he
          split at he
          · rename_i i o
            obtain ⟨l,e1,e2,rfl⟩:=mkS_some he
            obtain ⟨ol,e3,rfl⟩:=catO_some e1
            obtain ⟨olds,b1,b2,b3,b4⟩:=behind_ok (P:=P) (s:=s) (m:=n) (news:=ol) hr (by simp only [behind,e3]) hp
            have hold:=b4 n w.drew (Nat.le_refl _) hw
            rw [List.take_of_length_le (by omega)] at hold
            have hp2:∃ base,p=.slice base n c:=by
              rw [rn_eq] at hp;unfold rnS at hp
              split at hp
              · rw [if_pos h1] at hp; cases hp; exact ⟨_,rfl⟩
              · cases hp
            obtain ⟨base,rfl⟩:=hp2
            exact ⟨new_next e2,fun hf=>grow_ok (ty:=ty) hr hw (fun _ h=>h) ht hs hb hz hzs hsrc hold hk l1 l2 b1 hnw e2 hf⟩
          · cases hn:n.beq 0 with
            | false=>rw [hn] at he; cases he
            | true =>
              rw [hn,cond_true] at he
              have:=Nat.eq_of_beq_eq_true hn
              subst this
              obtain ⟨l,e1,e2,rfl⟩:=mkS_some he
              cases e1
              cases hp
              exact ⟨new_next e2,fun hf=>grow_ok (ty:=ty) (ol:=[]) (olds:=[]) hr hw (fun _ h=>h) ht hs hb hz hzs hsrc (by simp [Builtin.firstCells]) hk l1 l2 rfl hnw e2 hf⟩
          · cases he
        | false =>
          rw [h1,cond_false] at he
          have h1:=lt1_f.1 h1
          cases h2:lt2 c with
          | true =>
            rw [h2,cond_true] at he
            have h2:=lt2_t.1 h2
            rw [kcap2 h1 h2] at hk
            cases hn:Nat.beq n (sub1 c) with
            | false=>rw [hn] at he; cases he
            | true =>
              rw [hn,cond_true] at he
              have hn:=Nat.eq_of_beq_eq_true hn
              obtain ⟨i,o,cs,h1',rfl,hi,hcs,hput,hnew,rfl⟩:=appU_inv he
              obtain ⟨b,s0,ex,ob,hρ,_,_⟩:=hr.val i _ hi
              rw [rn_sl2 hρ h1 h2,← hn] at hp
              cases hp
              have hnx:=put_next hput
              have:=new_next hnew
              exact ⟨by omega,fun hf=>appU_ok (ty:=ty) hr hw ht hs hb hz hzs hsrc (by omega) l1 l2 hnw hi hρ hcs (fun _=>rfl) hput hnew hf⟩
          | false =>
            rw [h2,cond_false] at he
            have h2:=lt2_f.1 h2
            rw [kcap3 h2] at hk
            split at he
            · rename_i i o sp
              obtain ⟨i',o',cs,h1',ea,hi,hcs,hput,hnew,rfl⟩:=appU_inv he
              cases ea
              obtain ⟨b,s0,ex,ob,hρ,_,_⟩:=hr.val i _ hi
              have hn:n=0:=by
                rw [rn_eq] at hp;unfold rnS at hp;rw [hρ] at hp;simp only at hp;rw [if_neg (Nat.not_lt.2 h1),if_neg (Nat.not_lt.2 h2)] at hp
                split at hp
                · rename_i h; exact h
                · cases hp
              subst hn;rw [rn_sl3 hρ h2] at hp
              have hnx:=put_next hput
              have:=new_next hnew
              refine ⟨by omega,fun hf=>?_⟩
              split at hp
              · rename_i hex
                subst hex
                cases hp
                exact appU_ok (ty:=ty) (n:=0) (ex:=0) hr hw ht hs hb hz hzs hsrc (by omega) l1 l2 hnw hi hρ (by omega) (fun h=>by rcases h with h|h <;> exact absurd rfl h) hput hnew hf
              · cases hp
                have:=appU_ok (ty:=ty) (n:=0) (ex:=ex) (X:=s0+(o+sub2 c)) hr hw ht hs hb hz hzs hsrc (by omega) l1 l2 hnw hi hρ (by omega) (fun _=>rfl) hput hnew hf
                rw [Nat.zero_add ex] at this;exact this
            · cases he
  · cases he
theorem w_app {c:Call} (hc:c.callee=.builtin .append) {wr:Wr} {v:Value} {h':AH} (hi:inOf P ⟨dst,.call c,ty,pos,aft,g⟩=some (.wr wr)) (hv:evWr fr h wr=some (v,h')) (hr:HR P ρ h η) (hw:η.le w) (hf:FR ρ fr) (hk:EK ρ fr ev (Op.call c).operands) :
    LOK P ρ η ev w h ⟨dst,.call c,ty,pos,aft,g⟩ v h':=by
  obtain ⟨cal,args,ts⟩:=c
  simp only at hc;subst hc;simp only [inOf,inCall] at hi
  obtain ⟨x,y,t,u,el,s,b,zs,e1,e2,ht,hu,hs,hb,hz,hzl,e3⟩:=app_in hi
  cases e3
  obtain ⟨xa,ya,e4,hx,hy⟩:=ods2 e1
  have e4:=arr2 e4
  have e2:=arr2 e2
  subst e4 e2
  have hv:wrApp h el s b (evO fr x) (evO fr y)=some (v,h'):=hv
  unfold wrApp at hv
  split at hv
  · rename_i a yv hxa hyv
    obtain ⟨p,p1,p2⟩:=od_ev hf hk (x:=xa) (by simp [Op.operands,Call.operands]) hx hxa
    obtain ⟨q,q1,q2⟩:=od_ev hf hk (x:=ya) (by simp [Op.operands,Call.operands]) hy hyv
    unfold appO at hv
    split at hv
    · rename_i m news hbh
      cases h1:oneAll news with
      | false=>rw [h1] at hv; cases hv
      | true =>
        rw [h1,cond_true] at hv
        obtain ⟨us,b1,hsrc⟩:=behind_src (P:=P) hr hw hu hbh h1 q1
        obtain ⟨z,z1,z2,z3⟩:=zsP_some (ρ:=ρ) hz
        have hzs:z.cells.size=s:=by rw [← Array.length_toList,z2,hzl]
        obtain ⟨r1,r2⟩:=app_ok (ty:=ty) hr hw ht hs hb z1 hzs hsrc b1 p1 hv
        refine ⟨r1,fun hf=>?_⟩
        obtain ⟨u',ρ',η',w',k1,k2,k3,k4,k5⟩:=r2 hf
        exact ⟨u',ρ',η',w',.inl (by simp [execOp,resolve,p2,q2,invoke,builtin,k1]),k2,k3,k4,k5⟩
    · cases hv
  · cases hv
theorem w_s2b {sT dT:TypeId} {x:Operand} {wr:Wr} {v:Value} {h':AH} (hi:inOf P ⟨dst,.convert sT dT x,ty,pos,aft,g⟩=some (.wr wr)) (hv:evWr fr h wr=some (v,h')) (hr:HR P ρ h η) (hw:η.le w) (hf:FR ρ fr) (hk:EK ρ fr ev #[x]) :
    LOK P ρ η ev w h ⟨dst,.convert sT dT x,ty,pos,aft,g⟩ v h':=by
  simp only [inOf] at hi
  split at hi
  · rename_i d hd
    unfold inConv at hi
    split at hi
    · cases hi
    · cases hi
    · rename_i e hsu hdu
      split at hi
      · rename_i hu hsz
        cases hi
        have hv:wrS2b h e (evO fr d)=some (v,h'):=hv
        unfold wrS2b at hv
        split at hv
        · rename_i s hs
          cases hbl:Nat.blt s.data.toList.length big with
          | false=>rw [hbl] at hv; cases hv
          | true =>
          rw [hbl,cond_true] at hv
          obtain ⟨i,e1,rfl⟩:=slcN_some hv
          obtain ⟨rfl,e2⟩:=newC_some e1
          obtain ⟨p,p1,p2⟩:=od_ev hf hk (x:=x) (by simp) hd hs
          cases p1
          refine ⟨new_next e2,fun hfr=>?_⟩
          have hnx:=(AH.get_new e2).2
          have hn0:ρ h.next=none:=hfr _ (Nat.le_refl _) (by omega)
          have hlen:s.data.toList.length=s.size:=rfl
          obtain ⟨cap,hcap⟩:∃ c,grownCap w s.size 0 e=c:=⟨_,rfl⟩
          have hge:=grownCap_ge w s.size 0 e
          rw [hcap] at hge
          let row:List Value:=[] ++ bytesV s.data.toList ++ List.replicate (cap-s.size) (.int .u8 0)
          have hrl:row.length=cap:=by simp [row,bytesV_map]; rw [← hlen] at *; simp at *; omega
          have hnofz:NoFz (cap,cap+1) row.length:=fun o ho=>by omega
          have hor:OR P (setR ρ h.next (w.heap.size,0,cap-s.size)) 0 (cap-s.size) (.cells (bytesV s.data.toList) e) (.cells row.toArray e (cap,cap+1)):=
            ⟨[],bytesV s.data.toList,List.replicate (cap-s.size) (.int .u8 0),(cap,cap+1),1,rfl,rnL_bytes _,rfl,by simp,.inr hsz,hnofz⟩
          have hbig:s.size<big:=blt_t.1 hbl
          · refine ⟨.slice (some ⟨w.heap.size,0,none⟩) s.size cap,_,_,(w.drew.alloc (.cells row.toArray e)).freeze ⟨w.heap.size,cap,none⟩ 1,.inl ?_,?_,hr.new e2 hn0 (le_none hw) hor,?_,setR_le hn0,fun j hj=>?_⟩
            · have hrow:(bytesV s.data.toList).toArray ++ Array.replicate (cap-s.size) (Value.int .u8 0)=row.toArray:=by simp [row]
              have helem:(s.data.map fun b=>Value.int .u8 (b.toNat:Int))=(bytesV s.data.toList).toArray:=by
                apply Array.ext'
                simp [bytesV_map]
              have hsh:(w.drew.alloc (.cells row.toArray e)).shape? w.heap.size=some (e,cap):=by
                have:(w.drew.alloc (.cells row.toArray e)).heap[w.heap.size]?=some (.cells row.toArray e (0,0)):=heap_alloc_new w.drew _
                unfold World.shape?;rw [this]
                simp [hrl]
              have hch:(choose (.appendCap s.size 0 e)).run P w=.ok cap w.drew:=by
                rw [← hcap]
                simp [choose,Sem.run,Question.forced,grownCap]
              have hnr:(newRow e row.toArray).run P w.drew=.ok ⟨w.heap.size,0,none⟩ (w.drew.alloc (.cells row.toArray e)):=by
                simp [newRow,newObj]; rfl
              have hms:(markStringish ⟨w.heap.size,0,none⟩).run P (w.drew.alloc (.cells row.toArray e))=.ok () ((w.drew.alloc (.cells row.toArray e)).freeze ⟨w.heap.size,cap,none⟩ 1):=by
                simp [markStringish,shape,freeze,Sem.run,hsh]
              simp only [execOp,convert,p2,Conv.stringToBytes,Sem.run_bind,Sem.run_pure,run_underlying hsu,run_underlying hdu,run_underlying hu,hch,Result.andThen_ok,helem,hrow,hnr,hms]
            · rw [hlen,rn_big rn_new hbig]
              congr 2
              omega
            · have h0:(w.drew.alloc (.cells row.toArray e)).heap[w.heap.size]?=some (.cells row.toArray e (0,0)):=heap_alloc_new w.drew _
              have hfz:((w.drew.alloc (.cells row.toArray e)).freeze ⟨w.heap.size,cap,none⟩ 1).heap[w.heap.size]?=some (.cells row.toArray e (cap,cap+1)):=by
                have hm:∀ (f:Obj→Obj),((w.drew.alloc (.cells row.toArray e)).heap.modify w.heap.size f)[w.heap.size]?=some (f (.cells row.toArray e (0,0))):=fun f=>by rw [Array.getElem?_modify,h0]; simp
                unfold World.freeze
                rw [if_neg (by simp)]
                simp only;rw [hm]
                simp
              have hoth:∀ b,b<w.heap.size→((w.drew.alloc (.cells row.toArray e)).freeze ⟨w.heap.size,cap,none⟩ 1).heap[b]?=w.heap[b]?:=fun b hb=>by
                have h1:(w.drew.alloc (.cells row.toArray e)).heap[b]?=w.heap[b]?:=heap_alloc_old w.drew _ hb
                have h2:w.heap.size≠b:=by omega
                simp [World.freeze,Array.getElem?_modify,h2,h1]
              refine Upd.one ⟨by simp [World.freeze],by simp [World.freeze]; rfl,by simp [World.freeze]; rfl,by simp [World.freeze],by simp [World.freeze]⟩ (fun b hb _=>hoth b hb) (fun b ob hb=>?_) (fun b hb=>?_)
              · unfold setP at hb
                split at hb
                · rename_i e1; cases hb; subst e1; exact hfz
                · have l2:=hw.lt (b:=b) (by rw [hb]; simp)
                  rw [hoth b l2]; exact hw b ob hb
              · unfold setP at hb
                split at hb
                · rename_i e; exact .inr (by omega)
                · exact .inl hb
            · unfold setR at hj
              split at hj
              · rename_i e; exact .inr ⟨by omega,by omega⟩
              · exact .inl hj
        · cases hv
      · cases hi
    · split at hi
      · cases hi
      · cases hi
    · cases hi
  · cases hi
end
end Go.Ev
namespace Go.Ev
open Go.Eng
section
variable {P:Program} {ρ:Rn} {fr:Fr} {ev:Operand→Value} {w:World} {h:AH} {η:PH}
theorem map_no {α:Type} {x:Option α} {f:α→In} {i:In} (hi:x.map f=some i) (hn:∀ a,f a≠i):False:=by
  cases x with
  | none=>cases hi
  | some a=>cases hi; exact hn a rfl
theorem inConv_wr {o:Oper} {s d:TypeId} {x:Od} {i:In} (hi:inConv P o s d x=some i):(∃ m,i=.mi m)∨∃ m,i=.wr m:=by
  unfold inConv at hi
  repeat' split at hi
  all_goals first|(cases hi; done)|(cases hi; exact .inl ⟨_,rfl⟩)|(cases hi; exact .inr ⟨_,rfl⟩)
theorem inBin_q {o:Oper} {op:BinOp} {t:TypeId} {x y:Od} {i:In} (hi:inBin P o op t x y=some i):(∃ m,i=.mi m)∨∃ p a b,i=.bin p a b:=by
  unfold inBin at hi
  cases hb:binK op with
  | true =>
    rw [hb,cond_true] at hi
    split at hi
    all_goals first|(cases hi; exact .inl ⟨_,rfl⟩)|(cases hi; exact .inr ⟨_,_,_,rfl⟩)
  | false=>rw [hb,cond_false] at hi; cases hi; exact .inr ⟨_,_,_,rfl⟩
def rdI:In→Bool
  | .st .. | .call .. | .wr _=>false
  | _=>true
def actO:Op→Bool
  | .store .. | .alloc _ | .box .. | .buildSlice .. | .makeSlice .. | .makeMap .. | .mapUpdate .. | .insert .. | .convert .. | .call _=>true
  | _=>false
theorem map_rd {α:Type} {x:Option α} {f:α→In} {i:In} (hi:x.map f=some i) (hn:∀ a,rdI (f a)=true):rdI i=true:=by
  cases x with
  | none=>cases hi
  | some a=>cases hi; exact hn a
theorem rd_op {o:Oper} {i:In} (hi:inOf P o=some i) (ha:actO o.op=false):rdI i=true:=by
  obtain ⟨dst,op,ty,pos,aft,g⟩:=o
  cases op with
  | store t a b=>cases ha
  | alloc x=>cases ha
  | box t x=>cases ha
  | buildSlice t n x=>cases ha
  | makeSlice t n x=>cases ha
  | makeMap t r=>cases ha
  | mapUpdate t r=>cases ha
  | insert t r=>cases ha
  | convert s d x=>cases ha
  | call c=>cases ha
  | move x=>exact map_rd hi fun _=>rfl
  | assign x=>exact map_rd hi fun _=>rfl
  | extract x i=>exact map_rd hi fun _=>rfl
  | nilCheck x=>exact map_rd hi fun _=>rfl
  | binOp op t a b yt =>
    simp only [inOf] at hi
    split at hi
    · rcases inBin_q hi with ⟨m,rfl⟩|⟨p,a,b,rfl⟩ <;> rfl
    · cases hi
  | load t x =>
    simp only [inOf] at hi
    repeat' split at hi
    all_goals cases hi; try rfl
  | fieldAddr t x f =>
    simp only [inOf] at hi
    repeat' split at hi
    all_goals cases hi; try rfl
  | indexAddr t x f =>
    simp only [inOf] at hi
    repeat' split at hi
    all_goals cases hi; try rfl
  | unOp op t x =>
    simp only [inOf] at hi
    repeat' split at hi
    all_goals cases hi; try rfl
  | pick a b c =>
    simp only [inOf] at hi
    repeat' split at hi
    all_goals cases hi; try rfl
  | makeFunc f xs cs =>
    cases f with
    | func f =>
      simp only [inOf] at hi
      split at hi
      · cases hi; rfl
      · cases hi
    | _=>cases hi
  | field t x f =>
    simp only [inOf] at hi
    repeat' split at hi
    all_goals cases hi; try rfl
  | index t x f =>
    simp only [inOf] at hi
    repeat' split at hi
    all_goals cases hi; try rfl
  | slice t x lo hi' mx =>
    simp only [inOf] at hi
    repeat' split at hi
    all_goals cases hi; try rfl
  | build t ps =>
    simp only [inOf] at hi
    split at hi
    · cases hall:(Array.toList _).all (fun (f:Field)=>(szP P f.type).isSome) with
      | false=>rw [hall] at hi; cases hi
      | true=>rw [hall,cond_true] at hi; exact map_rd hi fun _=>rfl
    · split at hi
      · exact map_rd hi fun _=>rfl
      · cases hi
    · cases hi
  | lookup t x y ok =>
    simp only [inOf] at hi
    split at hi
    · split at hi
      · rename_i z _ _
        cases hz:flat z with
        | false=>rw [hz] at hi; cases hi
        | true=>rw [hz] at hi; cases hi; rfl
      · cases hi
    · cases hi
  | _=>cases hi
theorem inCallB_k {o:Oper} {b:Builtin} {xs:Option (List Od)} {ts:List TypeId} {i:In} (e:inCallB P o b xs ts=some i):(∃ m,i=.mi m)∨((b=.append∨b=.copy∨b=.clear)∧∃ m,i=.wr m):=by
  have e0:=e
  unfold inCallB at e
  split at e
  · unfold inLen at e
    repeat' split at e
    all_goals first|(cases e; done)|(cases e; exact .inl ⟨_,rfl⟩)
  · cases e; exact .inl ⟨_,rfl⟩
  · cases e; exact .inl ⟨_,rfl⟩
  · obtain ⟨_,_,_,_,_,_,_,_,_,_,_,_,_,_,_,_,rfl⟩:=app_in e0; exact .inr ⟨.inl rfl,_,rfl⟩
  · obtain ⟨_,_,_,_,_,_,_,_,_,_,rfl⟩:=cpy_in e0; exact .inr ⟨.inr (.inl rfl),_,rfl⟩
  · obtain ⟨_,_,_,_,_,_,_,_,_,_,_,rfl⟩:=clr_in e0; exact .inr ⟨.inr (.inr rfl),_,rfl⟩
  · cases e
theorem inCall_k {o:Oper} {c:Call} {i:In} (e:inCall P o c=some i):(∃ f xs,i=.call f xs)∨∃ b,c.callee=.builtin b∧inCallB P o b (odsOf c.args.toList) c.argTypes.toList=some i:=by
  unfold inCall at e
  split at e
  · unfold inCallV at e
    split at e
    · cases e; exact .inl ⟨_,_,rfl⟩
    · cases e
  · rename_i b hc; exact .inr ⟨b,hc,e⟩
  · cases e
theorem lok_read {cf:CallF} {yf:YF} {o:Oper} {i:In} {v:Value} {h':AH} (hi:inOf P o=some i) (hrd:rdI i=true) (hv:evIn cf yf fr h i=some (v,h')) (hr:HR P ρ h η) (hw:η.le w) (hf:FR ρ fr) (hk:EK ρ fr ev o.op.operands):LOK P ρ η ev w h o v h':=by
  have hq:ret1 h (evQ fr h i)=some (v,h'):=by
    cases i with
    | st=>cases hrd
    | call=>cases hrd
    | wr=>cases hrd
    | _=>exact hv
  cases hq2:evQ fr h i with
  | none=>rw [hq2] at hq; cases hq
  | some v' =>
    rw [hq2] at hq
    cases hq
    obtain ⟨u,q1,q2⟩:=evQ_run (w:=w) hi hq2 hr hw hf hk
    exact ⟨Nat.le_refl _,fun _=>⟨u,ρ,η,w,.inl q2,q1,hr,upd_refl hw,Ext.refl⟩⟩
theorem evA_run {cf:CallF} {yf:YF} {o:Oper} {i:In} {v:Value} {h':AH} (hi:inOf P o=some i) (hc:∀ f xs,i≠.call f xs) (hv:evIn cf yf fr h i=some (v,h')) (hr:HR P ρ h η) (hw:η.le w) (hf:FR ρ fr) (hk:EK ρ fr ev o.op.operands):LOK P ρ η ev w h o v h':=by
  cases hrd:rdI i with
  | true=>exact lok_read hi hrd hv hr hw hf hk
  | false =>
    cases ha:actO o.op with
    | false=>rw [rd_op hi ha] at hrd; cases hrd
    | true =>
      obtain ⟨dst,op,ty,pos,aft,g⟩:=o
      cases i with
      | call f xs=>exact absurd rfl (hc f xs)
      | st x y n =>
        cases op with
        | store t a b=>exact w_st hi rfl hv hr hw hf hk
        | alloc x=>exact (map_no hi (fun a h=>by cases h)).elim
        | box t x=>exact (map_no hi (fun a h=>by cases h)).elim
        | convert s d x =>
          exfalso
          simp only [inOf] at hi
          split at hi
          · rcases inConv_wr hi with ⟨m,e⟩|⟨m,e⟩ <;> cases e
          · cases hi
        | call c =>
          exfalso
          rcases inCall_k hi with ⟨f,xs,e⟩|⟨b,hb,e⟩
          · cases e
          · rcases inCallB_k e with ⟨m,e⟩|⟨_,m,e⟩ <;> cases e
        | makeMap t r=>cases r <;> cases hi
        | buildSlice t n ps =>
          exfalso
          simp only [inOf] at hi
          split at hi
          · split at hi
            · rename_i s zs _ _
              cases hz:zs.length.beq s with
              | false=>rw [hz] at hi; cases hi
              | true=>rw [hz] at hi; exact map_no hi (fun a h=>by cases h)
            · cases hi
          · cases hi
        | makeSlice t l c =>
          exfalso
          simp only [inOf] at hi
          split at hi
          · split at hi
            · rename_i s b zs _ _ _
              cases hz:zs.length.beq s <;> rw [hz] at hi <;> cases hi
            · cases hi
          · cases hi
        | mapUpdate t m k v =>
          exfalso
          simp only [inOf] at hi
          repeat' split at hi
          all_goals cases hi
        | insert t m k v =>
          exfalso
          simp only [inOf] at hi
          repeat' split at hi
          all_goals cases hi
        | _=>cases ha
      | wr wr =>
        have hv:evWr fr h wr=some (v,h'):=hv
        cases op with
        | store t a b =>
          exfalso
          simp only [inOf] at hi
          repeat' split at hi
          all_goals cases hi
        | alloc x=>exact w_alloc hi hv hr hw
        | box t x=>exact w_box hi hv hr hw hf hk
        | buildSlice t n ps=>exact w_bsl hi hv hr hw hf hk
        | makeSlice t l c=>exact w_mks hi hv hr hw hf hk
        | makeMap t r =>
          cases r with
          | none=>exact w_mkm hi hv hr hw
          | some r=>cases hi
        | mapUpdate t m k v=>exact w_mup (.inl rfl) hi hv hr hw hf hk
        | insert t m k v=>exact w_mup (.inr rfl) hi hv hr hw hf hk
        | convert s d x=>exact w_s2b hi hv hr hw hf hk
        | call c =>
          rcases inCall_k hi with ⟨f,xs,e⟩|⟨b,hb,e⟩
          · cases e
          · rcases inCallB_k e with ⟨m,e⟩|⟨rfl|rfl|rfl,_⟩
            · cases e
            · exact w_app hb hi hv hr hw hf hk
            · exact w_cpy hb hi hv hr hw hf hk
            · exact w_clr hb hi hv hr hw hf hk
        | _=>cases ha
      | _=>cases hrd
end
end Go.Ev
namespace Go.Ev
open Go.Eng
def After (P:Program) (ρ:Rn) (η:PH) (w:World) (h h':AH) (ρ':Rn) (η':PH) (w':World):Prop:=HR P ρ' h' η'∧Upd [η] [η'] w w'∧Ext ρ ρ' h.next h'.next
theorem Upd.comp {η η1 η2:PH} {w w1 w2:World} (u:Upd [η] [η1] w w1) (v:Upd [η1] [η2] w1 w2):Upd [η] [η2] w w2:=by
  refine Upd.one ⟨Nat.le_trans u.size.1 v.size.1,v.size.2.1.trans u.size.2.1,v.size.2.2.1.trans u.size.2.2.1,v.size.2.2.2.1.trans u.size.2.2.2.1,Nat.le_trans u.size.2.2.2.2 v.size.2.2.2.2⟩ (fun b hb hn=>?_) (v.own η2 (by simp)) (fun b hb=>?_)
  · rw [← u.keep b hb (by simpa using hn)]
    refine v.keep b (Nat.lt_of_lt_of_le hb u.size.1) (fun σ hσ=>?_)
    simp at hσ; subst hσ
    cases e:σ b with
    | none=>rfl
    | some o =>
      rcases u.new σ (by simp) b (by rw [e]; simp) with ⟨τ,hτ,h⟩|h
      · simp at hτ; subst hτ; exact absurd hn h
      · omega
  · rcases v.new η2 (by simp) b hb with ⟨τ,hτ,h⟩|h
    · simp at hτ; subst hτ
      rcases u.new τ (by simp) b h with ⟨τ2,hτ2,h2⟩|h2
      · simp at hτ2; subst hτ2; exact .inl h2
      · exact .inr h2
    · have:=u.size.1; exact .inr (by omega)
section
variable {P:Program} {ρ ρ1 ρ2:Rn} {η η1 η2:PH} {w w1 w2:World} {h h1 h2:AH}
theorem After.comp (a:After P ρ η w h h1 ρ1 η1 w1) (b:After P ρ1 η1 w1 h1 h2 ρ2 η2 w2) (l1:h.next≤h1.next) (l2:h1.next≤h2.next):After P ρ η w h h2 ρ2 η2 w2:=
  ⟨b.1,Upd.comp a.2.1 b.2.1,a.2.2.trans b.2.2 l1 l2⟩
theorem After.le (a:After P ρ η w h h1 ρ1 η1 w1):η1.le w1:=a.2.1.own η1 (by simp)
end
def FOK (P:Program) (cf:CallF):Prop:=∀ f vs h v h',cf f vs h=some (v,h')→h.next≤h'.next∧∀ ρ η w us,HR P ρ h η→η.le w→Fresh ρ h.next h'.next→rnL ρ vs=some us →
  (callFunc f us.toArray).run P w=.ok (.enter f us.toArray) w∧CallsIn Fence.wide 0 P f us.toArray w (fun e w'=>∃ u,e=.returned u∧∃ ρ' η',rn ρ' v=some u∧After P ρ η w h h' ρ' η' w')
def YOK (P:Program) (yf:YF):Prop:=∀ l vs h v h',yf l vs h=some (v,h')→h.next≤h'.next∧∀ ρ η w us b s x,HR P ρ h η→η.le w→Fresh ρ h.next h'.next→rnL ρ vs=some us→ρ l=some (b,s,x) →
  ∃ f tmps asg body w1,(Instr.yield b us.toArray).run P w=.ok (.round b f tmps asg body) w1∧RoundIn Fence.wide 0 P b f tmps asg body w1 (fun e w'=>∃ u,e=.returned u∧∃ ρ' η',rn ρ' v=some u∧After P ρ η w h h' ρ' η' w')
section
variable {P:Program} {ρ:Rn} {fr:Fr} {w:World} {h:AH} {η:PH}
theorem FK.toFR {g:Nat→Value} (k:FK ρ fr g):FR ρ fr:=trivial
theorem FK.toEK {a:Act} (k:FK ρ fr (fun t=>a.tmps.getD t undef)) (xs:Array Operand):EK ρ fr a.eval xs:=fun x _ v hv hc=>by
  cases x with
  | tmp t=>exact k t v hv
  | const c =>
    simp only [evX,Option.some.injEq] at hv;subst hv
    rcases hc with ⟨t,e⟩|hc
    · cases e
    · exact ⟨_,rn_flat hc,rfl⟩
  | global g=>cases hv
  | func f=>cases hv; exact ⟨_,rfl,rfl⟩
theorem FK.put {M:Nat} {fr':Fr} {a:Act} (k:FK ρ fr (fun t=>a.tmps.getD t undef)) (hs:a.tmps.size=M) {d:Option Nat} {v u:Value} (hp:putF M fr d v=some fr') (hu:rn ρ v=some u):FK ρ fr' (fun t=>(a.put d u).tmps.getD t undef)∧(a.put d u).tmps.size=M∧(a.put d u).defers=a.defers:=by
  cases d with
  | none=>cases hp; exact ⟨k,hs,rfl⟩
  | some d =>
    have hp:(Bool.rec none (Option.rec none (fun v'=>Tr.put 10 fr d (some v')) (fV v)) (Nat.blt d M):Option Fr)=some fr':=hp
    cases hb:Nat.blt d M with
    | false=>rw [hb] at hp; cases hp
    | true =>
      rw [hb,fV_eq] at hp
      have hd:=blt_t.1 hb
      have hp:Tr.put 10 fr d (some v)=some fr':=hp
      refine ⟨fun t v' hv'=>?_,by simp [Act.put,hs],rfl⟩
      rw [Tr.get_put 10 (some v) fr fr' d t hp] at hv'
      split at hv'
      · rename_i e
        cases hv'
        subst e
        exact ⟨u,hu,by simp [Act.put,Array.getD_eq_getD_getElem?,hs,hd]⟩
      · rename_i e
        obtain ⟨u',q1,q2⟩:=k t v' hv'
        refine ⟨u',q1,?_⟩;simp only [Act.put,Array.getD_eq_getD_getElem?,Array.getElem?_setIfInBounds]
        rw [if_neg (fun h=>e h.symm)]
        rw [← q2]; simp [Array.getD_eq_getD_getElem?]
theorem want_fr {all:Array Oper} {o:Oper} {q:Op1} {b:Bool} {a:Act} (h1:op1 P all o=some q) (hw:want fr q.g=some b) (hk:FK ρ fr (fun t=>a.tmps.getD t undef)):Region.wanted o (yielded all a.tmps)=b:=by
  unfold op1 at h1;unfold Region.wanted
  split at h1
  · rename_i hg _
    cases h1
    cases hw
    rw [hg]
  · rename_i j w0 i hg hi
    split at h1
    · rename_i d hd
      cases h1
      rw [hg];simp only [want] at hw;unfold yielded
      dsimp only
      rw [hd];simp only [Option.bind_some]
      split at hw
      · rename_i c hc
        cases hw
        obtain ⟨u,q1,q2⟩:=hk d _ hc
        cases q1
        have hget:(a.tmps[d]?).getD undef=.bool c:=by rw [← q2]; simp [Array.getD_eq_getD_getElem?]
        cases hx:a.tmps[d]? with
        | none=>rw [hx] at hget; cases hget
        | some x=>rw [hx] at hget; simp at hget; subst hget; simp
      · rename_i c hc
        cases hw
        obtain ⟨u,q1,q2⟩:=hk d _ hc
        obtain ⟨l⟩:=c
        obtain ⟨us,q3,rfl⟩:=rn_tuple q1
        have hget:(a.tmps[d]?).getD undef=.tuple us.toArray:=by rw [← q2]; simp [Array.getD_eq_getD_getElem?]
        cases hx:a.tmps[d]? with
        | none=>simp
        | some x=>rw [hx] at hget; simp at hget; subst hget; simp
      · cases hw
    · cases h1
  · cases h1
theorem op1_i {all:Array Oper} {o:Oper} {q:Op1} (h1:op1 P all o=some q):inOf P o=some q.i∧q.d=o.dst:=by
  unfold op1 at h1
  split at h1
  · rename_i hi; cases h1; exact ⟨hi,rfl⟩
  · rename_i hi
    split at h1
    · cases h1; exact ⟨hi,rfl⟩
    · cases h1
  · cases h1
end
end Go.Ev
