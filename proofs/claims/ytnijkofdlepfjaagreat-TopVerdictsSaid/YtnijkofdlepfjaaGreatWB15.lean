/- Texts of this proof, one after the other; no conditions. -/
import Derived.Test.YtnijkofdlepfjaaGreatWA
import Derived.Laws.BytesString
import Derived.Deep.Upon
import Derived.Laws.MakeOwn
import Derived.MapKept
import Derived.Test.YtnijkofdlepfjaaGreatWB14
import Derived.Test.YtnijkofdlepfjaaGreatWB14b
set_option linter.all false
namespace Go.Ev
open Go.Eng
section
section
variable {P:Program} {ρ:Rn} {fr:Fr} {ev:Operand->Value} {w:World} {h:AH} {η:PH}
theorem aUf {i o n c:Nat} {u:Value} (e:rnS ρ i o n c=some u):u.cells = #[u]:=by
  obtain ⟨_,_,_,rfl⟩:=mR e; rfl
theorem aIk {v u:Value} (e:rn ρ v=some u):rnL ρ (cl v)=some u.cells.toList:=by
  cases v with
  | agg c =>
    obtain ⟨l⟩:=c
    obtain ⟨us,h1,rfl⟩:=rn_agg e
    simpa [cl,Value.cells] using h1
  | tuple c =>
    obtain ⟨l⟩:=c
    obtain ⟨us,h1,rfl⟩:=vB e
    simp [cl,rnL,e,Value.cells]
  | slice a n c =>
    rcases a with _|⟨i,o,_|s⟩
    · cases e; rfl
    · have:u.cells = #[u]:=aUf (by rw [← nY]; exact e)
      simp [cl,rnL,e,this]
    · simp [rn] at e
  | bool b=>cases e; rfl
  | int k n=>cases e; rfl
  | string s=>cases e; rfl
  | float k b=>simp [rn] at e
  | complex k a b=>simp [rn] at e
  | chan r=>simp [rn] at e
  | iface t v=>simp [rn] at e
  | nilFunc=>cases e; rfl
  | nilIface=>cases e; rfl
  | pointer a =>
    have:u.cells = #[u]:=by
      have e2:=e
      simp only [rn] at e2
      split at e2
      · cases e2; rfl
      · cases e2
    simp [cl,rnL,e,this]
  | map r =>
    have:u.cells = #[u]:=by
      cases r with
      | none=>cases e; rfl
      | some i =>
        have e2:=e
        simp only [rn] at e2
        split at e2
        · cases e2; rfl
        · cases e2
    simp [cl,rnL,e,this]
  | func f xs cs =>
    have:u.cells = #[u]:=by
      have e2:=e
      simp only [rn] at e2
      split at e2
      · cases e2; rfl
      · cases e2
    simp [cl,rnL,e,this]
def aMs (place:Nat->Option (Nat × Nat)):List (Nat × Operand)->List (Nat × Nat × Od)->Prop
  | [],[]=>True
  | p::ps,q::qs=>(place p.1=some (q.1,q.2.1)/\gW p.2=some q.2.2)/\aMs place ps qs
  | _,_=>False
theorem zS {s:Nat}:∀ {ps:List (Nat × Operand)} {qs:List (Nat × Nat × Od)},aOg s ps=some qs->aMs (fun i=>some (i*s,s)) ps qs
  | [],qs,e=>by cases e; trivial
  | (i,x)::r,qs,e=>by
    simp only [aOg] at e
    cases h1:gW x with
    | none=>simp [h1] at e
    | some v=>cases h2:aOg s r with
      | none=>simp [h1,h2] at e
      | some l=>simp only [h1,h2,aD] at e; subst e; exact ⟨⟨rfl,h1⟩,zS h2⟩
def aK1 (P:Program) (fs:List Field) (i:Nat):Option (Nat × Nat):=(fs.map fun f=>(f.offset,(szP P f.type).getD 0))[i]?
theorem aMt {fs:List Field}:∀ {ps:List (Nat × Operand)} {qs:List (Nat × Nat × Od)},aQr P fs ps=some qs->aMs (aK1 P fs) ps qs
  | [],qs,e=>by cases e; trivial
  | (i,x)::r,qs,e=>by
    simp only [aQr] at e
    cases h0:fs[i]? with
    | none=>simp [h0] at e
    | some f=>cases h1:gW x with
      | none=>simp [h0,h1] at e
      | some v=>cases h2:aQr P fs r with
        | none=>simp [h0,h1,h2] at e
        | some l =>
          simp only [h0,h1,h2] at e
          cases h3:szP P f.type with
          | none=>simp [h3] at e
          | some s =>
            simp only [h3,aD] at e; subst e
            exact ⟨⟨by simp [aK1,h0,h3],h1⟩,aMt h2⟩
theorem aMu:∀ (fs:List Field),fs.all (fun f=>(szP P f.type).isSome)=true->(fs.mapM (fun f=>Prod.mk f.offset <$> sizeOf f.type:Field->Sem (Nat × Nat))).run P w=.ok (fs.map fun f=>(f.offset,(szP P f.type).getD 0)) w
  | [],_=>by simp
  | f::fs,e=>by
    simp only [List.all_cons,aJ] at e
    obtain ⟨n,hn⟩:=Option.isSome_iff_exists.1 e.1
    simp [fG,Eng.run_sizeOf hn,aMu fs e.2,hn]
theorem aK2 {v:Value} {off:Nat} {cells:Array Value} (h:off+v.cells.size<=cells.size) :
    v.cells.zipIdx.foldl (fun (cs:Array Value) (x:Value × Nat)=>cs.setIfInBounds (off+x.2) x.1) cells=(cells.toList.take off ++ v.cells.toList ++ cells.toList.drop (off+v.cells.toList.length)).toArray:=by
  apply Array.ext'
  have:=qT v.cells.toList 0 off cells (by simpa using h)
  simp only [eO] at this;rw [← Array.foldl_toList,Array.toList_zipIdx,this]
theorem vC {place:Nat->Option (Nat × Nat)} {xs:Array Operand} (hf:FR ρ fr) (hk:EK ρ fr ev xs):∀ {ps:List (Nat × Operand)} {qs:List (Nat × Nat × Od)} {l:List (Nat × Nat × Value)} {zs zs' r:List Value},
    aMs place ps qs->(∀ x∈ps.map (·.2),x∈xs)->aAw fr qs=some l->aH1 zs l=some r->rnL ρ zs=some zs'->∃ r',rnL ρ r=some r'/\Instr.fill place zs'.toArray (ps.map fun (x:Nat × Operand)=>(x.1,ev x.2))=some r'.toArray
  | [],[],l,zs,zs',r,_,_,e1,e2,e3=>by
    cases e1; cases e2
    exact ⟨zs',e3,rfl⟩
  | [],_::_,_,_,_,_,h,_,_,_,_=>h.elim
  | _::_,[],_,_,_,_,h,_,_,_,_=>h.elim
  | (i,x)::ps,(o,s,d)::qs,l,zs,zs',r,h,hx,e1,e2,e3=>by
    obtain ⟨⟨h1,h2⟩,h3⟩:=h
    simp only [aAw] at e1
    cases k1:evO fr d with
    | none=>simp [k1] at e1
    | some v=>cases k2:aAw fr qs with
      | none=>simp [k1,k2] at e1
      | some l' =>
        simp only [k1,k2,aD] at e1;subst e1;simp only [aH1] at e2
        cases k3:Nat.beq (cl v).length s with
        | false=>rw [k3] at e2; cases e2
        | true =>
          rw [k3] at e2
          have hs:=aO k3
          simp only [cond_true] at e2
          cases k4:aQu o (cl v) zs with
          | none=>rw [k4] at e2; cases e2
          | some zs1 =>
            rw [k4] at e2
            obtain ⟨rfl,k5,_⟩:=aFg _ _ _ _ k4
            obtain ⟨u,k6,k7⟩:=gH hf hk (hx x (by simp)) h2 k1
            have k8:=aIk k6
            have k9:=rnL_len k8
            have q1:=(iI o e3).1
            have q2:=(iI (o+(cl v).length) e3).2
            have q3:=iJ.2 ⟨_,_,iJ.2 ⟨_,_,q1,k8,rfl⟩,q2,rfl⟩
            obtain ⟨r',m1,m2⟩:=vC hf hk (ps:=ps) h3 (fun y hy=>hx y (by simp at hy ⊢; exact .inr hy)) k2 e2 q3
            refine ⟨r',m1,?_⟩
            have hl3:=rnL_len e3
            have hsz:u.cells.size=s:=by rw [← cI,k9,hs]
            simp only [dK];unfold Instr.fill;simp only at h1;rw [h1];simp only [k7]
            rw [if_neg (by simp only [hsz,ne_eq,not_true_eq_false,decide_false,Bool.false_or,decide_eq_true_eq,dN]; omega)]
            rw [aK2 (by simp; omega),k9]
            exact m2
end
end
section
section
variable {P:Program} {ρ:Rn} {fr:Fr} {ev:Operand->Value} {w:World} {h:AH} {η:PH} {dst:Option Tmp} {ty:TypeId} {pos:String} {aft:Array Edge} {g:Option (Nat × Bool)}
theorem mL {s:Sem Value} {v:Value} {w':World} (h:s.run P w=.ok v w'):(do pure (Next.value (← s)):Sem Next).run P w=.ok (.value v) w':=by simp [h]
def QOK (P:Program) (ρ:Rn) (ev:Operand->Value) (w:World) (o:Oper) (v:Value):Prop:=∃ u,rn ρ v=some u/\(execOp ev o).run P w=.ok (.value u) w
theorem aIl {o:Oper} {v:Value} (h1:aOk o.op=true) (h2:aAt P o fr=some v) (h3:EK ρ fr ev o.op.operands):QOK P ρ ev w o v:=
  let ⟨h4,h5⟩:=aT9 h1 h2 h3 w; ⟨v,h4,h5⟩
theorem q_bin {op:BinOp} {t yt:TypeId} {x y:Operand} {i:In} {v:Value} (hi:fX P ⟨dst,.binOp op t x y yt,ty,pos,aft,g⟩=some i) (hv:evQ fr h i=some v) (hf:FR ρ fr) (hk:EK ρ fr ev #[x,y]):QOK P ρ ev w ⟨dst,.binOp op t x y yt,ty,pos,aft,g⟩ v:=by
  simp only [fX] at hi
  split at hi
  · rename_i d d' hd hd'
    have plain:evQ fr h (.bin op d d')=some v->QOK P ρ ev w ⟨dst,.binOp op t x y yt,ty,pos,aft,g⟩ v:=fun hv=>by
      have hv:binO op (evO fr d) (evO fr d')=some v:=hv
      unfold binO at hv
      split at hv
      · rename_i a b ha hb
        obtain ⟨h1,h2,h3,h4⟩:=aOm (P:=P) (w:=w) hv t x y
        obtain ⟨u,k1,k2⟩:=gH hf hk (by simp) hd ha
        obtain ⟨u',k3,k4⟩:=gH hf hk (by simp) hd' hb
        rw [iM h3] at k1; cases k1;rw [iM h4] at k3; cases k3;refine ⟨v,iM h2,?_⟩;simp only [execOp,k2,k4];exact mL h1
      · cases hv
    unfold aMl at hi
    cases hb:binK op with
    | false=>rw [hb] at hi; cases hi; exact plain hv
    | true =>
      rw [hb] at hi;simp only [cond_true] at hi
      split at hi
      · cases hi; exact aIl rfl hv hk
      · cases hi; exact plain hv
      · rename_i k k0 k4
        cases hi
        have hv:aQ8 (aQs P t) _ (evO fr d) (evO fr d')=some v:=hv
        unfold aQ8 at hv
        split at hv
        · rename_i a b ha hb'
          unfold neB at hv
          split at hv
          · rename_i r hr
            obtain ⟨u,e1,e2⟩:=gH hf hk (by simp) hd ha
            obtain ⟨u',e3,e4⟩:=gH hf hk (by simp) hd' hb'
            obtain ⟨n1,n2⟩:=aOn (P:=P) (w:=w) hr rfl e1 e3 x y
            have fin:∀ (r':Bool),((do eqGuard op t x y u u'; binOp op t u u':Sem Value).run P w)=.ok (.bool r') w->(execOp ev ⟨dst,.binOp op t x y yt,ty,pos,aft,g⟩).run P w=.ok (.value (.bool r')) w:=fun r' e=>by
              simp only [execOp,e2,e4];exact mL e
            cases op <;> first|(cases hb; done)|skip
            · cases hv; exact ⟨_,rfl,fin r n1⟩
            · cases hv; exact ⟨_,rfl,fin (!r) n2⟩
          · cases hv
        · cases hv
  · cases hi
theorem q_ld {t:TypeId} {x:Operand} {i:In} {v:Value} (hi:fX P ⟨dst,.load t x,ty,pos,aft,g⟩=some i) (hv:evQ fr h i=some v) (hr:HR P ρ h η) (hw:η.le w) (hf:FR ρ fr) (hk:EK ρ fr ev #[x]):QOK P ρ ev w ⟨dst,.load t x,ty,pos,aft,g⟩ v:=by
  simp only [fX] at hi
  split at hi
  · rename_i d hd ha hs
    cases hi
    have hv:aC5 h none (evO fr d)=some v:=hv
    obtain ⟨i,o,e1,_⟩:=pF hv
    rw [e1] at hv
    obtain ⟨u,e2,e3⟩:=gH hf hk (by simp) hd e1
    obtain ⟨b,o',u',rfl,e4,e5⟩:=aVy hr hw hv e2
    exact ⟨u',e4,by simp [execOp,e3,Instr.loadAt,Instr.sureAddr,loadVar,Eng.run_isAgg ha,e5]⟩
  · rename_i d n hd ha hs
    cases hi
    have hv:aC5 h (some n) (evO fr d)=some v:=hv
    obtain ⟨i,o,e1,_⟩:=pF hv
    rw [e1] at hv
    obtain ⟨u,e2,e3⟩:=gH hf hk (by simp) hd e1
    obtain ⟨b,o',us,rfl,e4,rfl,e5⟩:=aVz hr hw hv e2
    exact ⟨_,e4,by simp [execOp,e3,Instr.loadAt,Instr.sureAddr,loadVar,Eng.run_isAgg ha,Eng.run_sizeOf hs,iN e5]⟩
  · cases hi
theorem q_fa {t:TypeId} {x:Operand} {f:Nat} {i:In} {v:Value} (hi:fX P ⟨dst,.fieldAddr t x f,ty,pos,aft,g⟩=some i) (hv:evQ fr h i=some v) (hf:FR ρ fr) (hk:EK ρ fr ev #[x]):QOK P ρ ev w ⟨dst,.fieldAddr t x f,ty,pos,aft,g⟩ v:=by
  simp only [fX] at hi
  split at hi
  · rename_i d k hd hfl
    cases hi
    have hv:aRf k (evO fr d)=some v:=hv
    unfold aRf at hv
    split at hv
    · rename_i i o ha
      cases hv
      obtain ⟨u,e2,e3⟩:=gH hf hk (by simp) hd ha
      obtain ⟨b,s,e,h1,rfl⟩:=pU e2
      exact ⟨.pointer (some ⟨b,s+(o+k),none⟩),by simp [rn,rnA,h1],by simp [execOp,e3,yD hfl,dL]⟩
    · cases hv
  · cases hi
theorem q_ia {t:TypeId} {x y:Operand} {i:In} {v:Value} (hi:fX P ⟨dst,.indexAddr t x y,ty,pos,aft,g⟩=some i) (hv:evQ fr h i=some v) (hf:FR ρ fr) (hk:EK ρ fr ev #[x,y]):QOK P ρ ev w ⟨dst,.indexAddr t x y,ty,pos,aft,g⟩ v:=by
  simp only [fX] at hi
  split at hi
  · rename_i d d' e hd hd' ht
    split at hi
    · rename_i s hs
      cases hi
      have hv:aIb none s (evO fr d) (evO fr d')=some v:=hv
      unfold aIb at hv
      split at hv
      · rename_i i o n c j heq ha hj
        cases hlt:Nat.blt j n with
        | false=>rw [hlt] at hv; cases hv
        | true =>
          rw [hlt] at hv; cases hv
          have hlt:=nI.1 hlt
          obtain ⟨k,hj⟩:=mK hj
          obtain ⟨u,e2,e3⟩:=gH hf hk (by simp) hd ha
          obtain ⟨u',e4,e5⟩:=gH hf hk (by simp) hd' hj
          cases e4
          obtain ⟨_,_,_,_,e2⟩:=nX e2
          obtain ⟨b,sb,e',c',h1,rfl⟩:=sD e2 (by omega)
          refine ⟨.pointer (some ⟨b,sb+(o+j*s),none⟩),by simp [rn,rnA,h1],?_⟩
          simp [execOp,e3,e5,Instr.indexAt,asIntOf,run_underlying ht,hlt,Eng.run_sizeOf hs,tV,dL]
      · rename_i heq _ _; cases heq
      · cases hv
    · cases hi
  · rename_i d d' n e hd hd' ht
    split at hi
    · rename_i s hs
      cases hi
      have hv:aIb (some n) s (evO fr d) (evO fr d')=some v:=hv
      unfold aIb at hv
      split at hv
      · rename_i heq _ _; cases heq
      · rename_i n' i o j heq ha hj
        cases heq
        cases hlt:Nat.blt j n with
        | false=>rw [hlt] at hv; cases hv
        | true =>
          rw [hlt] at hv; cases hv
          have hlt:=nI.1 hlt
          obtain ⟨k,hj⟩:=mK hj
          obtain ⟨u,e2,e3⟩:=gH hf hk (by simp) hd ha
          obtain ⟨u',e4,e5⟩:=gH hf hk (by simp) hd' hj
          cases e4
          obtain ⟨b,sb,e',h1,rfl⟩:=pU e2
          refine ⟨.pointer (some ⟨b,sb+(o+j*s),none⟩),by simp [rn,rnA,h1],?_⟩
          simp [execOp,e3,e5,Instr.indexAt,asIntOf,run_underlying ht,hlt,Eng.run_sizeOf hs,tV,dL,Instr.sureAddr]
      · cases hv
    · cases hi
  · cases hi
end
end
section
section
variable {P:Program} {ρ:Rn} {fr:Fr} {ev:Operand->Value} {w:World} {h:AH} {η:PH} {dst:Option Tmp} {ty:TypeId} {pos:String} {aft:Array Edge} {g:Option (Nat × Bool)}
theorem q_un {op:UnOp} {t:TypeId} {x:Operand} {i:In} {v:Value} (hi:fX P ⟨dst,.unOp op t x,ty,pos,aft,g⟩=some i) (hv:evQ fr h i=some v) (hf:FR ρ fr) (hk:EK ρ fr ev #[x]):QOK P ρ ev w ⟨dst,.unOp op t x,ty,pos,aft,g⟩ v:=by
  simp only [fX] at hi
  split at hi
  · rename_i d hd
    cases hi
    have hv:aQz (evO fr d)=some v:=hv
    unfold aQz at hv
    split at hv
    · rename_i b ha
      cases hv
      obtain ⟨u,e2,e3⟩:=gH hf hk (by simp) hd ha
      cases e2
      exact ⟨_,rfl,by simp [execOp,e3,Op.unary]⟩
    · cases hv
  · cases hi; exact aIl rfl hv hk
  · cases hi
theorem q_pk {c x y:Operand} {i:In} {v:Value} (hi:fX P ⟨dst,.pick c x y,ty,pos,aft,g⟩=some i) (hv:evQ fr h i=some v) (hf:FR ρ fr) (hk:EK ρ fr ev #[c,x,y]):QOK P ρ ev w ⟨dst,.pick c x y,ty,pos,aft,g⟩ v:=by
  simp only [fX] at hi
  split at hi
  · rename_i d d1 d2 hd h1 h2
    cases hi
    have hv:aKw fr d1 d2 (evO fr d)=some v:=hv
    unfold aKw at hv
    split at hv
    · rename_i ha
      obtain ⟨u,e2,e3⟩:=gH hf hk (by simp) hd ha
      cases e2
      obtain ⟨u',e4,e5⟩:=gH hf hk (by simp) h1 hv
      exact ⟨_,e4,by simp [execOp,e3,e5,asBool]⟩
    · rename_i ha
      obtain ⟨u,e2,e3⟩:=gH hf hk (by simp) hd ha
      cases e2
      obtain ⟨u',e4,e5⟩:=gH hf hk (by simp) h2 hv
      exact ⟨_,e4,by simp [execOp,e3,e5,asBool]⟩
    · cases hv
  · cases hi
theorem q_ex {x:Operand} {n:Nat} {i:In} {v:Value} (hi:fX P ⟨dst,.extract x n,ty,pos,aft,g⟩=some i) (hv:evQ fr h i=some v) (hf:FR ρ fr) (hk:EK ρ fr ev #[x]):QOK P ρ ev w ⟨dst,.extract x n,ty,pos,aft,g⟩ v:=by
  simp only [fX,aQ] at hi
  obtain ⟨d,hd,rfl⟩:=hi
  have hv:aQ0 n (evO fr d)=some v:=hv
  unfold aQ0 at hv
  split at hv
  · rename_i vs ha
    obtain ⟨u,e2,e3⟩:=gH hf hk (by simp) hd ha
    obtain ⟨us,h1,rfl⟩:=vB e2
    rw [zR] at hv
    obtain ⟨u,h2,h3⟩:=zP h1 hv
    have h2':us.toArray[n]?=some u:=by simpa using h2
    exact ⟨u,h3,by simp [execOp,e3,Instr.extract,h2']⟩
  · cases hv
theorem q_nc {x:Operand} {i:In} {v:Value} (hi:fX P ⟨dst,.nilCheck x,ty,pos,aft,g⟩=some i) (hv:evQ fr h i=some v) (hf:FR ρ fr) (hk:EK ρ fr ev #[x]):QOK P ρ ev w ⟨dst,.nilCheck x,ty,pos,aft,g⟩ v:=by
  simp only [fX,aQ] at hi
  obtain ⟨d,hd,rfl⟩:=hi
  have hv:aQ1 (evO fr d)=some v:=hv
  unfold aQ1 at hv
  split at hv
  · rename_i a ha
    cases hv
    obtain ⟨u,e2,e3⟩:=gH hf hk (by simp) hd ha
    refine ⟨u,e2,?_⟩
    obtain ⟨i,o,sp⟩:=a
    cases sp with
    | some s=>simp [rn,rnA] at e2
    | none =>
      obtain ⟨b,s,e,h1,rfl⟩:=pU e2
      simp [execOp,e3]
  · rename_i f xs cs ha
    cases hv
    obtain ⟨u,e2,e3⟩:=gH hf hk (by simp) hd ha
    refine ⟨u,e2,?_⟩;simp only [rn,rnF] at e2
    split at e2
    · rename_i f' xs' cs' q1 q2 q3
      cases q1; cases e2
      simp [execOp,e3]
    · cases e2
  · rename_i f xs cs ha
    cases hv
    obtain ⟨u,e2,e3⟩:=gH hf hk (by simp) hd ha
    refine ⟨u,e2,?_⟩
    have e4:=e2
    simp only [rn] at e2
    split at e2
    · rename_i f' xs' cs' q1 q2 q3
      cases e2
      simp only [rnF] at q1
      split at q1
      · cases q1; simp [execOp,e3]
      · cases q1
    · cases e2
  · cases hv
theorem q_mf {fn:Fn} {xs cs:Array Operand} {i:In} {v:Value} (hi:fX P ⟨dst,.makeFunc fn xs cs,ty,pos,aft,g⟩=some i) (hv:evQ fr h i=some v) (hf:FR ρ fr) (hk:EK ρ fr ev (xs ++ cs)):QOK P ρ ev w ⟨dst,.makeFunc fn xs cs,ty,pos,aft,g⟩ v:=by
  cases fn with
  | func f =>
    simp only [fX] at hi
    split at hi
    · rename_i ds ds' h1 h2
      cases hi
      have hv:aQ2 f (aAu fr ds) (aAu fr ds')=some v:=hv
      unfold aQ2 at hv
      split at hv
      · rename_i vs us ha hb
        cases hv
        obtain ⟨vs',k1,k2⟩:=aA3 hf hk (l:=xs.toList) (by intro x hx; simp at hx ⊢; exact .inl hx) h1 ha
        obtain ⟨us',k3,k4⟩:=aA3 hf hk (l:=cs.toList) (by intro x hx; simp at hx ⊢; exact .inr hx) h2 hb
        refine ⟨.func (.func f) vs'.toArray us'.toArray,by simp [rn,rnF,rnR,k1,k3],?_⟩
        have f1:xs.map ev=vs'.toArray:=by rw [← k2,← dF]
        have f2:cs.map ev=us'.toArray:=by rw [← k4,← dF]
        simp [execOp,Instr.makeFunc,f1,f2]
      · cases hv
    · cases hi
  | method n=>simp [fX] at hi
  | methodOf t n=>simp [fX] at hi
  | via t p f q=>simp [fX] at hi
  | yield l=>simp [fX] at hi
theorem q_fd {t:TypeId} {x:Operand} {f:Nat} {i:In} {v:Value} (hi:fX P ⟨dst,.field t x f,ty,pos,aft,g⟩=some i) (hv:evQ fr h i=some v) (hf:FR ρ fr) (hk:EK ρ fr ev #[x]):QOK P ρ ev w ⟨dst,.field t x f,ty,pos,aft,g⟩ v:=by
  simp only [fX] at hi
  split at hi
  · rename_i d fs hd ht
    split at hi
    · rename_i fd hfd
      have fin:∀ n,aAx fd.offset n (evO fr d)=some v->((∃ k,n=some k/\lP P fd.type=some true/\szP P fd.type=some k)\/(n=none/\lP P fd.type=some false))->QOK P ρ ev w ⟨dst,.field t x f,ty,pos,aft,g⟩ v:=fun n hv hn=>by
        cases ha:evO fr d with
        | none=>rw [ha] at hv; cases hv
        | some a =>
          rw [ha] at hv
          obtain ⟨u,e2,e3⟩:=gH hf hk (by simp) hd ha
          obtain ⟨cs,u',rfl,e4,e5⟩:=aIh (w:=w) hv e2 hn
          exact ⟨u',e4,by simp [execOp,e3,Instr.field,run_underlying ht,hfd,asAgg,e5]⟩
      split at hi
      · rename_i n ha hs
        cases hi; exact fin (some n) hv (.inl ⟨n,rfl,ha,hs⟩)
      · rename_i ha hs
        cases hi; exact fin none hv (.inr ⟨rfl,ha⟩)
      · cases hi
    · cases hi
  · cases hi
theorem q_ix {t:TypeId} {x y:Operand} {i:In} {v:Value} (hi:fX P ⟨dst,.index t x y,ty,pos,aft,g⟩=some i) (hv:evQ fr h i=some v) (hf:FR ρ fr) (hk:EK ρ fr ev #[x,y]):QOK P ρ ev w ⟨dst,.index t x y,ty,pos,aft,g⟩ v:=by
  simp only [fX] at hi
  split at hi
  · rename_i d d' n e hd hd' ht
    split at hi
    · rename_i a s ha hs
      cases hi
      have hv:aQ3 n s a (evO fr d) (pC (evO fr d'))=some v:=hv
      unfold aQ3 at hv
      split at hv
      · rename_i j hj
        cases hlt:Nat.blt j n with
        | false=>rw [hlt] at hv; cases hv
        | true =>
          rw [hlt] at hv;simp only [cond_true] at hv
          have hlt:=nI.1 hlt
          obtain ⟨k,hj⟩:=mK hj
          obtain ⟨u',e4,e5⟩:=gH hf hk (by simp) hd' hj
          cases e4
          cases hx:evO fr d with
          | none=>rw [hx] at hv; cases hv
          | some b =>
            rw [hx] at hv
            obtain ⟨u,e2,e3⟩:=gH hf hk (by simp) hd hx
            obtain ⟨cs,u',rfl,e6,e7⟩:=aIh (w:=w) (f:=e) hv e2 (by
              cases a with
              | true=>exact .inl ⟨s,rfl,ha,hs⟩
              | false=>exact .inr ⟨rfl,ha⟩)
            exact ⟨u',e6,by simp [execOp,e3,e5,Instr.index,asIntOf,run_underlying ht,hlt,Eng.run_sizeOf hs,e7]⟩
      · cases hv
    · cases hi
  · cases hi; exact aIl rfl hv hk
  · cases hi
end
end
section
section
variable {P:Program} {ρ:Rn} {fr:Fr} {ev:Operand->Value} {w:World} {h:AH} {η:PH} {dst:Option Tmp} {ty:TypeId} {pos:String} {aft:Array Edge} {g:Option (Nat × Bool)}
theorem aIm {x:Option Operand} {d:Option Od} (e:odO x=some d):(x=none/\d=none)\/∃ y z,x=some y/\d=some z/\gW y=some z:=by
  cases x with
  | none=>cases e; exact .inl ⟨rfl,rfl⟩
  | some y =>
    simp only [odO] at e
    cases h:gW y with
    | none=>simp [h] at e
    | some z=>simp only [h,aD] at e; exact .inr ⟨y,z,rfl,e.symm,h⟩
theorem aRv {x y z:Option Operand} (h1:odO x=some none) (h2:odO y=some none) (h3:odO z=some none):x=none/\y=none/\z=none:=by
  have g:∀ {x:Option Operand},odO x=some none->x=none:=fun {x} h=>by
    rcases aIm h with ⟨h,_⟩|⟨_,_,_,h,_⟩
    · exact h
    · cases h
  exact ⟨g h1,g h2,g h3⟩
theorem q_sl {t:TypeId} {x:Operand} {lo hi mx:Option Operand} {i:In} {v:Value} (hi':fX P ⟨dst,.slice t x lo hi mx,ty,pos,aft,g⟩=some i) (hv:evQ fr h i=some v) (hf:FR ρ fr) (hk:EK ρ fr ev (Op.slice t x lo hi mx).operands):QOK P ρ ev w ⟨dst,.slice t x lo hi mx,ty,pos,aft,g⟩ v:=by
  simp only [fX] at hi'
  split at hi'
  · rename_i d dl dh dm hd h1 h2 h3
    split at hi'
    · rename_i e ht
      split at hi'
      · rename_i s hs
        cases hi'
        have hv:aQ4 (dl.map (evO fr)) (dh.map (evO fr)) (dm.map (evO fr)) s (evO fr d)=some v:=hv
        unfold aQ4 at hv
        split at hv
        · rename_i a ha
          obtain ⟨u,e2,e3⟩:=gH hf hk (by simp [Op.operands]) hd ha
          have opt:∀ {y:Option Operand} {z:Option Od},odO y=some z->(∀ q∈y,q∈(Op.slice t x lo hi mx).operands)->(∀ k (n:Int),z.map (evO fr)=some (some (.int k n))->y.map ev=some (.int k n))/\(z.map (evO fr)=none->y.map ev=none):=fun {y z} hy hm=>by
            rcases aIm hy with ⟨rfl,rfl⟩|⟨y',z',rfl,rfl,hz⟩
            · exact ⟨fun k n e=>by simp at e,fun _=>rfl⟩
            · refine ⟨fun k n e=>?_,fun e=>by simp at e⟩
              simp only [fC,aD] at e ⊢
              obtain ⟨u',k1,k2⟩:=gH hf hk (hm y' rfl) hz e
              cases k1; exact k2
          obtain ⟨l1,l2⟩:=opt h1 (fun q hq=>by simp [Op.operands]; rw [hq]; simp)
          obtain ⟨l3,l4⟩:=opt h2 (fun q hq=>by simp [Op.operands]; rw [hq]; simp)
          obtain ⟨l5,l6⟩:=opt h3 (fun q hq=>by simp [Op.operands]; rw [hq]; simp)
          obtain ⟨r,k1,k2⟩:=aUe (P:=P) (w:=w) ht hs hv e2 l1 l2 l3 l4 l5 l6
          exact ⟨r,k1,by simp only [execOp,e3]; exact mL k2⟩
        · cases hv
      · cases hi'
    · rename_i n e ht
      split at hi'
      · rename_i s hs
        cases hi'
        have hv:aQ5 n (evO fr d)=some v:=hv
        unfold aQ5 at hv
        split at hv
        · rename_i a b ha
          cases hb:Nat.blt n big with
          | false=>rw [hb] at hv; cases hv
          | true =>
            rw [hb,cond_true] at hv
            cases hv
            obtain ⟨u,e2,e3⟩:=gH hf hk (by simp [Op.operands]) hd ha
            obtain ⟨c,s',x',hρ,rfl⟩:=pU e2
            have hlt:n<big:=nI.1 hb
            obtain ⟨q1,q2⟩:=aRv h1 h2 h3
            have hn:P.arrayLen t=n:=by simp [Program.arrayLen,ht]
            have he:P.elem t=e:=by simp [Program.elem,ht]
            refine ⟨.slice (some ⟨c,s'+b,none⟩) n n,by simp only [rn,rnS,hρ,if_pos hlt],?_⟩
            subst q1
            obtain ⟨rfl,rfl⟩:=q2
            simp only [execOp,e3,Option.map_none];refine mL ?_
            rw [run_sliceAt_array_all w t _ (by rw [hn,he]; exact ht),he,Eng.run_sizeOf hs,hn]
            simp [slicedAt,Addr.add_lit]
        · cases hv
      · cases hi'
    · split at hi'
      · cases hi'; exact aIl rfl hv hk
      · cases hi'
    · cases hi'
  · cases hi'
theorem lV {t:TypeId} {zs:List Value} (e:zsP P t=some zs):∃ z,kD P t=some z/\z.cells.toList=zs/\rnL ρ zs=some zs:=by
  unfold zsP at e
  split at e
  · rename_i z hz
    cases hf:gR z with
    | false=>rw [hf] at e; cases e
    | true =>
      rw [hf] at e; cases e;refine ⟨z,hz,rfl,?_⟩
      have:=aIk (ρ:=ρ) (iM hf)
      rwa [← cl_eq] at this
  · cases e
theorem q_bd {t:TypeId} {ps:Array (Nat × Operand)} {i:In} {v:Value} (hi:fX P ⟨dst,.build t ps,ty,pos,aft,g⟩=some i) (hv:evQ fr h i=some v) (hf:FR ρ fr) (hk:EK ρ fr ev (Op.build t ps).operands):QOK P ρ ev w ⟨dst,.build t ps,ty,pos,aft,g⟩ v:=by
  have hx:∀ x∈ps.toList.map (·.2),x∈(Op.build t ps).operands:=fun x hx=>by simpa [Op.operands] using hx
  have hps:ps.map (fun (x:Nat × Operand)=>(x.1,ev x.2))=(ps.toList.map fun (x:Nat × Operand)=>(x.1,ev x.2)).toArray:=by
    rw [← dF]
  simp only [fX] at hi
  split at hi
  · rename_i fs zs ht hz
    cases hall:fs.toList.all (fun f=>(szP P f.type).isSome) with
    | false=>rw [hall] at hi; cases hi
    | true =>
      rw [hall] at hi;simp only [cond_true,aQ] at hi
      obtain ⟨qs,hq,rfl⟩:=hi
      have hv:aH3 zs (aAw fr qs)=some v:=hv
      unfold aH3 at hv
      split at hv
      · rename_i l hl
        obtain ⟨r,e1,rfl⟩:=sE hv
        obtain ⟨z,z1,z2,z3⟩:=lV (ρ:=ρ) hz
        obtain ⟨r',e2,e3⟩:=vC hf hk (aMt hq) hx hl e1 z3
        refine ⟨.agg r'.toArray,by simp only [rn,rnR,e2],?_⟩
        have hm:=aMu (P:=P) (w:=w) fs.toList hall
        have hmm:(fs.mapM (fun f=>Prod.mk f.offset <$> sizeOf f.type:Field->Sem (Nat × Nat))).run P w=.ok (fs.toList.map fun f=>(f.offset,(szP P f.type).getD 0)).toArray w:=by
          rw [Array.mapM_eq_mapM_toList]
          simp [hm]
        have hfill:Instr.fill (fun x=>Option.map (fun f=>(f.offset,(szP P f.type).getD 0)) fs[x]?) z.cells (List.map (fun (x:Nat × Operand)=>(x.1,ev x.2)) ps.toList)=some r'.toArray:=by
          have hz2:z.cells=zs.toArray:=by rw [← z2]
          rw [hz2,← e3]
          congr 1
          funext i
          simp [aK1]
        simp only [execOp,Instr.build]
        simp [gI z1,run_underlying ht,hmm]
        rw [hfill]; simp
      · cases hv
  · rename_i n e zs ht hz
    split at hi
    · rename_i s hs
      simp only [aQ] at hi
      obtain ⟨qs,hq,rfl⟩:=hi
      have hv:aH3 zs (aAw fr qs)=some v:=hv
      unfold aH3 at hv
      split at hv
      · rename_i l hl
        obtain ⟨r,e1,rfl⟩:=sE hv
        obtain ⟨z,z1,z2,z3⟩:=lV (ρ:=ρ) hz
        obtain ⟨r',e2,e3⟩:=vC hf hk (zS hq) hx hl e1 z3
        refine ⟨.agg r'.toArray,by simp only [rn,rnR,e2],?_⟩
        have hz2:z.cells=zs.toArray:=by rw [← z2]
        simp only [execOp,Instr.build]
        simp [gI z1,run_underlying ht,Eng.run_sizeOf hs,hz2,hps,e3]
      · cases hv
    · cases hi
  · cases hi
theorem aRw {l:List Value} {bs:List UInt8} (e:uY l=some bs):∃ ns:List Int,l=ns.map (Value.int .u8)/\∀ r:ByteArray,ns.foldl (fun r n=>r.push (UInt8.ofNat n.toNat)) r=⟨⟨r.data.toList ++ bs⟩⟩:=by
  induction l generalizing bs with
  | nil=>cases e; exact ⟨[],rfl,fun r=>by simp⟩
  | cons v l ih =>
    unfold uY at e
    split at e
    · rename_i heq; cases heq
    · rename_i b l' heq
      cases heq
      split at e
      · rename_i bs' hb
        cases e
        obtain ⟨ns,rfl,h2⟩:=ih hb
        refine ⟨(b:Int)::ns,rfl,fun r=>?_⟩
        rw [eZ,h2]
        simp [ByteArray.push]
      · cases e
    · cases e
theorem aIn:∀ (ns:List Int),rnL ρ (ns.map (Value.int .u8))=some (ns.map (Value.int .u8))
  | []=>rfl
  | n::ns=>by simp only [dK]; exact rnL_cons.2 ⟨_,_,rfl,aIn ns,rfl⟩
theorem q_cv {s d:TypeId} {x:Operand} {i:In} {v:Value} (hi:fX P ⟨dst,.convert s d x,ty,pos,aft,g⟩=some i) (hv:evQ fr h i=some v) (hr:HR P ρ h η) (hw:η.le w) (hf:FR ρ fr) (hk:EK ρ fr ev #[x]):QOK P ρ ev w ⟨dst,.convert s d x,ty,pos,aft,g⟩ v:=by
  simp only [fX] at hi
  split at hi
  · rename_i o ho
    unfold tS at hi
    split at hi
    · rename_i k' k hs hd
      cases hi
      have hv:aQ7 k (evO fr o)=some v:=hv
      unfold aQ7 at hv
      split at hv
      · rename_i k2 n ha
        cases hv
        obtain ⟨u,e2,e3⟩:=gH hf hk (by simp) ho ha
        cases e2
        exact ⟨_,rfl,by simp [execOp,e3,convert,run_underlying hs,run_underlying hd,Conv.intToInt,wr_eq]⟩
      · cases hv
    · rename_i hs hd
      cases hi
      exact aIl rfl hv hk
    · rename_i e hs hd
      split at hi
      · cases hi; cases hv
      · cases hi
    · rename_i e hs hd
      split at hi
      · rename_i he
        cases hi
        have hv:aRa h (evO fr o)=some v:=hv
        unfold aRa at hv
        split at hv
        · rename_i i o' n c ha
          obtain ⟨u,e2,e3⟩:=gH hf hk (by simp) ho ha
          cases hl:aAv h i o' n with
          | none=>rw [hl] at hv; cases hv
          | some l =>
            rw [hl] at hv;simp only [aQ9] at hv
            cases hb:uY l with
            | none=>rw [hb] at hv; cases hv
            | some bs =>
              rw [hb] at hv
              cases hv
              obtain ⟨ns,rfl,h2⟩:=aRw hb
              obtain ⟨b,s',ex,hρ,e2⟩:=nX e2
              obtain ⟨us,k1,k2,k3⟩:=hr.row hw hl hρ
              rw [aIn] at k1; cases k1;refine ⟨_,rfl,?_⟩
              have hlen:ns.length=n:=by simpa using k2
              have hld:∀ b' o2 C,u=.slice (some ⟨b',o2,none⟩) n C->(b'=b/\o2=s'+o')\/n=0:=fun b' o2 C hu=>by
                by_cases hn:n=0
                · exact .inr hn
                · obtain ⟨b2,s2,e2',c2,h3,h4⟩:=sD e2 (by omega)
                  rw [hρ] at h3; cases h3;rw [hu] at h4; cases h4;exact .inl ⟨rfl,rfl⟩
              obtain ⟨b',o2,C,rfl⟩:=mR e2
              have hcells:(loadCells ⟨b',o2,none⟩ n).run P w=.ok (ns.map (Value.int .u8)).toArray w:=by
                rcases hld b' o2 C rfl with ⟨rfl,rfl⟩|hn
                · have:=iN (P:=P) k3
                  rwa [show (ns.map (Value.int IntKind.u8)).length=n from by simpa using hlen] at this
                · subst hn
                  have:ns=[]:=dE hlen
                  subst this
                  simp [loadCells,loadCellsFrom]
              have hb:=run_bytesToString (P:=P) w ⟨b',o2,none⟩ n C ns hcells
              rw [h2] at hb;simp only [execOp,e3];refine mL ?_;rw [run_convert_bytes_string w s d e _ n C hs he hd,hb]
              simp
        · rename_i n c ha
          cases hv
          obtain ⟨u,e2,e3⟩:=gH hf hk (by simp) ho ha
          cases e2
          refine ⟨_,rfl,?_⟩;simp only [execOp,e3];refine mL ?_;rw [run_convert_bytes_string w s d e _ n c hs he hd]
          simp [Conv.bytesToString]
          rfl
        · cases hv
      · cases hi
    · cases hi
  · cases hi
theorem q_ln {i:In} {v:Value} {c:Call} {b:Builtin} (hc:c.callee=.builtin b) (hi:fX P ⟨dst,.call c,ty,pos,aft,g⟩=some i) (hq:(∃ m,i=.mi m)) (hv:evQ fr h i=some v) (hf:FR ρ fr) (hk:EK ρ fr ev (Op.call c).operands):QOK P ρ ev w ⟨dst,.call c,ty,pos,aft,g⟩ v:=by
  obtain ⟨cal,args,ts⟩:=c
  simp only at hc;subst hc
  obtain ⟨m,rfl⟩:=hq
  simp only [fX] at hi;unfold mJ at hi;simp only at hi;unfold lC at hi
  split at hi
  · rename_i x t h1 h2
    unfold aMm at hi
    split at hi
    · rename_i e ht
      cases hi
      have hv:aQ6 (evO fr x)=some v:=hv
      unfold aQ6 at hv
      split at hv
      · rename_i a n c ha
        cases hv
        obtain ⟨y,hy⟩:∃ y,args = #[y]/\gW y=some x:=by
          obtain ⟨l⟩:=args
          cases l with
          | nil=>cases h1
          | cons y l =>
            simp only [lI] at h1
            cases k1:gW y with
            | none=>simp [k1] at h1
            | some d=>cases k2:lI l with
              | none=>simp [k1,k2] at h1
              | some r =>
                simp only [k1,k2,aD,dV] at h1
                obtain ⟨rfl,rfl⟩:=h1
                cases l with
                | nil=>exact ⟨y,rfl,k1⟩
                | cons z l =>
                  simp only [lI] at k2
                  split at k2
                  · cases k2
                  · cases k2
        obtain ⟨rfl,hy⟩:=hy
        obtain ⟨u,e2,e3⟩:=gH hf hk (by simp [Op.operands,Call.operands]) hy ha
        have hts:ts = #[t]:=by obtain ⟨l⟩:=ts; simp at h2; subst h2; rfl
        subst hts
        obtain ⟨a',C,rfl⟩:∃ a' C,u=.slice a' n C:=by
          rcases a with _|⟨i,o,_|s⟩
          · cases e2; exact ⟨_,_,rfl⟩
          · obtain ⟨_,_,_,_,e2⟩:=nX e2
            obtain ⟨_,_,_,rfl⟩:=mR e2
            exact ⟨_,_,rfl⟩
          · simp [rn] at e2
        refine ⟨_,rfl,?_⟩
        simp [execOp,resolve,e3,invoke,builtin,Builtin.len_,run_underlying ht,goInt]
      · cases hv
    · cases hi; exact aIl rfl hv hk
    · cases hi
  · cases hi; exact aIl rfl hv hk
  · cases hi; exact aIl rfl hv hk
  · repeat' split at hi
    all_goals first|(cases hi; done)|(rename_i zs _ _ _; cases hz:zs.length.beq _ <;> rw [hz] at hi <;> cases hi)
  · repeat' split at hi
    all_goals cases hi
  · repeat' split at hi
    all_goals first|(cases hi; done)|(rename_i zs _ _; cases hz:zs.length.beq _ <;> rw [hz] at hi <;> cases hi)
  · cases hi
theorem aD3 {kk:IntKind} {kn:Int} {kd:IntKind}:∀ {es es':List MapEntry} {j:Nat} {r:Option (Nat × Value)},aH2 kk kn es j=some r->rnE ρ es=some es' ->
    match r with
    | none=>Instr.findNow (.int kd) (.int kk kn) es' j=some none
    | some (n,v)=>∃ v',rn ρ v=some v'/\Instr.findNow (.int kd) (.int kk kn) es' j=some (some (n,v'))/\j<=n/\(es[n-j]?).map (·.val)=some v/\(es'[n-j]?).map (·.key)=some (.int kk kn)
  | [],es',j,r,e,h=>by cases e; cases h; rfl
  | m::l,es',j,r,e,h=>by
    simp only [rnE] at h
    cases h1:rn ρ m.key with
    | none=>simp [h1] at h
    | some k'=>cases h2:rn ρ m.val with
      | none=>simp [h1,h2] at h
      | some v'=>cases h3:rnE ρ l with
        | none=>simp [h1,h2,h3] at h
        | some l' =>
          simp only [h1,h2,h3,aD] at h;subst h;simp only [aH2] at e
          split at e
          · rename_i k n hkey
            rw [hkey] at h1; cases h1
            cases hk:kB kk k with
            | false=>rw [hk] at e; cases e
            | true =>
              rw [hk] at e
              have:=aRo hk; subst this
              simp only [cond_true,aA5] at e
              by_cases hn:kn=n
              · subst hn
                simp only [BEq.rfl,cond_true,aD] at e;subst e
                exact ⟨v',h2,by simp [Instr.findNow,Instr.sameNow],aK _,by simp,by simp⟩
              · have hb:(kn == n)=false:=by simpa using hn
                rw [hb] at e;simp only [cond_false] at e
                have ih:=aD3 (kd:=kd) e h3
                have hs:∀ q,Instr.findNow (.int kd) (.int kk kn) (⟨.int kk n,v',m.born⟩::l') j=q↔Instr.findNow (.int kd) (.int kk kn) l' (j+1)=q:=fun q=>by
                  simp [Instr.findNow,Instr.sameNow,hb]
                cases r with
                | none=>exact (hs _).2 ih
                | some p =>
                  obtain ⟨n',v2⟩:=p
                  obtain ⟨v3,q1,q2,q3,q4,q5⟩:=ih
                  refine ⟨v3,q1,(hs _).2 q2,by omega,?_,?_⟩
                  · rw [show n'-j=(n'-(j+1))+1 from by omega]; simpa using q4
                  · rw [show n'-j=(n'-(j+1))+1 from by omega]; simpa using q5
          · cases e
theorem aRx (hr:HR P ρ h η) (hw:η.le w) {r cl:Nat} {es:List MapEntry} (hg:h.get r=some (.map es cl)):∃ b s e es',ρ r=some (b,s,e)/\rnE ρ es=some es'/\w.heap[b]?=some (.map es'.toArray cl)/\η b=some (.map es'.toArray cl):=by
  obtain ⟨b,s,e,o,h1,h2,h3⟩:=hr.val r _ hg
  obtain ⟨es',rfl,h4⟩:=h3
  exact ⟨b,s,e,es',h1,h4,hw b _ h2,h2⟩
theorem aWo {kt:TypeId} {kd kk:IntKind} {kn:Int} (e:Bool) (n:Nat) (hkt:P.underlying kt=some (.int kd)):(Instr.checkKey e (n+1) kt (.int kk kn)).run P w=.ok () w:=by
  simp [Instr.checkKey,run_underlying hkt]
theorem aRy {kt:TypeId} (h:aFc P kt=some 0):∃ kd,P.underlying kt=some (.int kd):=by
  unfold aFc at h
  split at h
  · rename_i kd hu; exact ⟨kd,hu⟩
  · split at h
    · cases h
    · split at h <;> cases h
  · cases h
theorem aRz {kt:TypeId} {n:Nat} (h:aFc P kt=some (n+1)):KeyS P kt (n+1):=by
  unfold aFc at h
  split at h
  · cases h
  · split at h
    · cases h
    · split at h
      · rename_i hb
        cases h
        rw [aJ,dH] at hb;exact ⟨hb.1,hb.2⟩
      · cases h
  · cases h
theorem wZ:∀ {a:List Value} {b:List Int},aAy a=some b->a=b.map int
  | [],b,h=>by cases h; rfl
  | v::l,b,h=>by
    simp only [aAy] at h
    split at h
    · rename_i n r h1 h2
      cases h
      have e:=wZ h2
      unfold intV at h1
      split at h1
      · cases h1; rw [e]; rfl
      · cases h1
    · cases h
theorem aFn:∀ {a b:List Int},eqI a b=true↔a=b
  | [],[]=>by simp [eqI]
  | [],_::_=>by simp [eqI]
  | _::_,[]=>by simp [eqI]
  | x::a,y::b=>by simp [eqI,aA5,aFn (a:=a) (b:=b)]
theorem aA9:∀ (b:List Int),aDv (b.map int)=true
  | []=>rfl
  | x::b=>by
    have:=aA9 b
    simp [aDv,gR,this]
theorem aD4 (b:List Int):gR (uH b)=true:=aA9 b
theorem aD5 {kt:TypeId} {b:List Int} {n:Nat} (hk:KeyS P kt n) (hn:b.length=n):∀ {es es':List MapEntry} {j:Nat} {r:Option (Nat × Value)},aH4 b n es j=some r->rnE ρ es=some es' ->
    match r with
    | none=>(Instr.findAsking kt (uH b) es' j).run P w=.ok none w
    | some (i,v)=>∃ v',rn ρ v=some v'/\(Instr.findAsking kt (uH b) es' j).run P w=.ok (some (i,v')) w/\j<=i/\(es[i-j]?).map (·.val)=some v/\(es'[i-j]?).map (·.key)=some (uH b)
  | [],es',j,r,e,h=>by cases e; cases h; simp [Instr.findAsking]
  | m::l,es',j,r,e,h=>by
    simp only [rnE] at h
    cases h1:rn ρ m.key with
    | none=>simp [h1] at h
    | some k'=>cases h2:rn ρ m.val with
      | none=>simp [h1,h2] at h
      | some v'=>cases h3:rnE ρ l with
        | none=>simp [h1,h2,h3] at h
        | some l' =>
          simp only [h1,h2,h3,aD] at h;subst h;simp only [aH4] at e
          split at e
          · rename_i a hkey
            split at e
            · rename_i c hc
              have ea:=wZ hc
              subst ea
              have hkf:m.key=uH c:=hkey
              rw [hkf,iM (aD4 c)] at h1
              cases h1
              cases hlb:c.length.beq n with
              | false=>rw [hlb] at e; cases e
              | true =>
                have hcl:=aO hlb
                rw [hlb,cond_true] at e
                have he:=tZ (P:=P) w hk.i hk.s hn hcl
                by_cases hbc:b=c
                · subst hbc
                  rw [aFn.2 rfl,cond_true] at e
                  cases e
                  refine ⟨v',h2,?_,aK _,by simp,by simp⟩
                  simp only [Instr.findAsking,Op.equal,Op.maxDepth,Sem.run_bind,he,Result.andThen_ok]
                  simp
                · have hf:eqI b c=false:=by cases hx:eqI b c with
                    | false=>rfl
                    | true=>exact absurd (aFn.1 hx) hbc
                  rw [hf,cond_false] at e
                  have ih:=aD5 hk hn e h3
                  have hs:∀ q,(Instr.findAsking kt (uH b) (⟨uH c,v',m.born⟩::l') j).run P w=q↔(Instr.findAsking kt (uH b) l' (j+1)).run P w=q:=fun q=>by
                    simp only [Instr.findAsking,Op.equal,Op.maxDepth,Sem.run_bind,he,Result.andThen_ok,hbc,decide_false,eK,if_false]
                  cases r with
                  | none=>exact (hs _).2 ih
                  | some p =>
                    obtain ⟨n',v2⟩:=p
                    obtain ⟨v3,q1,q2,q3,q4,q5⟩:=ih
                    refine ⟨v3,q1,(hs _).2 q2,by omega,?_,?_⟩
                    · rw [show n'-j=(n'-(j+1))+1 from by omega]; simpa using q4
                    · rw [show n'-j=(n'-(j+1))+1 from by omega]; simpa using q5
            · cases e
          · cases e
theorem sF {kt:TypeId} {n:Nat} {k k':Value} {es es':List MapEntry} {r:Option (Nat × Value)} (hkt:aFc P kt=some n):aRb n k es=some r->rnE ρ es=some es'->rn ρ k=some k' ->
    k'=k/\(∀ em,(Instr.checkKey em 10000 kt k).run P w=.ok () w)/\Instr.sameBits 10000 k k=true /\
    match r with
    | none=>(Instr.findKey kt k es').run P w=.ok none w
    | some (i,v)=>∃ v',rn ρ v=some v'/\(Instr.findKey kt k es').run P w=.ok (some (i,v')) w/\(es[i]?).map (·.val)=some v/\(es'[i]?).map (·.key)=some k:=by
  intro e h hk
  cases n with
  | zero =>
    cases k with
    | int kk kn =>
      have e:aH2 kk kn es 0=some r:=e
      obtain ⟨kd,hu⟩:=aRy hkt
      cases hk
      have hc:=fun em=>aWo (P:=P) (w:=w) (kk:=kk) (kn:=kn) em 9999 hu
      simp only [Nat.reduceAdd] at hc
      refine ⟨rfl,hc,by unfold Instr.sameBits; cases kk <;> simp,?_⟩
      have q:=aD3 (kd:=kd) e h
      cases r with
      | none=>simp only at q; simp [Instr.findKey,run_underlying hu,q]
      | some p =>
        obtain ⟨i,v⟩:=p
        obtain ⟨v',q1,q2,_,q4,q5⟩:=q
        exact ⟨v',q1,by simp [Instr.findKey,run_underlying hu,q2],by simpa using q4,by simpa using q5⟩
    | _=>cases e
  | succ m =>
    cases k with
    | agg a =>
      obtain ⟨a⟩:=a
      have e2:(match aAy a with
        | some b=>bif b.length.beq (m+1) then aH4 b (m+1) es 0 else none
        | none=>none)=some r:=e
      clear e
      cases hb:aAy a with
      | none=>rw [hb] at e2; cases e2
      | some b =>
        rw [hb] at e2;simp only at e2
        have ea:=wZ hb
        subst ea
        cases hlb:b.length.beq (m+1) with
        | false=>rw [hlb] at e2; cases e2
        | true =>
          have hbl:=aO hlb
          rw [hlb,cond_true] at e2
          have hS:=aRz hkt
          have hkk:rn ρ (uH b)=some k':=hk
          rw [iM (aD4 b)] at hkk
          cases hkk
          obtain ⟨fs,hu,_,_⟩:=aBl hS.i
          refine ⟨rfl,fun em=>aL0 hS hbl em,aGf b,?_⟩
          have q:=aD5 (w:=w) hS hbl e2 h
          have hfk:(Instr.findKey kt (uH b) es').run P w=(Instr.findAsking kt (uH b) es' 0).run P w:=by rw [run_findKey_eq w (by rw [hu])]
          cases r with
          | none=>exact hfk.trans q
          | some p =>
            obtain ⟨i,v⟩:=p
            obtain ⟨v',q1,q2,_,q4,q5⟩:=q
            exact ⟨v',q1,hfk.trans q2,by simpa using q4,by simpa using q5⟩
    | _=>cases e
theorem q_lk {t:TypeId} {x y:Operand} {ok:Bool} {i:In} {v:Value} (hi:fX P ⟨dst,.lookup t x y ok,ty,pos,aft,g⟩=some i) (hv:evQ fr h i=some v) (hr:HR P ρ h η) (hw:η.le w) (hf:FR ρ fr) (hk:EK ρ fr ev #[x,y]):QOK P ρ ev w ⟨dst,.lookup t x y ok,ty,pos,aft,g⟩ v:=by
  simp only [fX] at hi
  split at hi
  · rename_i d d' kt e hd hd' ht
    split at hi
    · rename_i n z hkt hz
      cases hfz:gR z with
      | false=>rw [hfz] at hi; cases hi
      | true =>
        rw [hfz] at hi
        cases hi
        have hv:aRc h z ok n (evO fr d) (evO fr d')=some v:=hv
        unfold aRc at hv
        split at hv
        · rename_i r k ha hb
          split at hv
          · rename_i es cl hg
            obtain ⟨u,e2,e3⟩:=gH hf hk (by simp) hd ha
            obtain ⟨u',e4,e5⟩:=gH hf hk (by simp) hd' hb
            obtain ⟨b,s,ex,es',h1,h2,h3,_⟩:=aRx hr hw hg
            simp only [rn,h1,aD] at e2;subst e2;unfold lkpR at hv
            split at hv
            · rename_i n' v' hfk
              obtain ⟨rfl,hc,_,v2,q1,hfk2,_,_⟩:=sF (w:=w) hkt hfk h2 e4
              cases ok with
              | true =>
                cases hv
                refine ⟨.tuple #[v2,.bool true],?_,?_⟩
                · have:=rnL_cons.2 ⟨v2,[.bool true],q1,(rfl:rnL ρ [.bool true]=some [.bool true]),rfl⟩
                  show rn ρ (.tuple ⟨[v',.bool true]⟩)=_
                  simp only [rn,rnR,this]
                · simp [execOp,e3,e5,Instr.lookup,run_underlying ht,getObj,Sem.run,h3,hc,hfk2]
              | false =>
                cases hv
                exact ⟨v2,q1,by simp [execOp,e3,e5,Instr.lookup,run_underlying ht,getObj,Sem.run,h3,hc,hfk2]⟩
            · rename_i hfk
              obtain ⟨rfl,hc,_,hfk2⟩:=sF (w:=w) hkt hfk h2 e4
              have q1:=iM (ρ:=ρ) hfz
              cases ok with
              | true =>
                cases hv
                refine ⟨.tuple #[z,.bool false],?_,?_⟩
                · have:=rnL_cons.2 ⟨z,[.bool false],q1,(rfl:rnL ρ [.bool false]=some [.bool false]),rfl⟩
                  show rn ρ (.tuple ⟨[z,.bool false]⟩)=_
                  simp only [rn,rnR,this]
                · simp [execOp,e3,e5,Instr.lookup,run_underlying ht,getObj,Sem.run,h3,hc,hfk2,gI hz]
              | false =>
                cases hv
                exact ⟨z,q1,by simp [execOp,e3,e5,Instr.lookup,run_underlying ht,getObj,Sem.run,h3,hc,hfk2,gI hz]⟩
            · cases hv
          · cases hv
        · cases hv
    · cases hi
  · cases hi
end
end
section
section
variable {P:Program} {ρ:Rn} {fr:Fr} {ev:Operand->Value} {w:World} {h:AH} {η:PH} {dst:Option Tmp} {ty:TypeId} {pos:String} {aft:Array Edge} {g:Option (Nat × Bool)}
theorem aK3 {α:Type} {x:Option α} {f:α->Wr} {i:In} {v:Value} (hi:(x.map fun a=>In.wr (f a))=some i) (hv:evQ fr h i=some v):False:=by
  cases x with
  | none=>cases hi
  | some a=>cases hi; cases hv
theorem aFo {o:Oper} {i:In} {v:Value} (hi:fX P o=some i) (hv:evQ fr h i=some v) (hr:HR P ρ h η) (hw:η.le w) (hf:FR ρ fr) (hk:EK ρ fr ev o.op.operands):QOK P ρ ev w o v:=by
  obtain ⟨dst,op,ty,pos,aft,g⟩:=o
  cases op with
  | move x =>
    simp only [fX,aQ] at hi
    obtain ⟨d,hd,rfl⟩:=hi
    obtain ⟨u,h1,h2⟩:=gH hf hk (by simp [Op.operands]) hd hv
    exact ⟨u,h1,by simp [execOp,h2]⟩
  | assign x =>
    simp only [fX,aQ] at hi
    obtain ⟨d,hd,rfl⟩:=hi
    obtain ⟨u,h1,h2⟩:=gH hf hk (by simp [Op.operands]) hd hv
    exact ⟨u,h1,by simp [execOp,h2]⟩
  | binOp op t x y yt=>exact q_bin hi hv hf hk
  | load t x=>exact q_ld hi hv hr hw hf hk
  | fieldAddr t x f=>exact q_fa hi hv hf hk
  | indexAddr t x y=>exact q_ia hi hv hf hk
  | unOp op t x=>exact q_un hi hv hf hk
  | pick c x y=>exact q_pk hi hv hf hk
  | extract x n=>exact q_ex hi hv hf hk
  | nilCheck x=>exact q_nc hi hv hf hk
  | makeFunc fn xs cs=>exact q_mf hi hv hf hk
  | field t x f=>exact q_fd hi hv hf hk
  | index t x y=>exact q_ix hi hv hf hk
  | slice t x lo hi' mx=>exact q_sl hi hv hf hk
  | build t ps=>exact q_bd hi hv hf hk
  | convert s d x=>exact q_cv hi hv hr hw hf hk
  | lookup t x y ok=>exact q_lk hi hv hr hw hf hk
  | call c =>
    cases hc:c.callee with
    | builtin b =>
      have hm:(∃ m,i=.mi m)\/∃ m,i=.wr m:=by
        simp only [fX,mJ,hc] at hi;unfold lC at hi
        split at hi
        · unfold aMm at hi
          repeat' split at hi
          all_goals first|(cases hi; done)|(cases hi; exact .inl ⟨_,rfl⟩)
        · cases hi; exact .inl ⟨_,rfl⟩
        · cases hi; exact .inl ⟨_,rfl⟩
        · repeat' split at hi
          all_goals first|(cases hi; done)|(rename_i zs _ _ _; cases hz:zs.length.beq _ <;> rw [hz] at hi <;> cases hi; exact .inr ⟨_,rfl⟩)
        · repeat' split at hi
          all_goals first|(cases hi; done)|(cases hi; exact .inr ⟨_,rfl⟩)
        · repeat' split at hi
          all_goals first|(cases hi; done)|(rename_i zs _ _; cases hz:zs.length.beq _ <;> rw [hz] at hi <;> cases hi; exact .inr ⟨_,rfl⟩)
        · cases hi
      rcases hm with ⟨m,rfl⟩|⟨m,rfl⟩
      · exact q_ln hc hi ⟨m,rfl⟩ hv hf hk
      · cases hv
    | value f =>
      simp only [fX,mJ,hc] at hi;unfold zQ at hi
      split at hi
      · cases hi; cases hv
      · cases hi
    | invoke r n =>
      simp only [fX,mJ,hc] at hi
      cases hi
  | store t x y =>
    simp only [fX] at hi
    repeat' split at hi
    all_goals first|(cases hi; done)|(cases hi; cases hv)
  | alloc t=>simp only [fX] at hi; exact (aK3 hi hv).elim
  | box t x=>simp only [fX] at hi; exact (aK3 hi hv).elim
  | buildSlice t n ps =>
    simp only [fX] at hi
    repeat' split at hi
    all_goals first|(cases hi; done)|(rename_i zs _ _; cases hz:zs.length.beq _ <;> rw [hz] at hi <;> first|(cases hi; done)|exact (aK3 hi hv).elim)
  | makeSlice t l c =>
    simp only [fX] at hi
    repeat' split at hi
    all_goals first|(cases hi; done)|(rename_i zs _ _ _; cases hz:zs.length.beq _ <;> rw [hz] at hi <;> first|(cases hi; done)|(cases hi; cases hv))
  | makeMap t r =>
    cases r with
    | none=>cases hi; cases hv
    | some x=>cases hi
  | mapUpdate t m k v' =>
    simp only [fX] at hi
    repeat' split at hi
    all_goals first|(cases hi; done)|(cases hi; cases hv)
  | insert t m k v' =>
    simp only [fX] at hi
    repeat' split at hi
    all_goals first|(cases hi; done)|(cases hi; cases hv)
  | _=>cases hi
/-! what acts -/
def Ext (ρ ρ':Rn) (lo hi:Nat):Prop:=ρ.le ρ'/\∀ i,ρ' i≠none->ρ i≠none\/(lo<=i/\i<hi)
theorem Ext.refl {lo hi:Nat}:Ext ρ ρ lo hi:=⟨fun _ _ h=>h,fun _ h=>.inl h⟩
theorem Ext.trans {ρ1 ρ2 ρ3:Rn} {a b c:Nat} (h1:Ext ρ1 ρ2 a b) (h2:Ext ρ2 ρ3 b c) (hab:a<=b) (hbc:b<=c):Ext ρ1 ρ3 a c:=
  ⟨fun i x h=>h2.1 i x (h1.1 i x h),fun i h=>by
    rcases h2.2 i h with h|h
    · rcases h1.2 i h with h|h
      · exact .inl h
      · exact .inr ⟨h.1,by omega⟩
    · exact .inr ⟨by omega,h.2⟩⟩
def Fresh (ρ:Rn) (lo hi:Nat):Prop:=∀ i,lo<=i->i<hi->ρ i=none
theorem Fresh.after {ρ ρ':Rn} {a b c:Nat} (h:Fresh ρ a c) (e:Ext ρ ρ' a b) (hab:a<=b):Fresh ρ' b c:=fun i h1 h2=>by
  cases hi:ρ' i with
  | none=>rfl
  | some x =>
    rcases e.2 i (by rw [hi]; simp) with h3|h3
    · exact absurd (h i (by omega) h2) h3
    · omega
theorem Upd.one {η η':PH} {w w':World} (h1:w.heap.size<=w'.heap.size/\w'.os=w.os/\w'.output=w.output/\w'.tape=w.tape/\w.drawn<=w'.drawn) (h2:∀ b,b<w.heap.size->η b=none->w'.heap[b]?=w.heap[b]?)
    (h3:η'.le w') (h4:∀ b,η' b≠none->η b≠none\/w.heap.size<=b):Upd [η] [η'] w w':=
  ⟨h1,fun b hb hn=>h2 b hb (hn η (by simp)),fun ρ hρ=>by simp at hρ; subst hρ; exact h3,by simp,fun ρ hρ b hb=>by
    simp at hρ; subst hρ
    rcases h4 b hb with h|h
    · exact .inl ⟨η,by simp,h⟩
    · exact .inr h⟩
def LOK (P:Program) (ρ:Rn) (η:PH) (ev:Operand->Value) (w:World) (h:AH) (o:Oper) (v:Value) (h':AH):Prop:=
  h.next<=h'.next/\(Fresh ρ h.next h'.next->∃ u ρ' η' w',(((execOp ev o).run P w=.ok (.value u) w')\/((execOp ev o).run P w=.ok .skip w'/\u=undef))/\rn ρ' v=some u/\HR P ρ' h' η'/\Upd [η] [η'] w w'/\Ext ρ ρ' h.next h'.next)
theorem pX (hw:η.le w):η w.heap.size=none:=by
  cases e:η w.heap.size with
  | none=>rfl
  | some o=>have:=hw.lt (b:=w.heap.size) (by rw [e]; simp); omega
theorem xA (hw:η.le w) (o:Obj):Upd [η] [iT η w.heap.size (some o)] w (w.alloc o):=by
  have hn:=pX hw
  refine Upd.one ⟨by simp,rfl,rfl,rfl,aK _⟩ (fun b hb _=>?_) (fun b ob hb=>?_) (fun b hb=>?_)
  · exact heap_alloc_old w o hb
  · unfold iT at hb
    split at hb
    · rename_i e; cases hb; subst e; exact heap_alloc_new w _
    · rename_i e
      have h1:=hw b ob hb
      have h2:=hw.lt (b:=b) (by rw [hb]; simp)
      rw [heap_alloc_old w o h2]; exact h1
  · unfold iT at hb
    split at hb
    · rename_i e; exact .inr (by omega)
    · exact .inl hb
theorem kN {e:TypeId} {l:List Value} {i:Nat} {h':AH} (hn:aAz h e l=some (i,h')):i=h.next/\h.new (.cells l e)=some h':=by
  unfold aAz at hn;rw [aAs] at hn;simp only at hn
  cases hh:h.new (.cells l e) with
  | none=>rw [hh] at hn; cases hn
  | some h2=>rw [hh] at hn; cases hn; exact ⟨rfl,rfl⟩
theorem aR0 (n:Nat):NoFz (0,0) n:=fun o _ h=>by omega
theorem sG (hr:HR P ρ h η) (hw:η.le w) {e:TypeId} {l us:List Value} {h':AH} (hn:h.new (.cells l e)=some h') (hl:rnL ρ l=some us) (hf:Fresh ρ h.next h'.next) :
    HR P (jL ρ h.next (w.heap.size,0,0)) h' (iT η w.heap.size (some (.cells us.toArray e (0,0))))/\Upd [η] [iT η w.heap.size (some (.cells us.toArray e (0,0)))] w (w.alloc (.cells us.toArray e (0,0)))/\Ext ρ (jL ρ h.next (w.heap.size,0,0)) h.next h'.next:=by
  have hnx:=(AH.get_new hn).2
  have hn0:ρ h.next=none:=hf _ (aK _) (by omega)
  refine ⟨hr.new hn hn0 (pX hw) ⟨[],us,[],(0,0),0,by simp,lR (kM hn0) hl,rfl,rfl,.inl rfl,aR0 _⟩,xA hw _,kM hn0,fun i hi=>?_⟩
  unfold jL at hi
  split at hi
  · rename_i e; exact .inr ⟨by omega,by omega⟩
  · exact .inl hi
theorem iY {x:AO} {h':AH} (hn:h.new x=some h'):h.next<=h'.next:=by rw [(AH.get_new hn).2]; omega
theorem iZ {i:Nat} {x:Option AO} {h':AH} (hn:h.put i x=some h'):h'.next=h.next:=(AH.get_put hn).2
theorem nS {x:Option (Nat × AH)} {v:Value} {h':AH} (e:aKy x=some (v,h')):∃ i,x=some (i,h')/\v=.pointer (some ⟨i,0,none⟩):=by
  unfold aKy at e
  split at e
  · cases e; exact ⟨_,rfl,rfl⟩
  · cases e
theorem mM {x:Option (Nat × AH)} {n c:Nat} {v:Value} {h':AH} (e:aRe n c x=some (v,h')):∃ i,x=some (i,h')/\v=.slice (some ⟨i,0,none⟩) n c:=by
  unfold aRe at e
  split at e
  · cases e; exact ⟨_,rfl,rfl⟩
  · cases e
theorem kI {i:Nat} {x:Nat × Nat × Nat}:jL ρ i x i=some x:=by simp [jL]
theorem aUg {t:TypeId} {wr:Wr} {v:Value} {h':AH} (hi:fX P ⟨dst,.alloc t,ty,pos,aft,g⟩=some (.wr wr)) (hv:rD fr h wr=some (v,h')) (hr:HR P ρ h η) (hw:η.le w):LOK P ρ η ev w h ⟨dst,.alloc t,ty,pos,aft,g⟩ v h':=by
  simp only [fX,aQ] at hi
  obtain ⟨zs,hz,e⟩:=hi
  cases e
  obtain ⟨i,e1,rfl⟩:=nS (show aKy (aAz h t zs)=some (v,h') from hv)
  obtain ⟨rfl,e2⟩:=kN e1
  refine ⟨iY e2,fun hf=>?_⟩
  obtain ⟨z,z1,z2,z3⟩:=lV (ρ:=ρ) hz
  obtain ⟨k1,k2,k3⟩:=sG hr hw e2 z3 hf
  refine ⟨.pointer (some ⟨w.heap.size,0,none⟩),_,_,_,.inl ?_,by simp [rn,rnA,kI],k1,k2,k3⟩
  have hz2:zs.toArray=z.cells:=by rw [← z2]
  rw [hz2]
  simp [execOp,Instr.alloc,gI z1,newVar,newRow,newObj]
  rfl
theorem w_box {t:TypeId} {x:Operand} {wr:Wr} {v:Value} {h':AH} (hi:fX P ⟨dst,.box t x,ty,pos,aft,g⟩=some (.wr wr)) (hv:rD fr h wr=some (v,h')) (hr:HR P ρ h η) (hw:η.le w) (hf:FR ρ fr) (hk:EK ρ fr ev #[x]):LOK P ρ η ev w h ⟨dst,.box t x,ty,pos,aft,g⟩ v h':=by
  simp only [fX,aQ] at hi
  obtain ⟨d,hd,e⟩:=hi
  cases e
  have hv:aA0 h t (evO fr d)=some (v,h'):=hv
  unfold aA0 at hv
  split at hv
  · rename_i a ha
    obtain ⟨i,e1,rfl⟩:=nS hv
    obtain ⟨rfl,e2⟩:=kN e1
    obtain ⟨u,q1,q2⟩:=gH hf hk (by simp) hd ha
    refine ⟨iY e2,fun hf=>?_⟩
    obtain ⟨k1,k2,k3⟩:=sG hr hw e2 (aIk q1) hf
    refine ⟨.pointer (some ⟨w.heap.size,0,none⟩),_,_,_,.inl ?_,by simp [rn,rnA,kI],k1,k2,k3⟩
    simp [execOp,Instr.box,q2,newVar,newRow,newObj]
    rfl
  · cases hv
end
end
section
section
variable {P:Program} {ρ:Rn} {fr:Fr} {ev:Operand->Value} {w:World} {h:AH} {η:PH} {dst:Option Tmp} {ty:TypeId} {pos:String} {aft:Array Edge} {g:Option (Nat × Bool)}
theorem oT {b:Nat} {t:TypeId} {fz:Nat × Nat}:∀ (vs:List Value) (o:Nat) (w:World) (l:List Value),w.heap[b]?=some (.cells l.toArray t fz)->o+vs.length<=l.length->(w.setCells b o vs).heap[b]?=some (.cells (l.take o ++ vs ++ l.drop (o+vs.length)).toArray t fz)
  | [],o,w,l,h,_=>by simpa [World.setCells] using h
  | v::r,o,w,l,h,hl=>by
    simp only [aS] at hl
    have hs:(w.setCell ⟨b,o,none⟩ v).heap[b]?=some (.cells (l.set o v).toArray t fz):=by
      have hb:=(bP.1 h).1
      simp [World.setCell,dR,h]
    have:=oT r (o+1) _ (l.set o v) hs (by simp; omega)
    rw [World.setCells,this]
    congr 2
    apply Array.ext'
    simp only
    have h1:(l.set o v).take (o+1)=l.take o ++ [v]:=by
      rw [List.set_eq_take_append_cons_drop,if_pos (by omega)]
      rw [fH,List.take_take,Nat.min_eq_right (by omega)]
      simp [aL,dU (show o<=l.length by omega)]
    rw [h1,List.drop_set_of_lt (by omega)]
    simp [Nat.add_comm,Nat.add_left_comm]
theorem oU (b:Nat):∀ (vs:List Value) (o:Nat) (w:World),(w.setCells b o vs).heap.size=w.heap.size
  | [],_,_=>rfl
  | v::r,o,w=>by rw [World.setCells,oU b r]; simp [World.setCell]
theorem kV (b:Nat):∀ (vs:List Value) (o:Nat) (w:World),(w.setCells b o vs).tape=w.tape/\(w.setCells b o vs).drawn=w.drawn
  | [],_,_=>⟨rfl,rfl⟩
  | v::r,o,w=>by rw [World.setCells]; exact kV b r _ _
theorem aR1 {v u:Value} (e:rn ρ v=some u) (h:v.oneCell'=true):u.oneCell'=true:=by
  cases v with
  | agg c=>simp [Value.oneCell'] at h
  | tuple c=>simp [Value.oneCell'] at h
  | slice a n c =>
    rcases a with _|⟨i,o,_|s⟩
    · cases e; rfl
    · obtain ⟨_,_,_,rfl⟩:=mR (by rw [← nY]; exact e); rfl
    · simp [rn] at e
  | map r =>
    cases r with
    | none=>cases e; rfl
    | some i =>
      simp only [rn] at e
      split at e
      · cases e; rfl
      · cases e
  | pointer a =>
    simp only [rn] at e
    split at e
    · cases e; rfl
    · cases e
  | func f xs cs =>
    simp only [rn] at e
    split at e
    · cases e; rfl
    · cases e
  | float k b=>simp [rn] at e
  | complex k a b=>simp [rn] at e
  | chan r=>simp [rn] at e
  | iface t v=>simp [rn] at e
  | _=>cases e; rfl
theorem aFp:∀ {vs us:List Value},rnL ρ vs=some us->(∀ v∈vs,v.oneCell'=true)->∀ u∈us,u.oneCell'=true
  | [],us,e,_=>by cases e; simp
  | v::l,us,e,h=>by
    obtain ⟨u,us',h1,h2,rfl⟩:=rnL_cons.1 e
    intro x hx
    simp at hx
    rcases hx with rfl|hx
    · exact aR1 h1 (h v (by simp))
    · exact aFp h2 (fun y hy=>h y (by simp [hy])) x hx
theorem aFq {b o:Nat}:w.setCells b o []=w:=rfl
theorem nZ (hr:HR P ρ h η) (hw:η.le w) {i o:Nat} {vs us:List Value} {h':AH} (e:rC h i o vs=some h') {b s ex:Nat} (hρ:ρ i=some (b,s,ex)) (hv:rnL ρ vs=some us) :
    (storeCells ⟨b,s+o,none⟩ us).run P w=.ok () (w.setCells b (s+o) us)/\h'.next=h.next/\(∀ j,j<us.length->(w.cell? ⟨b,s+o+j,none⟩).isSome=true)/\(∀ j,j<us.length->w.frozen? ⟨b,s+o+j,none⟩=false)/\(∀ u∈us,u.oneCell'=true) /\
      ∃ η',HR P ρ h' η'/\Upd [η] [η'] w (w.setCells b (s+o) us):=by
  unfold rC at e
  split at e
  · rename_i c t hi
    split at e
    · rename_i c' hc
      obtain ⟨rfl,k1,k2⟩:=aFg _ _ _ _ hc
      obtain ⟨b',s',e',ob,h1,h2,h3⟩:=hr.val i _ hi
      rw [hρ] at h1; cases h1
      obtain ⟨pre,us0,post,fz,k,rfl,q1,rfl,q3,q4,q5⟩:=h3
      have hb:=hw b _ h2
      have hl0:=rnL_len q1
      have hl1:=rnL_len hv
      have hone:=aFp hv k2
      have hcell:∀ j,j<us.length->(w.cell? ⟨b,pre.length+o+j,none⟩).isSome=true:=fun j hj=>by
        have:pre.length+o+j<(pre ++ us0 ++ post).length:=by simp; omega
        simp [World.cell?,hb]
        simp at this; omega
      have hfz:∀ j,j<us.length->w.frozen? ⟨b,pre.length+o+j,none⟩=false:=fun j hj=>by
        have:=q5 (pre.length+o+j) (by simp; omega)
        simp only [World.frozen?,hb];simp only [Bool.and_eq_false_iff,decide_eq_false_iff_not]
        rcases dP (pre.length+o+j) fz.1 with h|h
        · left; simp; omega
        · right; simp only [dJ]; exact dJ.1 fun hh=>this ⟨h,hh⟩
      have hrun:=run_storeCells_cells (P:=P) b (pre.length+o) us 0 w (by simpa using hcell) (by simpa using hfz) hone
      simp only [eO] at hrun
      have hh:=oT (b:=b) (t:=t) (fz:=fz) us (pre.length+o) w _ hb (by simp; omega)
      have hrow:(pre ++ us0 ++ post).take (pre.length+o) ++ us ++ (pre ++ us0 ++ post).drop (pre.length+o+us.length)=pre ++ (us0.take o ++ us ++ us0.drop (o+us.length)) ++ post:=by
        have t1:(pre ++ us0 ++ post).take (pre.length+o)=pre ++ us0.take o:=by
          rw [aR,List.take_length_add_append,List.take_append_of_le_length (by omega)]
        have t2:(pre ++ us0 ++ post).drop (pre.length+o+us.length)=us0.drop (o+us.length) ++ post:=by
          rw [aR,dL,List.drop_length_add_append,List.drop_append_of_le_length (by omega)]
        rw [t1,t2]; simp
      rw [hrow] at hh
      have hmid:rnL ρ (c.take o ++ vs ++ c.drop (o+vs.length))=some (us0.take o ++ us ++ us0.drop (o+us.length)):=by
        have r1:=(iI o q1).1
        have r2:=(iI (o+vs.length) q1).2
        rw [← hl1] at r2
        rw [show o+vs.length=o+us.length by omega]
        exact iJ.2 ⟨_,_,iJ.2 ⟨_,_,r1,hv,rfl⟩,r2,rfl⟩
      refine ⟨hrun,iZ e,hcell,hfz,hone,_,hr.put hi e hρ (o:=.cells (pre ++ (us0.take o ++ us ++ us0.drop (o+us.length)) ++ post).toArray t fz) ⟨pre,_,post,fz,k,rfl,hmid,rfl,q3,q4,?_⟩,?_⟩
      · have:(pre ++ (us0.take o ++ us ++ us0.drop (o+us.length)) ++ post).length=(pre ++ us0 ++ post).length:=by simp; omega
        rw [this]; exact q5
      · have hlt:=hw.lt (b:=b) (by rw [h2]; simp)
        have hsz:=oU b us (pre.length+o) w
        refine Upd.one ⟨by rw [hsz]; exact aK _,World.os_setCells ..,World.output_setCells ..,?_,?_⟩ (fun b' hb' hn=>?_) (fun b' ob' hb'=>?_) (fun b' hb'=>?_)
        · exact (kV ..).1
        · exact fI (kV ..).2.symm
        · exact World.heap_setCells_other w b _ _ hb' (fun e=>by subst e; rw [h2] at hn; cases hn)
        · unfold iT at hb'
          split at hb'
          · rename_i e1; cases hb'; subst e1; exact hh
          · rename_i e1
            have l2:=hw.lt (b:=b') (by rw [hb']; simp)
            rw [World.heap_setCells_other w b _ _ l2 e1];exact hw b' ob' hb'
        · unfold iT at hb'
          split at hb'
          · rename_i e1; subst e1; left; rw [h2]; simp
          · exact .inl hb'
    · cases e
  · cases e
end
end
section
section
variable {P:Program} {ρ:Rn} {fr:Fr} {ev:Operand->Value} {w:World} {h:AH} {η:PH} {dst:Option Tmp} {ty:TypeId} {pos:String} {aft:Array Edge} {g:Option (Nat × Bool)}
theorem w_st {t:TypeId} {x y:Operand} {i:In} {v:Value} {h':AH} {a b:Od} {n:Nat} (hi:fX P ⟨dst,.store t x y,ty,pos,aft,g⟩=some i) (he:i=.st a b n) (hv:aRg h n (evO fr a) (evO fr b)=some (v,h')) (hr:HR P ρ h η) (hw:η.le w) (hf:FR ρ fr) (hk:EK ρ fr ev #[x,y]) :
    LOK P ρ η ev w h ⟨dst,.store t x y,ty,pos,aft,g⟩ v h':=by
  subst he;simp only [fX] at hi
  split at hi
  · rename_i x' y' n' h1 h2 hs
    cases hi
    unfold aRg at hv
    split at hv
    · rename_i r o u hx hy
      cases hb:Nat.beq (cl u).length n with
      | false=>rw [hb] at hv; cases hv
      | true =>
        rw [hb] at hv;simp only [cond_true] at hv
        split at hv
        · rename_i h2' hst
          cases hv
          obtain ⟨p,p1,p2⟩:=gH hf hk (by simp) h1 hx
          obtain ⟨q,q1,q2⟩:=gH hf hk (by simp) h2 hy
          obtain ⟨b,s,e,hρ,rfl⟩:=pU p1
          have k1:=aIk q1
          obtain ⟨r1,r2,_,_,_,η',r3,r4⟩:=nZ (P:=P) hr hw hst hρ k1
          have hl:=rnL_len k1
          have hn:=aO hb
          refine ⟨by omega,fun _=>⟨undef,ρ,η',_,.inr ⟨?_,rfl⟩,rfl,r3,r4,Ext.refl⟩⟩
          have hsz:q.cells.size=n:=by rw [← cI,hl,hn]
          simp [execOp,p2,q2,Instr.storeAt,Instr.sureAddr,storeVar,Eng.run_sizeOf hs,hsz,r1]
        · cases hv
    · cases hv
  · cases hi
theorem aMv {l:List Value}:∀ (n i:Nat),i<n*l.length->(rep l n)[i]?=l[i % l.length]?
  | 0,i,h=>by simp at h
  | n+1,i,h=>by
    rw [cZ] at h;unfold rep
    rcases dP i l.length with h1|h1
    · rw [cM h1,Nat.mod_eq_of_lt h1]
    · rw [bY h1,aMv n (i-l.length) (by omega)]
      rw [Nat.mod_eq_sub_mod h1]
theorem aFr {l:List Value}:∀ (n:Nat),(rep l n).length=n*l.length
  | 0=>by simp [rep]
  | n+1=>by rw [rep,aB,aFr n,cZ]; omega
theorem vD {z:Array Value} {n s:Nat} (hs:z.size=s):madeCells z (n*s)=(rep z.toList n).toArray:=by
  subst hs
  apply Array.ext'
  apply List.ext_getElem?
  intro i
  rcases dP i (n*z.size) with h1|h1
  · rw [show (rep z.toList n).toArray.toList=rep z.toList n from rfl,aMv n i (by simpa using h1)]
    have h0:0<z.size:=by
      rcases dC z.size with h0|h0
      · rw [h0] at h1; omega
      · exact h0
    have hm:i % z.size<z.size:=Nat.mod_lt _ h0
    simp [madeCells,h1,hm]
  · rw [eE (by simp [madeCells]; exact h1),eE (by simp [aFr]; exact h1)]
theorem vE {l us:List Value} (h:rnL ρ l=some us):∀ (n:Nat),rnL ρ (rep l n)=some (rep us n)
  | 0=>rfl
  | n+1=>iJ.2 ⟨_,_,h,vE h n,rfl⟩
theorem tH {z:Array Value} {n:Nat}:Builtin.zeroCells z n=(rep z.toList n).toArray:=vD (n:=n) (z:=z) rfl
theorem w_bsl {t:TypeId} {n0:Nat} {ps:Array (Nat × Operand)} {wr:Wr} {v:Value} {h':AH} (hi:fX P ⟨dst,.buildSlice t n0 ps,ty,pos,aft,g⟩=some (.wr wr)) (hv:rD fr h wr=some (v,h')) (hr:HR P ρ h η) (hw:η.le w) (hf:FR ρ fr) (hk:EK ρ fr ev (Op.buildSlice t n0 ps).operands) :
    LOK P ρ η ev w h ⟨dst,.buildSlice t n0 ps,ty,pos,aft,g⟩ v h':=by
  have hx:∀ x∈ps.toList.map (·.2),x∈(Op.buildSlice t n0 ps).operands:=fun x hx=>by simpa [Op.operands] using hx
  have hps:ps.map (fun (x:Nat × Operand)=>(x.1,ev x.2))=(ps.toList.map fun (x:Nat × Operand)=>(x.1,ev x.2)).toArray:=by
    rw [← dF]
  simp only [fX] at hi
  split at hi
  · rename_i e ht
    split at hi
    · rename_i s zs hs hz
      cases hb:zs.length.beq s with
      | false=>rw [hb] at hi; cases hi
      | true =>
        rw [hb] at hi;simp only [cond_true,aQ] at hi
        obtain ⟨qs,hq,e1⟩:=hi
        cases e1
        have hv:aA1 h e n0 s (aDy (rep zs n0) (aAw fr qs))=some (v,h'):=hv
        unfold aA1 at hv
        split at hv
        · rename_i cs hcs
          cases hle0:(Nat.ble (n0*s) 16777216 && Nat.blt n0 big) with
          | false=>rw [hle0] at hv; cases hv
          | true =>
            rw [hle0] at hv;simp only [cond_true] at hv
            obtain ⟨hle,hlt⟩:=eF.1 hle0
            obtain ⟨i,e1,rfl⟩:=mM hv
            obtain ⟨rfl,e2⟩:=kN e1
            unfold aDy at hcs
            split at hcs
            · rename_i l hl
              obtain ⟨z,z1,z2,z3⟩:=lV (ρ:=ρ) hz
              have hzl:=aO hb
              obtain ⟨r',f1,f2⟩:=vC hf hk (zS hq) hx hl hcs (vE z3 n0)
              refine ⟨iY e2,fun hfr=>?_⟩
              obtain ⟨k1,k2,k3⟩:=sG hr hw e2 f1 hfr
              have hbig:n0<big:=nI.1 hlt
              refine ⟨.slice (some ⟨w.heap.size,0,none⟩) n0 n0,_,_,_,.inl ?_,by rw [lU kI hbig],k1,k2,k3⟩
              have hzs:z.cells.size=s:=by rw [← cI,z2,hzl]
              have hmade:=vD (n:=n0) hzs
              rw [z2] at hmade;rw [← hmade] at f2
              by_cases h0:n0*s=0
              · have hz0:madeCells z.cells (n0*s) = #[]:=by rw [h0]; simp [madeCells]
                rw [hz0] at f2;simp only [execOp,Instr.buildSlice]
                have hz1:(Array.range 0:Array Nat) = #[]:=rfl
                simp [run_underlying ht,Eng.run_sizeOf hs,h0,newRow,hz1,f2]
              · simp only [execOp,Instr.buildSlice]
                simp only [madeCells] at f2
                simp [run_underlying ht,Eng.run_sizeOf hs,gI z1,h0,dJ.2 (aT hle),newRow,f2]
            · cases hcs
        · cases hv
    · cases hi
  · cases hi
theorem aD6 {x:Option Value} {n:Nat} (e:aH0 x=some n):x=some (.int .i64 (n:Int)):=by
  unfold aH0 at e
  split at e
  · cases e; rfl
  · cases e
theorem w_mks {t:TypeId} {x y:Operand} {wr:Wr} {v:Value} {h':AH} (hi:fX P ⟨dst,.makeSlice t x y,ty,pos,aft,g⟩=some (.wr wr)) (hv:rD fr h wr=some (v,h')) (hr:HR P ρ h η) (hw:η.le w) (hf:FR ρ fr) (hk:EK ρ fr ev #[x,y]) :
    LOK P ρ η ev w h ⟨dst,.makeSlice t x y,ty,pos,aft,g⟩ v h':=by
  simp only [fX] at hi
  split at hi
  · rename_i e lo co ht h1 h2
    split at hi
    · rename_i s by_ zs hs hby hz
      cases hb:zs.length.beq s with
      | false=>rw [hb] at hi; cases hi
      | true =>
        rw [hb] at hi
        cases hi
        have hv:aH6 h e by_ zs (aH0 (evO fr lo)) (aH0 (evO fr co))=some (v,h'):=hv
        unfold aH6 at hv
        split at hv
        · rename_i l c hl hc
          cases hle0:(Nat.ble l c && Nat.ble (by_*c) 281474976710656 && Nat.ble c 70368744177664) with
          | false=>rw [hle0] at hv; cases hv
          | true =>
            rw [hle0] at hv;simp only [cond_true] at hv
            obtain ⟨hle1,hc3⟩:=eF.1 hle0
            obtain ⟨hc1,hc2⟩:=eF.1 hle1
            have hc1:=aT hc1
            have hc2:=aT hc2
            have hc3:=aT hc3
            obtain ⟨i,e1,rfl⟩:=mM hv
            obtain ⟨rfl,e2⟩:=kN e1
            obtain ⟨z,z1,z2,z3⟩:=lV (ρ:=ρ) hz
            have hzl:=aO hb
            have hzs:z.cells.size=s:=by rw [← cI,z2,hzl]
            refine ⟨iY e2,fun hfr=>?_⟩
            obtain ⟨k1,k2,k3⟩:=sG hr hw e2 (vE z3 c) hfr
            have hbig:c<big:=by simp only [big]; omega
            refine ⟨.slice (some ⟨w.heap.size,0,none⟩) l c,_,_,_,.inl ?_,by rw [lU kI hbig],k1,k2,k3⟩
            obtain ⟨p,p1,p2⟩:=gH hf hk (x:=x) (by simp) h1 (aD6 hl)
            obtain ⟨q,q1,q2⟩:=gH hf hk (x:=y) (by simp) h2 (aD6 hc)
            cases p1; cases q1
            obtain ⟨inf,i1,rfl,i2,rfl⟩:=nK hs z1 hby
            have hrun:=run_make (P:=P) w t e inf z ht i1 i2 .i64 .i64 l c (by omega) (by omega) (by rw [← Int.natCast_mul]; omega) (by omega)
            simp only [cL] at hrun;rw [vD hzs,z2] at hrun
            simp [execOp,p2,q2,hrun]
        · cases hv
    · cases hi
  · cases hi
theorem w_mkm {t:TypeId} {wr:Wr} {v:Value} {h':AH} (hi:fX P ⟨dst,.makeMap t none,ty,pos,aft,g⟩=some (.wr wr)) (hv:rD fr h wr=some (v,h')) (hr:HR P ρ h η) (hw:η.le w):LOK P ρ η ev w h ⟨dst,.makeMap t none,ty,pos,aft,g⟩ v h':=by
  cases hi
  have hv:aH7 h (h.new (.map [] 0))=some (v,h'):=hv
  unfold aH7 at hv
  split at hv
  · rename_i h2 hn
    cases hv
    have hnx:=(AH.get_new hn).2
    refine ⟨iY hn,fun hfr=>?_⟩
    have hn0:ρ h.next=none:=hfr _ (aK _) (by omega)
    refine ⟨.map (some w.heap.size),_,_,_,.inl ?_,?_,hr.new hn hn0 (pX hw) (s:=0) (ex:=0) (o:=.map #[] 0) ⟨[],rfl,rfl⟩,xA hw _,kM hn0,fun i hi=>?_⟩
    · simp [execOp,Instr.makeMap,newObj]
      rfl
    · simp only [rn,kI]
    · unfold jL at hi
      split at hi
      · rename_i e; exact .inr ⟨by omega,by omega⟩
      · exact .inl hi
  · cases hv
end
end
section
section
variable {P:Program} {ρ:Rn} {fr:Fr} {ev:Operand->Value} {w:World} {h:AH} {η:PH} {dst:Option Tmp} {ty:TypeId} {pos:String} {aft:Array Edge} {g:Option (Nat × Bool)}
theorem ods1 {l:List Operand} {x:Od} (e:lI l=some [x]):∃ a,l=[a]/\gW a=some x:=by
  cases l with
  | nil=>cases e
  | cons a r =>
    simp only [lI] at e
    cases k1:gW a with
    | none=>simp [k1] at e
    | some d=>cases k2:lI r with
      | none=>simp [k1,k2] at e
      | some r' =>
        simp only [k1,k2,aD,dV] at e
        obtain ⟨rfl,rfl⟩:=e
        cases r with
        | nil=>exact ⟨a,rfl,k1⟩
        | cons b r =>
          simp only [lI] at k2
          split at k2 <;> cases k2
theorem ods2 {l:List Operand} {x y:Od} (e:lI l=some [x,y]):∃ a b,l=[a,b]/\gW a=some x/\gW b=some y:=by
  cases l with
  | nil=>cases e
  | cons a r =>
    simp only [lI] at e
    cases k1:gW a with
    | none=>simp [k1] at e
    | some d=>cases k2:lI r with
      | none=>simp [k1,k2] at e
      | some r' =>
        simp only [k1,k2,aD,dV] at e
        obtain ⟨rfl,rfl⟩:=e
        obtain ⟨b,rfl,k3⟩:=ods1 k2
        exact ⟨a,b,rfl,k1,k3⟩
theorem arr1 {α:Type} {xs:Array α} {a:α} (e:xs.toList=[a]):xs = #[a]:=by obtain ⟨l⟩:=xs; simp at e; subst e; rfl
theorem arr2 {α:Type} {xs:Array α} {a b:α} (e:xs.toList=[a,b]):xs = #[a,b]:=by obtain ⟨l⟩:=xs; simp at e; subst e; rfl
theorem zT (hw:η.le w) {b:Nat} {o0 o:Obj} (hb:η b=some o0):Upd [η] [iT η b (some o)] w { w with heap:=w.heap.setIfInBounds b o }:=by
  have h0:=hw b _ hb
  have hlt:=hw.lt (b:=b) (by rw [hb]; simp)
  refine Upd.one ⟨by simp,rfl,rfl,rfl,aK _⟩ (fun b' hb' hn=>?_) (fun b' ob' hb'=>?_) (fun b' hb'=>?_)
  · have:b≠b':=fun e=>by subst e; rw [hb] at hn; cases hn
    simp [cG,this]
  · unfold iT at hb'
    split at hb'
    · rename_i e1; cases hb'; subst e1; simp [cG,hlt]
    · rename_i e1
      have:=hw b' ob' hb'
      simp [cG,Ne.symm e1,this]
  · unfold iT at hb'
    split at hb'
    · rename_i e1; subst e1; left; rw [hb]; simp
    · exact .inl hb'
theorem aMw {v k:Value} {v' k':Value} (hv:rn ρ v=some v') (hk:rn ρ k=some k'):∀ {j:Nat} {es es' r:List MapEntry},rnE ρ es=some es'->aKx v k j es=some r->rnE ρ r=some (es'.modify j fun e=>{ e with key:=k',val:=v' })
  | _,[],es',r,_,e=>by simp [aKx] at e
  | 0,m::l,es',r,h,e=>by
    simp only [aKx,aD] at e;subst e;simp only [rnE] at h ⊢
    cases h1:rn ρ m.key with
    | none=>simp [h1] at h
    | some k2=>cases h2:rn ρ m.val with
      | none=>simp [h1,h2] at h
      | some v2=>cases h3:rnE ρ l with
        | none=>simp [h1,h2,h3] at h
        | some l' =>
          simp only [h1,h2,h3,aD] at h;subst h;simp only [hv,hk]
          rfl
  | n+1,m::l,es',r,h,e=>by
    simp only [aKx] at e
    cases h0:aKx v k n l with
    | none=>simp [h0] at e
    | some r' =>
      simp only [h0,aD] at e;subst e;simp only [rnE] at h ⊢
      cases h1:rn ρ m.key with
      | none=>simp [h1] at h
      | some k2=>cases h2:rn ρ m.val with
        | none=>simp [h1,h2] at h
        | some v2=>cases h3:rnE ρ l with
          | none=>simp [h1,h2,h3] at h
          | some l' =>
            simp only [h1,h2,h3,aD] at h;subst h;simp only [aMw hv hk h3 h0]
            rfl
theorem aIo {m:MapEntry} {k' v':Value} (hk:rn ρ m.key=some k') (hv:rn ρ m.val=some v'):∀ {es es':List MapEntry},rnE ρ es=some es'->rnE ρ (es ++ [m])=some (es' ++ [⟨k',v',m.born⟩])
  | [],es',h=>by cases h; simp [rnE,hk,hv]
  | x::l,es',h=>by
    simp only [rnE,aG] at h ⊢
    cases h1:rn ρ x.key with
    | none=>simp [h1] at h
    | some k2=>cases h2:rn ρ x.val with
      | none=>simp [h1,h2] at h
      | some v2=>cases h3:rnE ρ l with
        | none=>simp [h1,h2,h3] at h
        | some l' =>
          simp only [h1,h2,h3,aD] at h;subst h;simp only [aIo hk hv h3]
          rfl
theorem aWp {mt kt et:TypeId} {n:Nat} {m v:Value} {r:Nat} {k k' av v':Value} {h':AH} (hr:HR P ρ h η) (hw:η.le w) (ht:P.underlying mt=some (.map kt et)) (hkt:aFc P kt=some n)
    (e:yP h n (some (.map (some r))) (some k) (some av)=some (v,h')) (hm:rn ρ (.map (some r))=some m) (hkk:rn ρ k=some k') (hv:rn ρ av=some v') :
    v=undef/\h'.next=h.next/\∃ η' w',(Instr.mapUpdate mt m k' v').run P w=.ok () w'/\HR P ρ h' η'/\Upd [η] [η'] w w':=by
  simp only [yP] at e
  split at e
  · rename_i es cl hg
    obtain ⟨b,s,ex,es',h1,h2,h3,h4⟩:=aRx hr hw hg
    simp only [rn,h1,aD] at hm;subst hm
    have hgo:(getObj b).run P w=.ok (.map es'.toArray cl) w:=by simp [getObj,Sem.run,h3]
    have hso:∀ o,(setObj b o).run P w=.ok () { w with heap:=w.heap.setIfInBounds b o }:=fun o=>by simp [setObj,Sem.run,h3]
    unfold mupO at e
    split at e
    · rename_i es2 cl2 hms
      split at e
      · rename_i hp hput
        cases e
        unfold aRd at hms
        split at hms
        · rename_i j v0 hfk
          split at hms
          · rename_i r' hset
            cases hms
            obtain ⟨rfl,hc,hsb,v2,q1,hfk2,_,q6⟩:=sF (w:=w) hkt hfk h2 hkk
            have hst:(Instr.keyThatStays k' k').run P w=.ok k' w:=by
              unfold Instr.keyThatStays;rw [if_pos hsb]; rfl
            have hor:OR P ρ s ex (.map es2 cl) (.map (es'.modify j fun e=>{ e with key:=k',val:=v' }).toArray cl):=⟨_,rfl,aMw hv hkk h2 hset⟩
            refine ⟨rfl,iZ hput,_,_,?_,hr.put hg hput h1 hor,zT hw h4⟩
            have hs:(((es'.toArray[j]?).map (·.key)).getD k')=k':=by
              have:es'.toArray[j]?=es'[j]?:=by simp
              rw [this,q6]; rfl
            have hmod:es'.toArray.modify j (fun e=>{ e with key:=k',val:=v' })=(es'.modify j fun e=>{ e with key:=k',val:=v' }).toArray:=by simp
            rw [← hmod];simp only [Instr.mapUpdate]
            simp [run_underlying ht,hgo,hc,hfk2]
            simp only [dQ] at hs;rw [hs]
            simp [hst,hso]
          · cases hms
        · rename_i hfk
          cases hms
          obtain ⟨rfl,hc,_,hfk2⟩:=sF (w:=w) hkt hfk h2 hkk
          have hor:OR P ρ s ex (.map (es ++ [(⟨k',av,cl⟩:MapEntry)]) (cl+1)) (.map (es' ++ [(⟨k',v',cl⟩:MapEntry)]).toArray (cl+1)):=⟨es' ++ [(⟨k',v',cl⟩:MapEntry)],rfl,aIo (m:=⟨k',av,cl⟩) hkk hv h2⟩
          refine ⟨rfl,iZ hput,_,_,?_,hr.put hg hput h1 hor,zT hw h4⟩
          simp [Instr.mapUpdate,run_underlying ht,hgo,hc,hfk2,hso]
        · cases hms
      · cases e
    · cases e
  · cases e
end
end
section
variable {P:Program} {ρ:Rn} {fr:Fr} {ev:Operand->Value} {w:World} {h:AH} {η:PH} {dst:Option Tmp} {ty:TypeId} {pos:String} {aft:Array Edge} {g:Option (Nat × Bool)}
theorem aWq {n:Nat} {x y z:Option Value} {v:Value} {h':AH} (e:yP h n x y z=some (v,h')):∃ r k u,x=some (.map (some r))/\y=some k/\z=some u:=by
  unfold yP at e
  split at e
  · exact ⟨_,_,_,rfl,rfl,rfl⟩
  · cases e
theorem aV0 {t:TypeId} {m k y:Operand} {o:Op} (ho:o=.mapUpdate t m k y\/o=.insert t m k y) {wr:Wr} {v:Value} {h':AH} (hi:fX P ⟨dst,o,ty,pos,aft,g⟩=some (.wr wr)) (hv:rD fr h wr=some (v,h')) (hr:HR P ρ h η) (hw:η.le w) (hf:FR ρ fr) (hk:EK ρ fr ev #[m,k,y]) :
    LOK P ρ η ev w h ⟨dst,o,ty,pos,aft,g⟩ v h':=by
  have hi:(match P.underlying t,gW m,gW k,gW y with
    | some (.map kt _),some m,some k,some v=>match aFc P kt with
      | some n=>some (In.wr (.mup m k v n))
      | none=>none
    | _,_,_,_=>none)=some (.wr wr):=by rcases ho with rfl|rfl <;> exact hi
  split at hi
  · rename_i kt et dm dk dy ht h1 h2 h3
    split at hi
    · rename_i n hkt
      cases hi
      have hv:yP h n (evO fr dm) (evO fr dk) (evO fr dy)=some (v,h'):=hv
      obtain ⟨r,kv,u,e1,e2,e3⟩:=aWq hv
      rw [e1,e2,e3] at hv
      obtain ⟨p,p1,p2⟩:=gH hf hk (x:=m) (by simp) h1 e1
      obtain ⟨q,q1,q2⟩:=gH hf hk (x:=k) (by simp) h2 e2
      obtain ⟨s,s1,s2⟩:=gH hf hk (x:=y) (by simp) h3 e3
      obtain ⟨rfl,k1,η',w',k2,k3,k4⟩:=aWp (mt:=t) hr hw ht hkt hv p1 q1 s1
      refine ⟨by omega,fun _=>⟨undef,ρ,η',w',.inr ⟨?_,rfl⟩,rfl,k3,k4,Ext.refl⟩⟩
      rcases ho with rfl|rfl <;> simp [execOp,p2,q2,s2,k2]
    · cases hi
  · cases hi
theorem oA:∀ (l:List UInt8),nE l=l.map fun b=>.int .u8 (b.toNat:Int)
  | []=>rfl
  | b::l=>by rw [nE,oA l]; rfl
theorem xB:∀ (l:List UInt8),rnL ρ (nE l)=some (nE l)
  | []=>rfl
  | b::l=>rnL_cons.2 ⟨_,_,rfl,xB l,rfl⟩
theorem xC (hr:HR P ρ h η) {s m:Nat} {y y':Value} {news:List Value} (e:wU h s y=some (m,news)) (hy:rn ρ y=some y') :
    ∃ us,rnL ρ news=some us/\us.length=m*s/\(∀ w,(Builtin.lenOf y').run P w=.ok m w)/\∀ n w,n<=m->η.le w->(Builtin.firstCells s n y').run P w=.ok (us.take (n*s)).toArray w:=by
  unfold wU at e
  split at e
  · rename_i i o n c
    split at e
    · rename_i l hl
      simp only [aD,Prod.mk.injEq] at e
      obtain ⟨rfl,rfl⟩:=e
      have hll:l.length=n*s/\∃ cs t,h.get i=some (.cells cs t)/\l=(cs.drop o).take (n*s):=by
        unfold aAv at hl
        split at hl
        · rename_i cs t hi
          obtain ⟨l0,e2,e3⟩:=tU hl
          obtain ⟨rfl,k1⟩:=pE _ _ _ e2
          obtain ⟨rfl,k2⟩:=pD _ _ _ e3
          exact ⟨by rw [aL]; omega,cs,t,hi,rfl⟩
        · cases hl
      rcases dC n with rfl|hn
      · obtain ⟨b,o',c',rfl⟩:=mR (by rw [← nY]; exact hy)
        have h0:l=[]:=bW.1 (by rw [hll.1]; omega)
        subst h0
        refine ⟨[],rfl,by simp,fun _=>rfl,fun n w hn _=>?_⟩
        have:=iN (P:=P) (w:=w) (b:=b) (o:=o') (us:=[]) (fun _ _ h=>by cases h)
        have hn0:n=0:=by omega
        subst hn0
        simpa [Builtin.firstCells] using this
      · obtain ⟨b,s0,ex,c',hρ,rfl⟩:=sD (by rw [← nY]; exact hy) hn
        obtain ⟨cs,t,hi,hl2⟩:=hll.2
        obtain ⟨b2,s2,e2,ob,k1,k2,k3⟩:=hr.val i _ hi
        rw [hρ] at k1; cases k1
        obtain ⟨pre,us,post,fz,k,_,q1,_⟩:=id k3
        have q2:=(iI (n*s) (iI o q1).2).1
        rw [← hl2] at q2
        have hlen:=rnL_len q2
        refine ⟨_,q2,by rw [hlen,hll.1],fun _=>rfl,fun m w hm hw=>?_⟩
        have hms:m*s<=n*s:=dG s hm
        have:=iN (P:=P) (w:=w) (b:=b) (o:=s0+o) (us:=((us.drop o).take (n*s)).take (m*s)) (fun j u hu=>by
          rw [List.take_take,dU hms] at hu
          have hj:j<m*s:=by
            have:=(aC.1 hu).1
            simp at this; omega
          rw [cJ hj,dX] at hu
          have:=hr.cell hw hi hρ q1 hu
          rw [dL]; exact this)
        have hl3:(((us.drop o).take (n*s)).take (m*s)).length=m*s:=by
          rw [aL,hlen,hll.1]; omega
        rw [hl3] at this
        simpa [Builtin.firstCells] using this
    · cases e
  · rename_i n c
    cases hn:n.beq 0 with
    | false=>rw [hn] at e; cases e
    | true =>
      rw [hn] at e
      cases e
      have:=aO hn
      subst this
      cases hy
      exact ⟨[],rfl,by simp,fun _=>rfl,fun n w _ _=>by simp [Builtin.firstCells]⟩
  · rename_i b
    cases hs:s.beq 1 with
    | false=>rw [hs] at e; cases e
    | true =>
      rw [hs,aAs] at e;simp only [cond_true,aD,Prod.mk.injEq] at e
      obtain ⟨rfl,rfl⟩:=e
      have:=aO hs
      subst this
      cases hy
      refine ⟨_,xB _,by simp [oA],fun _=>?_,fun n w hn _=>?_⟩
      · simp [Builtin.lenOf]
      · simp only [Builtin.firstCells,Sem.run_pure]
        congr 1
        apply Array.ext'
        simp [oA]
  · cases e
theorem aK4 {o:Oper} {xs:Option (List Od)} {ts:List TypeId} {i:In} (e:lC P o .copy xs ts=some i):∃ x y t u el s,xs=some [x,y]/\ts=[t,u]/\P.underlying t=some (.slice el)/\szP P el=some s/\i=.wr (.cpy s x y):=by
  unfold lC at e
  split at e
  case _ h=>cases h
  case _ h=>cases h
  case _ h=>cases h
  case _ h=>cases h
  case _ x y t u _ =>
    split at e
    · rename_i el ht
      split at e
      · rename_i s hs
        cases e
        exact ⟨_,_,_,_,_,_,rfl,rfl,ht,hs,rfl⟩
      · cases e
    · cases e
  all_goals first|(rename_i h; cases h; done)|(cases e; done)
theorem aK5 {o:Oper} {xs:Option (List Od)} {ts:List TypeId} {i:In} (e:lC P o .clear xs ts=some i):∃ x t el s zs,xs=some [x]/\ts=[t]/\P.underlying t=some (.slice el)/\szP P el=some s/\zsP P el=some zs/\zs.length=s/\i=.wr (.clr s zs x):=by
  unfold lC at e
  split at e
  case _ h=>cases h
  case _ h=>cases h
  case _ h=>cases h
  case _ h=>cases h
  case _ h=>cases h
  case _ x t _ =>
    split at e
    · rename_i el ht
      split at e
      · rename_i s zs hs hz
        cases hb:zs.length.beq s with
        | false=>rw [hb] at e; cases e
        | true =>
          rw [hb] at e
          cases e
          exact ⟨_,_,_,_,_,rfl,rfl,ht,hs,hz,aO hb,rfl⟩
      · cases e
    · cases e
  all_goals first|(rename_i h; cases h; done)|(cases e; done)
theorem aK6 {o:Oper} {xs:Option (List Od)} {ts:List TypeId} {i:In} (e:lC P o .append xs ts=some i):∃ x y t u el s b zs,xs=some [x,y]/\ts=[t,u]/\P.underlying t=some (.slice el)/\((∃ e',P.underlying u=some (.slice e'))\/P.underlying u=some .string)/\szP P el=some s/\nC P el=some b/\zsP P el=some zs/\zs.length=s/\i=.wr (.app el s b x y):=by
  unfold lC at e
  split at e
  case _ h=>cases h
  case _ h=>cases h
  case _ h=>cases h
  case _ x y t u _ =>
    split at e
    · rename_i el e' ht hu
      split at e
      · rename_i s b zs hs hb hz
        cases hl:zs.length.beq s with
        | false=>rw [hl] at e; cases e
        | true =>
          rw [hl] at e
          cases e
          exact ⟨_,_,_,_,_,_,_,_,rfl,rfl,ht,.inl ⟨_,hu⟩,hs,hb,hz,aO hl,rfl⟩
      · cases e
    · rename_i el ht hu
      split at e
      · rename_i s b zs hs hb hz
        cases hl:zs.length.beq s with
        | false=>rw [hl] at e; cases e
        | true =>
          rw [hl] at e
          cases e
          exact ⟨_,_,_,_,_,_,_,_,rfl,rfl,ht,.inr hu,hs,hb,hz,aO hl,rfl⟩
      · cases e
    · cases e
  all_goals first|(rename_i h; cases h; done)|(cases e; done)
theorem aBa {n:Nat}:rn ρ (.int .i64 (.ofNat n))=some (goInt n):=rfl
theorem w_cpy {c:Call} (hc:c.callee=.builtin .copy) {wr:Wr} {v:Value} {h':AH} (hi:fX P ⟨dst,.call c,ty,pos,aft,g⟩=some (.wr wr)) (hv:rD fr h wr=some (v,h')) (hr:HR P ρ h η) (hw:η.le w) (hf:FR ρ fr) (hk:EK ρ fr ev (Op.call c).operands) :
    LOK P ρ η ev w h ⟨dst,.call c,ty,pos,aft,g⟩ v h':=by
  obtain ⟨cal,args,ts⟩:=c
  simp only at hc;subst hc;simp only [fX,mJ] at hi
  obtain ⟨x,y,t,u,el,s,e1,e2,ht,hs,e3⟩:=aK4 hi
  cases e3
  obtain ⟨xa,ya,e4,hx,hy⟩:=ods2 e1
  have e4:=arr2 e4
  have e2:=arr2 e2
  subst e4 e2
  have hv:aH9 h s (evO fr x) (evO fr y)=some (v,h'):=hv
  unfold aH9 at hv
  split at hv
  · rename_i a n cp yv hxa hyv
    obtain ⟨p,p1,p2⟩:=gH hf hk (x:=xa) (by simp [Op.operands,Call.operands]) hx hxa
    obtain ⟨q,q1,q2⟩:=gH hf hk (x:=ya) (by simp [Op.operands,Call.operands]) hy hyv
    unfold cpyO at hv
    split at hv
    · rename_i m news hb
      obtain ⟨us,b1,b2,b3,b4⟩:=xC (P:=P) hr hb q1
      split at hv
      · rename_i i o
        unfold stO at hv
        split at hv
        · rename_i l hl
          split at hv
          · rename_i h2 hst
            cases hv
            obtain ⟨rfl,hle⟩:=pD _ _ _ hl
            have hmn:Nat.min m n<=m:=Nat.min_le_left m n
            have hfc:=b4 (Nat.min m n) w hmn hw
            have k1:=(iI (Nat.min m n*s) b1).1
            rcases dC n with rfl|hn
            · obtain ⟨b,o',c',rfl⟩:=mR (by rw [← nY]; exact p1)
              obtain ⟨b0,s0,e0,hρ⟩:∃ b s e,ρ i=some (b,s,e):=by
                unfold rC at hst
                split at hst
                · rename_i c t hi
                  obtain ⟨b,s,e,ob,h1,_⟩:=hr.val i _ hi
                  exact ⟨_,_,_,h1⟩
                · cases hst
              obtain ⟨r1,r2,_,_,_,η',r3,r4⟩:=nZ (P:=P) hr hw hst hρ k1
              have hz:Nat.min m 0=0:=Nat.min_eq_right (cA m)
              rw [hz] at hfc r4;simp only [Nat.zero_mul,List.take_zero,aFq] at hfc r4
              refine ⟨by omega,fun _=>⟨_,ρ,η',_,.inl ?_,aBa,r3,r4,Ext.refl⟩⟩
              rw [hz]
              simp [execOp,resolve,p2,q2,invoke,builtin,Builtin.copy_,run_underlying ht,b3,Eng.run_sizeOf hs,hz,hfc,storeCells]
            · obtain ⟨b,s0,ex,c',hρ,rfl⟩:=sD (by rw [← nY]; exact p1) hn
              obtain ⟨r1,r2,_,_,_,η',r3,r4⟩:=nZ (P:=P) hr hw hst hρ k1
              refine ⟨by omega,fun _=>⟨_,ρ,η',_,.inl ?_,aBa,r3,r4,Ext.refl⟩⟩
              simp [execOp,resolve,p2,q2,invoke,builtin,Builtin.copy_,run_underlying ht,b3,Eng.run_sizeOf hs,hfc,r1]
          · cases hv
        · cases hv
      · cases hv
        cases p1
        have hfc:=b4 (Nat.min m n) w (Nat.min_le_left m n) hw
        refine ⟨aK _,fun _=>⟨_,ρ,η,w,.inl ?_,aBa,hr,?_,Ext.refl⟩⟩
        · simp [execOp,resolve,p2,q2,invoke,builtin,Builtin.copy_,run_underlying ht,b3,Eng.run_sizeOf hs,hfc]
        · exact Upd.one ⟨aK _,rfl,rfl,rfl,aK _⟩ (fun _ _ _=>rfl) hw (fun _ h=>.inl h)
      · cases hv
    · cases hv
  · cases hv
theorem w_clr {c:Call} (hc:c.callee=.builtin .clear) {wr:Wr} {v:Value} {h':AH} (hi:fX P ⟨dst,.call c,ty,pos,aft,g⟩=some (.wr wr)) (hv:rD fr h wr=some (v,h')) (hr:HR P ρ h η) (hw:η.le w) (hf:FR ρ fr) (hk:EK ρ fr ev (Op.call c).operands) :
    LOK P ρ η ev w h ⟨dst,.call c,ty,pos,aft,g⟩ v h':=by
  obtain ⟨cal,args,ts⟩:=c
  simp only at hc;subst hc;simp only [fX,mJ] at hi
  obtain ⟨x,t,el,s,zs,e1,e2,ht,hs,hz,hzl,e3⟩:=aK5 hi
  cases e3
  obtain ⟨xa,e4,hx⟩:=ods1 e1
  have e4:=arr1 e4
  have e2:=arr1 e2
  subst e4 e2
  have hv:aIa h zs (evO fr x)=some (v,h'):=hv
  unfold aIa at hv
  split at hv
  · rename_i a n cp hxa
    obtain ⟨p,p1,p2⟩:=gH hf hk (x:=xa) (by simp [Op.operands,Call.operands]) hx hxa
    cases hn:n.beq 0 with
    | true =>
      rw [hn] at hv
      have:=aO hn
      subst this
      cases hv
      have hp:∃ a c,p=.slice a 0 c:=by
        rcases a with _|⟨i,o,_|sp⟩
        · cases p1; exact ⟨_,_,rfl⟩
        · obtain ⟨_,_,_,rfl⟩:=mR (by rw [← nY]; exact p1); exact ⟨_,_,rfl⟩
        · simp [rn] at p1
      obtain ⟨a',c',rfl⟩:=hp
      refine ⟨aK _,fun _=>⟨.tuple #[],ρ,η,w,.inl ?_,rfl,hr,?_,Ext.refl⟩⟩
      · cases a' <;> simp [execOp,resolve,p2,invoke,builtin,Builtin.clear_,run_underlying ht]
      · exact Upd.one ⟨aK _,rfl,rfl,rfl,aK _⟩ (fun _ _ _=>rfl) hw (fun _ h=>.inl h)
    | false =>
      rw [hn] at hv;simp only [cond_false] at hv
      have hn:0<n:=by
        rcases dC n with h0|h0
        · subst h0; cases hn
        · exact h0
      split at hv
      · rename_i i o
        unfold stO at hv
        split at hv
        · rename_i l hl
          cases hl
          split at hv
          · rename_i h2 hst
            cases hv
            obtain ⟨z,z1,z2,z3⟩:=lV (ρ:=ρ) hz
            have k1:=vE z3 n
            obtain ⟨b,s0,ex,c',hρ,rfl⟩:=sD (by rw [← nY]; exact p1) hn
            obtain ⟨r1,r2,_,_,_,η',r3,r4⟩:=nZ (P:=P) hr hw hst hρ k1
            refine ⟨by omega,fun _=>⟨.tuple #[],ρ,η',_,.inl ?_,rfl,r3,r4,Ext.refl⟩⟩
            have hzr:=tH (z:=z.cells) (n:=n)
            rw [z2] at hzr
            obtain ⟨n1,rfl⟩:∃ n1,n=n1+1:=⟨n-1,by omega⟩
            simp [execOp,resolve,p2,invoke,builtin,Builtin.clear_,run_underlying ht,gI z1,hzr,r1]
          · cases hv
        · cases hv
      · cases hv
  · cases hv
end
end Go.Ev
