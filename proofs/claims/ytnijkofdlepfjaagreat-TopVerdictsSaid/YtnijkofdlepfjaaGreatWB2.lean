/- Texts of this proof, one after the other; no conditions. -/
import Derived.Test.YtnijkofdlepfjaaGreatWA
import Derived.Laws.StructEq
import Derived.ProofKit
import Derived.Deep.Slices
import Derived.Lib.SmallJoins
import Derived.Test.YtnijkofdlepfjaaGreatWB1
set_option linter.all false
namespace Go.Eng
section
variable {C:Cx} {D:List Deferred} {R H:List PH} {L:Env} {K:List It}
def oH (a:Option Addr) (c i s:Nat):Option Addr:=if c=i then a else a.map (·.add (i*s))
section
variable {dst:Option Tmp} {ty:TypeId} {pos:String} {aft:Array Edge} {g:Option (Nat × Bool)}
variable {t e:TypeId} {x y z:Operand} {a:Option Addr} {n c s:Nat} {k k2:IntKind} {i j:Nat}
theorem FB (h:fM L x=some (.slice a n c)) (hy:fM L y=some (.int k (i:Int))) (ht:mT C.P t=some e) (hs:szP C.P e=some s) (h1:i<=c) :
    fO C R H L ⟨dst,.slice t x none (some y) none,ty,pos,aft,g⟩ (.slice (oH a c 0 s) i c):=
  ⟨by intro c; simp,fun ac w hx _=>by
    have e1:=hx x (by simp [Op.operands]) _ h
    have e2:=hx y (by simp [Op.operands]) _ hy
    simp [execOp,e1,e2,Instr.sliceAt,run_underlying (jU ht),Instr.slice,Instr.sliceBounds,Instr.sliceBound,asIntOf,run_sizeOf hs,h1,oH]⟩
theorem FC (h:fM L x=some (.slice a n c)) (hy:fM L y=some (.int k (i:Int))) (ht:mT C.P t=some e) (hs:szP C.P e=some s) (h1:i<=n) :
    fO C R H L ⟨dst,.slice t x (some y) none none,ty,pos,aft,g⟩ (.slice (oH a c i s) (n-i) (c-i)):=
  ⟨by intro c; simp,fun ac w hx _=>by
    have e1:=hx x (by simp [Op.operands]) _ h
    have e2:=hx y (by simp [Op.operands]) _ hy
    simp [execOp,e1,e2,Instr.sliceAt,run_underlying (jU ht),Instr.slice,Instr.sliceBounds,Instr.sliceBound,asIntOf,run_sizeOf hs,h1,oH]⟩
end
theorem GZ {dst:Option Tmp} {ty:TypeId} {pos:String} {aft:Array Edge} {g:Option (Nat × Bool)} {s d:TypeId} {x:Operand} {k':IntKind} {n:Int} (h:fM L x=some (.int k' n)) (hs:(C.P.underlying s).isSome=true) (hd:aAi C.P d=some .i64) (hr:aEx n) :
    fO C R H L ⟨dst,.convert s d x,ty,pos,aft,g⟩ (.int .i64 n):=FU h hs hd (pL hr)
def aSj (v:Value):Prop:=∃ p n c,v=.slice p n c/\n<=c
theorem aSj.le {p:Option Addr} {n c:Nat} (h:aSj (.slice p n c)):n<=c:=by
  obtain ⟨p',n',c',e,h⟩:=h
  simp only [aN] at e
  obtain ⟨_,rfl,rfl⟩:=e
  exact h
theorem aBi (b o m:Nat):(⟨b,o,none⟩:Addr).add m=⟨b,o+m,none⟩:=Addr.add_lit ..
theorem aIz {α:Type} {enc:α->List Value} {s:Nat} (he:∀ x,(enc x).length=s):∀ (l:List α) (i:Nat),i<=l.length->(l.drop i).flatMap enc=(l.flatMap enc).drop (i*s)
  | l,0,_=>by simp
  | [],i+1,h=>by simp at h
  | x::l,i+1,h=>by
    rw [List.drop_succ_cons,aIz he l i (by simpa using h),cU,List.drop_append,cE (l:=enc x) (by rw [he,cZ]; omega),he]
    congr 1
    rw [cZ]; omega
theorem sI {α:Type} {enc:α->List Value} {s:Nat} (he:∀ x,(enc x).length=s):∀ (l:List α) (i:Nat),(l.take i).flatMap enc=(l.flatMap enc).take (i*s)
  | l,0=>by simp
  | [],i+1=>by simp
  | x::l,i+1=>by
    rw [List.take_succ_cons,cU,sI he l i,cU,fH,bV (l:=enc x) (by rw [he,cZ]; omega),he]
    congr 2
    rw [cZ]; omega
theorem aM7 {α:Type} {enc:α->List Value} {s:Nat} (he:∀ x,(enc x).length=s) {ρ:PH} {a:Option Addr} {n c:Nat} {l:List α} (h:SlE enc s ρ (.slice a n c) l) (hc:l.length<=c) {i j:Nat} (h1:i<=j) (h2:j<=l.length):SlE enc s ρ (.slice (oH a c i s) (j-i) (c-i)) ((l.drop i).take (j-i)):=by
  have hlen:((l.drop i).take (j-i)).length=j-i:=by simp; omega
  refine ⟨by rw [kT he],?_⟩
  by_cases h0:j-i=0
  · left
    exact ⟨by rw [hlen]; exact h0,_,_,by rw [h0]⟩
  · right
    obtain ⟨_,⟨h3,_⟩|⟨b,o,c',e,hr⟩⟩:=h
    · omega
    · simp only [aN] at e
      obtain ⟨rfl,rfl,rfl⟩:=e
      refine ⟨b,o+i*s,c-i,?_,fun k u hu=>?_⟩
      · rw [hlen]
        unfold oH
        rw [if_neg (by omega)]
        simp [aBi]
      · rw [sI he,aIz he l i (by omega)] at hu
        have hk:k<(j-i)*s:=by
          have:=(aC.1 hu).1
          simp at this; omega
        rw [cJ hk,dX] at hu
        have:=hr _ u hu
        rwa [← dL] at this
theorem aW0 {α:Type} {enc:α->List Value} {s:Nat} (he:∀ x,(enc x).length=s) {ρ:PH} {a:Option Addr} {n c:Nat} {l:List α} (h:SlE enc s ρ (.slice a n c) l) (hc:l.length<=c) {j:Nat} (h2:j<=l.length):SlE enc s ρ (.slice (oH a c 0 s) j c) (l.take j):=by
  have:=aM7 he h hc (cA j) h2
  simpa using this
theorem aSk {α:Type} {enc:α->List Value} {s:Nat} (he:∀ x,(enc x).length=s) {ρ:PH} {a:Option Addr} {n c:Nat} {l:List α} (h:SlE enc s ρ (.slice a n c) l) (hc:l.length<=c) {i:Nat} (h2:i<=l.length) (hn:n=l.length):SlE enc s ρ (.slice (oH a c i s) (n-i) (c-i)) (l.drop i):=by
  subst hn
  have:=aM7 he h hc h2 (aK _)
  rwa [bV (by simp)] at this
end
section
variable {C:Cx} {D:List Deferred} {R H:List PH} {L:Env} {K:List It}
variable {dst:Option Tmp} {ty:TypeId} {pos:String} {aft:Array Edge} {g:Option (Nat × Bool)}
theorem q_cap {x:Operand} {t e:TypeId} {a:Option Addr} {n c:Nat} (h:fM L x=some (.slice a n c)) (ht:mT C.P t=some e) :
    fO C R H L ⟨dst,.call ⟨.builtin .cap,#[x],#[t]⟩,ty,pos,aft,g⟩ (.int .i64 (c:Int)):=
  ⟨by intro c; simp,fun ac w hx _=>by
    have e1:=hx x (by simp [Op.operands,Call.operands]) _ h
    simp [execOp,resolve,e1,invoke,builtin,Builtin.cap_,run_underlying (jU ht),goInt]⟩
theorem aOr {P:Program} {t:TypeId} (h:aAi P t=some .i64):P.underlying t=some (.int .i64):=aG7 h
theorem xH {P:Program} (w:World) (t tx ty e:TypeId) (i:TypeInfo) (z:Value) (ht:P.underlying t=some (.slice e)) (hx:P.underlying tx=some (.int .i64)) (hi:P.info? e=some i) (hz:i.zero=some z) (n:Nat) (h0:0<n) (hs:0<i.size)
    (h63:(n:Int)<=9223372036854775807) (h48:n*i.bytes<=281474976710656) :
    (Builtin.append_ #[t,tx] ty #[.slice none 0 0,.int .i64 (n:Int)]).run P w =
      .ok (.slice (some ⟨w.heap.size,0,none⟩) n (grownCap w n 0 e)) (w.drew.alloc (.cells (Builtin.zeroCells z.cells n ++ Builtin.zeroCells z.cells (grownCap w n 0 e-n)) e)):=by
  have hn:¬ (n=0):=by omega
  have hwr:IntKind.i64.wrap (n:Int)=(n:Int):=pL ⟨by omega,by omega⟩
  have hng:¬ ((n:Int)<0):=by omega
  have h63':¬ (9223372036854775807<(n:Int)):=by omega
  have h48':¬ (281474976710656<Builtin.nextslicecap n 0*i.bytes):=by rw [nextslicecap_zero h0]; omega
  have h48'':¬ (281474976710656<(n:Int)*(i.bytes:Int)):=by rw [← Int.natCast_mul]; omega
  have hm:¬ (n*i.size=0):=by
    have:=Nat.mul_pos h0 hs
    omega
  have hmx:max (n:Int) 0=(n:Int):=by omega
  simp [Builtin.append_,run_underlying ht,run_underlying hx,sizeOf,typeInfo,zeroValue,hi,hz,asInt,asIntOf,hwr,hng,hmx,h48'',hn,h63',h48',Question.forced,Builtin.firstCells,newRow,grownCap]
  intro h; exact absurd h hm
theorem F1 {x y:Operand} {t tx e:TypeId} {s by_:Nat} {z:Value} {n:Nat} (hx:fM L x=some (.slice none 0 0)) (hy:fM L y=some (.int .i64 (n:Int))) (ht:mT C.P t=some e) (htx:aAi C.P tx=some .i64) (hs:szP C.P e=some s) (hz:kD C.P e=some z) (hb:nC C.P e=some by_)
    (hzs:z.cells.size=s) (hs0:0<s) (hn0:0<n) (hmax:n<=maxLen) (hby:n*by_<=140737488355328) :
    iX C R H L ⟨dst,.call ⟨.builtin .append,#[x,y],#[t,tx]⟩,ty,pos,aft,g⟩ (fun u H2=>∃ b cap cur,u=.slice (some ⟨b,0,none⟩) n cap/\H2=sng b (.cells cur e (0,0))::H/\n<=cap/\cap<=maxLen/\cur.size=cap*s):=by
  refine ⟨fun a w hxx hsat next Q hnx=>?_⟩
  obtain ⟨i,hi,rfl,hiz,rfl⟩:=nK hs hz hb
  have htu:=jU ht
  have e1:=hxx x (by simp [Op.operands,Call.operands]) _ hx
  have e2:=hxx y (by simp [Op.operands,Call.operands]) _ hy
  have hr:=xH (P:=C.P) w t tx ty e i z htu (aOr htx) hi hiz n hn0 hs0 (by simp only [maxLen] at hmax; omega) (by omega)
  have hge:=grownCap_ge w n 0 e
  have hcm:grownCap w n 0 e<=maxLen:=grownCap_le_maxLen w n 0 e hmax
  have hsat2:=hsat.drew.alloc (.cells (Builtin.zeroCells z.cells n ++ Builtin.zeroCells z.cells (grownCap w n 0 e-n)) e)
  refine iR (by intro c; simp) ?_ (hnx _ _ _ ⟨w.heap.size,_,_,rfl,rfl,hge,hcm,?_⟩ (by simpa using hsat2))
  · simp [execOp,resolve,e1,e2,invoke,builtin,hr]
  · simp only [Array.size_append,size_zeroCells,hzs,← cZ]
    congr 1
    omega
theorem fS.room {e:TypeId} {s b cap:Nat} {cur:Array Value} (h1:cap<=maxLen) (h2:cur.size=cap*s):fS e s (.slice (some ⟨b,0,none⟩) 0 cap) 0 [] (sng b (.cells cur e (0,0))):=
  ⟨by simp,.inr ⟨b,cap,cur,rfl,rfl,cA _,h1,h2,by simp⟩⟩
theorem xI (b cap s:Nat):oH (some ⟨b,0,none⟩) cap 0 s=some ⟨b,0,none⟩:=by
  unfold oH
  split
  · rfl
  · simp [aBi]
theorem aFy {N:Bs} {σ:PH} {b o:Nat} {vs:List Value} (m:σ∈R) (h:RdN σ b o vs):mU N R H b o vs:=fun _ hs j v hv=>qS (hs.r σ m) (h j v hv)
def encW (v:Value):List Value:=[v]
theorem aI0 (v:Value):(encW v).length=1:=rfl
def tY {α:Type} (ls:List (List α)):Nat:=(ls.map List.length).foldr (· + ·) 0
theorem pI {α:Type} (l:List α) (ls:List (List α)):tY (l::ls)=l.length+tY ls:=rfl
theorem aEa {α:Type}:∀ (ls:List (List α)),ls.flatten.length=tY ls
  | []=>rfl
  | l::ls=>by rw [List.flatten_cons,aB,aEa ls,pI]
theorem xJ {α:Type}:∀ (ls:List (List α)) (k:Nat) (l:List α),ls[k]?=some l->tY (ls.take (k+1))=tY (ls.take k)+l.length
  | [],k,l,h=>by simp at h
  | x::ls,0,l,h=>by simp at h; subst h; simp [tY]
  | x::ls,k+1,l,h=>by
    have:=xJ ls k l (by simpa using h)
    rw [List.take_succ_cons,pI,this,List.take_succ_cons,pI]; omega
theorem aFz {α:Type}:∀ (ls:List (List α)) (k:Nat),tY (ls.take k)<=tY ls
  | [],k=>by simp
  | x::ls,0=>by simp [tY]
  | x::ls,k+1=>by rw [List.take_succ_cons,pI,pI]; have:=aFz ls k; omega
theorem aOs {α:Type} (ls:List (List α)) (k:Nat) (l:List α) (h:ls[k]?=some l):(ls.take (k+1)).flatten=(ls.take k).flatten ++ l:=by
  obtain ⟨hk,rfl⟩:=aC.1 h
  rw [aV hk,List.flatten_append];simp only [List.flatten_cons,List.flatten_nil,bX]
theorem DS {x y:Operand} {t e:TypeId} {s by_:Nat} {z:Value} {v w0:Value} {n m:Nat} {xs news:List Value} {ρ σ:PH} {H':List PH}
    (hx:fM L x=some v) (hy:fM L y=some w0) (ht:mT C.P t=some e) (hs:szP C.P e=some s) (hz:kD C.P e=some z) (hb:nC C.P e=some by_)
    (hzs:z.cells.size=s) (hown:fS e s v n xs ρ) (htk:gU ρ H H') (hw:qO σ s w0 m news) (hc:∀ b o,RdN σ b o news->mU C.N R H' b o news) (h1:∀ u∈news,u.oneCell'=true) (hmax:n+m<=maxLen) (hby:(n+m)*by_<=140737488355328) :
    iX C R H L ⟨dst,.call ⟨.builtin .append,#[x,y],#[t,t]⟩,ty,pos,aft,g⟩ (fun u H2=>∃ ρ',fS e s u (n+m) (xs ++ news) ρ'/\H2=ρ'::H'):=by
  rcases dC m with h0|h0
  · subst h0
    have hnews:news=[]:=dE (by have:=hw.1; simpa using this)
    subst hnews
    obtain ⟨p,c2,rfl⟩:=hw.cap
    obtain ⟨i,hi,rfl,hiz,rfl⟩:=nK hs hz hb
    have htu:=jU ht
    refine ⟨fun a w hxx hsat next Q hnx=>?_⟩
    have e1:=hxx x (by simp [Op.operands,Call.operands]) _ hx
    have e2:=hxx y (by simp [Op.operands,Call.operands]) _ hy
    have hf:(Builtin.firstCells i.size 0 (.slice p 0 c2)).run C.P w=.ok #[] w:=by
      cases p with
      | none=>simp [Builtin.firstCells]
      | some ad=>exact run_firstCells_some (P:=C.P) w i.size 0 ad 0 c2 [] (by simp) (by simp)
    have hr:(Builtin.append_ #[t,t] ty #[v,.slice p 0 c2]).run C.P w=.ok v w:=by
      obtain ⟨_,⟨rfl,rfl,_⟩|⟨b,cap,cur,rfl,_,hle,_⟩⟩:=hown
      · simp [Builtin.append_,run_underlying htu,sizeOf,typeInfo,hi,Builtin.lenOf,hf]
      · simp [Builtin.append_,run_underlying htu,sizeOf,typeInfo,hi,Builtin.lenOf,hle,hf,storeCells]
    refine iR (by intro c; simp) ?_ (hnx v _ w ⟨ρ,by simpa using hown,rfl⟩ (hsat.take htk))
    simp [execOp,resolve,e1,e2,invoke,builtin,hr]
  · obtain ⟨b2,o2,c2,rfl,hr⟩:=hw.some h0
    exact CA hx hy ht hs hz hb hzs hown htk (hc b2 o2 (fun j v hv=>hr j v hv)) hw.1 h1 h0 hmax hby
end
variable {C : Cx} {D : List Deferred} {R H : List PH} {L : Env} {K : List It}
section
variable {dst : Option Tmp} {ty : TypeId} {pos : String} {aft : Array Edge} {g : Option (Nat × Bool)}
variable {t yT : TypeId} {x y : Operand}
theorem GH {a b : Bool} (h1 : fM L x = some (.bool a)) (h2 : fM L y = some (.bool b)) (ht : C.P.underlying t = some .bool) : fO C R H L ⟨dst, .binOp .eql t x y yT, ty, pos, aft, g⟩ (.bool (a == b)) :=
  ⟨by intro c; simp, fun ac w hx _ => by
    have e1 := hx x (by simp [Op.operands]) _ h1
    have e2 := hx y (by simp [Op.operands]) _ h2
    have h3 := run_equalIn_bool' (P := C.P) w 9999 t a b ht
    simp only [Nat.reduceAdd] at h3
    simp [execOp, e1, e2, eqGuard, binOp, Op.equal, Op.maxDepth, h3]⟩
def fldI (P : Program) (k : Nat) (f : Field) : Bool := f.name != "_" && f.offset == k && (match P.underlying f.type with | some (.int .i64) => true | _ => false)
def aBj (P : Program) : Nat -> List Field -> Bool
  | _, [] => true
  | k, f :: fs => fldI P k f && aBj P (k + 1) fs
def aBk (P : Program) (t : TypeId) (n : Nat) : Bool := match P.underlying t with
  | some (.struct fs) => fs.size == n && aBj P 0 fs.toList
  | _ => false
theorem tI {P : Program} (w : World) (d : Nat) (l m : List Int) : ∀ (fs : List Field) (k : Nat), aBj P k fs = true -> k + fs.length = l.length -> l.length = m.length ->
    (Op.eqFields (d + 1) (l.map int).toArray (m.map int).toArray fs).run P w = .ok (decide (l.drop k = m.drop k)) w
  | [], k, _, h, h2 => by
    rw [cE (by simp at h; omega), cE (by simp at h; omega)]
    simp [Op.eqFields]
  | f :: fs, k, hf, h, h2 => by
    simp only [aBj, fldI, aJ, bne_iff_ne, ne_eq, beq_iff_eq] at hf
    obtain ⟨⟨⟨h3, h4⟩, h5⟩, h6⟩ := hf
    have hu : P.underlying f.type = some (.int .i64) := by
      split at h5
      · assumption
      · simp at h5
    have ih := tI w d l m fs (k + 1) h6 (by simp at h; omega) h2
    have hk : k < l.length := by simp at h; omega
    have hk2 : k < m.length := by omega
    have hp : ∀ (q : List Int) (hq : k < q.length), (part f.type (q.map int).toArray f.offset).run P w = .ok (int q[k]) w := fun q hq => by
      have hag : lP P f.type = some false := by simp [lP, hu]
      simp [part, run_isAgg hag, h4, hq]
    have hd : decide (l.drop k = m.drop k) = (decide (l[k] = m[k]) && decide (l.drop (k + 1) = m.drop (k + 1))) := by
      rw [bU hk, bU hk2, eC];simp only [dV, decide_eq_true_eq, aJ]
    rw [hd]
    have he := run_equalIn_int (P := P) w d f.type .i64 .i64 l[k] m[k] hu
    simp only [Op.eqFields, h3, not_false_eq_true, if_true, Sem.run_bind, hp l hk, hp m hk2, Result.andThen_ok, he, ne_eq]
    by_cases hkm : l[k] = m[k]
    · simp only [hkm, beq_self_eq_true, Bool.not_true, eK, if_false, ih, decide_true, Bool.true_and]
    · have : (l[k] == m[k]) = false := by simpa using hkm
      simp only [this, hkm, Bool.not_false, if_true, Sem.run_pure, decide_false, Bool.false_and]
theorem aBl {P : Program} {n : Nat} (h : aBk P t n = true) : ∃ fs : Array Field, P.underlying t = some (.struct fs) /\ fs.size = n /\ aBj P 0 fs.toList = true := by
  unfold aBk at h
  split at h
  · rename_i fs hu
    simp only [aJ, beq_iff_eq] at h;exact ⟨fs, hu, h.1, h.2⟩
  · simp at h
theorem tZ {P : Program} (w : World) {l m : List Int} {n : Nat} (hi : aBk P t n = true) (hp : P.stoodInHeld t = false) (hl : l.length = n) (hm : m.length = n) : (Op.equalIn 10000 t (.agg (l.map int).toArray) (.agg (m.map int).toArray)).run P w = .ok (decide (l = m)) w := by
  obtain ⟨fs, hu, hs, hf⟩ := aBl hi
  have hfo : P.fieldsOf t = fs := by simp [Program.fieldsOf, hu]
  have h1 := run_equalIn_struct (P := P) w 9999 t (l.map int).toArray (m.map int).toArray (by rw [hfo]; exact hu) hp
  have h2 := tI (P := P) w 9998 l m fs.toList 0 hf (by simp [hs, hl]) (by omega)
  rw [hfo] at h1;simp only [Nat.reduceAdd] at h1 h2;rw [h1, h2]; simp
theorem q_eqS (l m : List Int) {n : Nat} (h1 : fM L x = some (.agg (l.map int).toArray)) (h2 : fM L y = some (.agg (m.map int).toArray)) (hi : aBk C.P t n = true) (hp : C.P.stoodInHeld t = false) (hg : C.P.eqGuardType C.P.depth t = false) (hl : l.length = n) (hm : m.length = n) :
    fO C R H L ⟨dst, .binOp .eql t x y yT, ty, pos, aft, g⟩ (.bool (decide (l = m))) :=
  ⟨by intro c; simp, fun ac w hx _ => by
    have e1 := hx x (by simp [Op.operands]) _ h1
    have e2 := hx y (by simp [Op.operands]) _ h2
    have h3 := run_eql_struct (P := C.P) w t (l.map int).toArray (m.map int).toArray
    rw [tZ w hi hp hl hm] at h3
    have h4 := run_eqGuard_agg (P := C.P) w .eql t x y (l.map int).toArray (m.map int).toArray hg
    simp [execOp, e1, e2, h3, h4]⟩
theorem G0 (l m : List Int) {n : Nat} (h1 : fM L x = some (.agg (l.map int).toArray)) (h2 : fM L y = some (.agg (m.map int).toArray)) (hi : aBk C.P t n = true) (hp : C.P.stoodInHeld t = false) (hg : C.P.eqGuardType C.P.depth t = false) (hl : l.length = n) (hm : m.length = n) :
    fO C R H L ⟨dst, .binOp .neq t x y yT, ty, pos, aft, g⟩ (.bool (!decide (l = m))) :=
  ⟨by intro c; simp, fun ac w hx _ => by
    have e1 := hx x (by simp [Op.operands]) _ h1
    have e2 := hx y (by simp [Op.operands]) _ h2
    have h3 := run_neq_struct (P := C.P) w t (l.map int).toArray (m.map int).toArray
    rw [tZ w hi hp hl hm] at h3
    have h4 := run_eqGuard_agg (P := C.P) w .neq t x y (l.map int).toArray (m.map int).toArray hg
    simp [execOp, e1, e2, h3, h4]⟩
end
end Go.Eng
namespace Go.Eng
open Go.ChangeShapes Go.WideShapes Go.RowKit
def mN (w : World) : PH := fun b => w.heap[b]?
theorem aSl (w : World) : Sat (Bs.of w) [mN w] [] w :=
  ⟨⟨aK _, rfl, rfl, rfl, aK _⟩, by intro ρ hρ; simp at hρ; subst hρ; exact fun b o h => h, by simp, List.Pairwise.nil, by simp⟩
theorem aSm {w : World} {b o : Nat} {v : Value} (h : w.cell? ⟨b, o, none⟩ = some v) : rdc (mN w) b o = some v := by
  unfold World.cell? at h;unfold rdc mN
  cases e : w.heap[b]? with
  | none => simp [e] at h
  | some ob => cases ob <;> simp_all
theorem aOt {w : World} {a : Addr} {v : Value} (h : w.cell? a = some v) : a.spot = none := by
  unfold World.cell? at h
  split at h
  · split at h
    · simp at h
    · rename_i hs; simpa using hs
  · simp at h
theorem aOu {P : Program} {f : FuncId} {fn : Func} {c : Code} {args : List Value} {W : World} (hf : P.funcs[f]? = some fn) (hb : fn.body = some c) (hname : (fn.name == "runtime.NumGoroutine") = false)
    (hs : Ans P (fv f) args [mN W] (fun v => v = .bool true)) : Calls P f args.toArray W (fun e W' => e = .returned (.bool true) /\ Below W.heap.size W W') := by
  have h := hs (Bs.of W) W (aSl W)
  unfold kG at h
  have hrun : ((do let d ← Deferred.ofValue (fv f) args.toArray; invoke d.target d.args : Sem Next).run P W) = .ok (.enter f args.toArray) W := by
    have hname' : ¬ fn.name = "runtime.NumGoroutine" := by simpa using hname
    simp [Deferred.ofValue, invoke, callFunc, program, Sem.run, bind, Sem.bind, pure, hf, hb, hname']
  rw [hrun] at h;refine callsIn_wide.1 (CallsIn.mono h ?_);rintro e W' ⟨v, rfl, H', ⟨rfl, rfl⟩, hu⟩
  exact ⟨rfl, hu.size.2.1, hu.size.2.2.2.1, hu.size.2.2.1, hu.size.1, fun k hk => hu.keep k hk (by simp)⟩
def RdT (P : Program) (W : World) (t : TypeId) (cs : List Value) : Prop := ∃ (H : Type) (enc : TypeId × Value -> H) (fuel : Nat) (x : DataW H × List MemPlace), DataW.trod enc P W 0 (fun _ => true) true fuel t cs = some x
section
variable {P : Program} {W : World} {t : TypeId} {cs : List Value}
theorem RdT.of {H : Type} {enc : TypeId × Value -> H} {v : Value} {d : DataW H} {p : List MemPlace} (h : DataW.Trod enc P W 0 (fun _ => true) true t v d p) : RdT P W t v.cells.toList := by
  obtain ⟨fuel, hf⟩ := h
  exact ⟨H, enc, fuel, _, hf⟩
theorem RdT.num {k : IntKind} (ht : P.underlying t = some (.int k)) (h : RdT P W t cs) : ∃ n, cs = [.int k n] /\ (Lit.int k n).wf = true := by
  obtain ⟨H, enc, fuel, x, h⟩ := h
  obtain ⟨n, h1, _, h2⟩ := DataW.trod_int ht h
  exact ⟨n, h1, h2⟩
theorem aW1 {n : Int} (h : (Lit.int .i64 n).wf = true) : aEx n := by
  simp only [Lit.wf, aJ, decide_eq_true_eq] at h;exact ⟨h.1, h.2⟩
theorem RdT.i64 (ht : P.underlying t = some (.int .i64)) (h : RdT P W t cs) : ∃ n, cs = [int n] /\ aEx n := by
  obtain ⟨n, h1, h2⟩ := h.num ht
  exact ⟨n, h1, aW1 h2⟩
theorem RdT.bool (ht : P.underlying t = some .bool) (h : RdT P W t cs) : ∃ b, cs = [.bool b] := by
  obtain ⟨H, enc, fuel, x, h⟩ := h
  cases fuel with
  | zero => simp [DataW.trod] at h
  | succ n =>
    unfold DataW.trod at h;rw [ht] at h
    split at h <;> simp_all
theorem RdT.struct {fs : Array Field} (ht : P.underlying t = some (.struct fs)) (h : RdT P W t cs) : cs.length = P.cellsOf t /\ ∀ (i : Nat) (f : Field), fs[i]? = some f -> RdT P W f.type ((cs.drop f.offset).take (P.cellsOf f.type)) := by
  obtain ⟨H, enc, fuel, x, h⟩ := h
  obtain ⟨xs, n, _, _, hl, hlen, hf⟩ := DataW.trod_struct ht h
  refine ⟨hl, fun i f hi => ?_⟩
  have hif : i < xs.length := by rw [hlen]; exact (bP.1 hi).1
  have := hf i f hi
  rw [aA hif] at this;exact ⟨H, enc, n, _, this⟩
theorem RdT.fld1 {fs : Array Field} (ht : P.underlying t = some (.struct fs)) (h : RdT P W t cs) (i : Nat) {f : Field} (hi : fs[i]? = some f) {ty : TypeId} {o : Nat} {c : Value} (hty : f.type = ty) (ho : f.offset = o) (hc : P.cellsOf ty = 1) (hcs : cs[o]? = some c) : RdT P W ty [c] := by
  have := (h.struct ht).2 i f hi
  rw [hty, ho, hc] at this
  obtain ⟨hlt, he⟩ := aC.1 hcs
  rw [bU hlt, he] at this
  simpa using this
theorem rG {α : Type} (q : Nat -> α -> Prop) : ∀ n, (∀ i, i < n -> ∃ a, q i a) -> ∃ l : List α, l.length = n /\ ∀ i a, l[i]? = some a -> q i a
  | 0, _ => ⟨[], rfl, by simp⟩
  | n + 1, h => by
    obtain ⟨l, hl, hq⟩ := rG q n (fun i hi => h i (by omega))
    obtain ⟨a, ha⟩ := h n (by omega)
    refine ⟨l ++ [a], by simp [hl], fun i b hb => ?_⟩
    by_cases e : i < n
    · rw [cM (by omega)] at hb; exact hq i b hb
    · rw [bY (by omega)] at hb
      have hi : i - l.length = 0 := by
        have := (aC.1 hb).1
        simp at this; omega
      rw [hi] at hb
      simp at hb
      subst hb
      have : i = n := by omega
      subst this; exact ha
theorem RdT.slice {e : TypeId} {s : Nat} (ht : P.underlying t = some (.slice e)) (hs : P.cellsOf e = s) (h0 : 0 < s) (h : RdT P W t cs) :
    ∃ v p c, cs = [v] /\ ∃ els : List (List Value), v = .slice p els.length c /\ els.length <= maxLen /\ ∀ i x, els[i]? = some x -> x.length = s /\ RdT P W e x /\ ∃ b o, p = some ⟨b, o, none⟩ /\ RdN (mN W) b (o + i * s) x := by
  obtain ⟨H, enc, fuel, x, h⟩ := h
  rcases Deep.open_slice ht h with ⟨rfl, _⟩ | ⟨a, len, cap, m, n, D, Pl, rfl, _, hlc, hcm, hm, _, hx⟩
  · exact ⟨_, none, 0, rfl, [], rfl, by simp, by simp⟩
  · have hm' : m = cap := by rw [hm]; simp
    obtain ⟨els, hl, hq⟩ := rG (fun i cs' => W.cells? 0 (a.add (i * P.cellsOf e)) (P.cellsOf e) = some cs' /\ DataW.trod enc P W 0 (fun _ => true) true n e cs' = some (D i, Pl i)) len (fun i hi => hx i (by omega))
    refine ⟨_, some a, cap, rfl, els, by rw [hl], by omega, fun i y hy => ?_⟩
    obtain ⟨q1, q2⟩ := hq i y hy
    obtain ⟨_, k1, k2⟩ := World.cells?_some q1
    rw [hs] at k1 k2
    have hsp : a.spot = none := by
      have hi : i < els.length := (aC.1 hy).1
      obtain ⟨r1, _⟩ := hq 0 els[0] (aA (by omega))
      obtain ⟨_, g1, g2⟩ := World.cells?_some r1
      rw [hs] at g1 g2
      have hv0 : els[0][0]? = some (els[0][0]'(by omega)) := aA (by omega)
      have := aOt ((g2 0 h0).trans hv0)
      simpa [Addr.add] using this
    obtain ⟨b, o, sp⟩ := a
    simp only at hsp;subst hsp
    have hadd : ∀ m : Nat, (⟨b, o, none⟩ : Addr).add m = ⟨b, o + m, none⟩ := fun m => by
      unfold Addr.add
      split
      · rename_i e; rw [e]; rfl
      · rfl
    have hadd2 : ∀ m k : Nat, (⟨b, o + m, none⟩ : Addr).add k = ⟨b, o + m + k, none⟩ := fun m k => by
      unfold Addr.add
      split
      · rename_i e; rw [e]; rfl
      · rfl
    refine ⟨k1, ⟨H, enc, n, _, q2⟩, b, o, rfl, fun j v hv => ?_⟩
    have hj : j < s := by
      have := (aC.1 hv).1
      omega
    have := (k2 j hj).trans hv
    rw [hadd, hadd2] at this;exact aSm this
theorem RdT.sliceE {α : Type} {enc : α -> List Value} {Q : α -> Prop} {e : TypeId} {s : Nat} (ht : P.underlying t = some (.slice e)) (hs : P.cellsOf e = s) (h0 : 0 < s) (hel : ∀ x, RdT P W e x -> ∃ a, x = enc a /\ Q a) (h : RdT P W t cs) :
    ∃ v, cs = [v] /\ ∃ l : List α, SlE enc s (mN W) v l /\ (∀ a ∈ l, Q a) /\ l.length <= maxLen := by
  obtain ⟨v, p, c, rfl, els, rfl, hle, hx⟩ := h.slice ht hs h0
  obtain ⟨l, hl, hq⟩ := rG (fun i (a : α) => ∀ x, els[i]? = some x -> x = enc a /\ Q a) els.length (fun i hi => by
    obtain ⟨a, h1, h2⟩ := hel els[i] (hx i _ (aA hi)).2.1
    exact ⟨a, fun x hx => by rw [aA hi] at hx; obtain rfl := Option.some.inj hx; exact ⟨h1, h2⟩⟩)
  have hlen : ∀ i a, l[i]? = some a -> (enc a).length = s /\ Q a /\ ∃ b o, p = some ⟨b, o, none⟩ /\ RdN (mN W) b (o + i * s) (enc a) := fun i a ha => by
    have hi : i < els.length := by rw [← hl]; exact (aC.1 ha).1
    obtain ⟨e1, e2⟩ := hq i a ha _ (aA hi)
    obtain ⟨k1, _, k3⟩ := hx i _ (aA hi)
    rw [e1] at k1 k3;exact ⟨k1, e2, k3⟩
  refine ⟨_, rfl, l, ⟨?_, ?_⟩, fun a ha => ?_, by omega⟩
  · clear hq hx hle
    have : ∀ (l : List α), (∀ a ∈ l, (enc a).length = s) -> (l.flatMap enc).length = l.length * s := by
      intro l
      induction l with
      | nil => simp
      | cons a l ih =>
        intro hall
        rw [cU, aB, ih (fun b hb => hall b (by simp [hb])), hall a (by simp), aS, cZ]; omega
    exact this l (fun a ha => by
      obtain ⟨i, hi, e⟩ := bB ha
      exact (hlen i a (by rw [aA hi, e])).1)
  · rcases dC l.length with hz | hz
    · left; refine ⟨hz, p, c, by rw [← hl, hz]⟩
    · right
      obtain ⟨_, _, b, o, rfl, _⟩ := hlen 0 l[0] (aA hz)
      refine ⟨b, o, c, by rw [hl], fun j u hu => ?_⟩
      have hfl : ∀ (l' : List α) (k : Nat), (∀ i a, l'[i]? = some a -> (enc a).length = s /\ RdN (mN W) b (o + (k + i) * s) (enc a)) -> ∀ j u, (l'.flatMap enc)[j]? = some u -> rdc (mN W) b (o + k * s + j) = some u := by
        intro l'
        induction l' with
        | nil => intro k _ j u hu; simp at hu
        | cons a l' ih =>
          intro k hall j u hu
          have h1 := hall 0 a rfl
          rw [cU] at hu
          by_cases hj : j < (enc a).length
          · rw [cM hj] at hu
            have := h1.2 j u hu
            rwa [eO] at this
          · rw [bY (by omega)] at hu
            have := ih (k + 1) (fun i b' hb => by
              have := hall (i + 1) b' (by simpa using hb)
              rwa [show k + (i + 1) = k + 1 + i from by omega] at this) (j - (enc a).length) u hu
            rw [h1.1] at this hj
            rwa [show o + (k + 1) * s + (j - s) = o + k * s + j from by rw [cZ]; omega] at this
      have := hfl l 0 (fun i a ha => by
        obtain ⟨k1, _, b', o', e, k3⟩ := hlen i a ha
        simp only [aD, eI, and_true] at e
        obtain ⟨rfl, rfl⟩ := e
        rw [bZ]; exact ⟨k1, k3⟩) j u hu
      rwa [Nat.zero_mul, eO] at this
  · obtain ⟨i, hi, e⟩ := bB ha
    exact (hlen i a (by rw [aA hi, e])).2.1
end
theorem aLg {P : Program} {w : World} {r : Reach} {base : Nat} {t : TypeId} {v : Value} {fs : Array Field} (ht : P.underlying t = some (.struct fs)) (h : Value.okWide P w r base t v) : ∃ cs, v = .agg cs := by
  simp only [Value.okWide, ht] at h
  obtain ⟨cs, h1, _⟩ := h
  exact ⟨cs, h1⟩
end Go.Eng
namespace Go.Eng
variable {C:Cx} {D:List Deferred} {R H:List PH} {L:Env} {K:List It}
structure RdP (ρ:PH) (b o:Nat) (vs:List Value):Prop where
  rd:RdN ρ b o vs
theorem aLh {N:Bs} {σ:PH} {b o:Nat} {vs:List Value} (h:RdP σ b o vs) (m:Mem σ R):mU N R H b o vs:=tQ h.rd m
theorem iB {b k:Nat} {xs vs:List Value} {t:TypeId} {fr:Nat × Nat} (h:(xs.drop k).take vs.length=vs):RdP (sng b (.cells xs.toArray t fr)) b k vs:=⟨fun j v hv=>by
  rw [kE];rw [← h] at hv
  have hlt:=(aC.1 hv).1
  rw [aL] at hlt
  rw [cJ (by omega),dX] at hv
  simpa using hv⟩
end Go.Eng
