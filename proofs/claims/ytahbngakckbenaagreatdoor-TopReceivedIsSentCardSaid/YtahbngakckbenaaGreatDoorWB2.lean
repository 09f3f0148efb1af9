/- Texts of this proof, one after the other; no conditions. -/
import Derived.Laws.StructEq
import Derived.ProofKit
import Derived.Deep.Slices
import Derived.Lib.SmallJoins
import Derived.Lib.SlicesCompact
import Derived.Test.YtahbngakckbenaaGreatDoorWB1
set_option linter.all false
/- Cuts of slices, wherever these lie; results that are kept in memory. No conditions. -/
namespace Go.Eng
variable {C:Cx} {D:List Deferred} {R H:List PH} {L:Env} {K:List It}
def cutP (a:Option Addr) (c i s:Nat):Option Addr:=if c=i then a else a.map (·.add (i*s))
section
variable {dst:Option Tmp} {ty:TypeId} {pos:String} {aft:Array Edge} {g:Option (Nat × Bool)}
variable {t e:TypeId} {x y z:Operand} {a:Option Addr} {n c s:Nat} {k k2:IntKind} {i j:Nat}
theorem ES (h:evalE L x=some (.slice a n c)) (hy:evalE L y=some (.int k (i:Int))) (ht:elemP C.P t=some e) (hs:szP C.P e=some s) (h1:i≤c) :
    Quiet C R H L ⟨dst,.slice t x none (some y) none,ty,pos,aft,g⟩ (.slice (cutP a c 0 s) i c):=
  ⟨by intro c; simp,fun ac w hx _=>by
    have e1:=hx x (by simp [Op.operands]) _ h
    have e2:=hx y (by simp [Op.operands]) _ hy
    simp [execOp,e1,e2,Instr.sliceAt,run_underlying (und_elem ht),Instr.slice,Instr.sliceBounds,Instr.sliceBound,asIntOf,run_sizeOf hs,h1,cutP]⟩
theorem D6 (h:evalE L x=some (.slice a n c)) (hy:evalE L y=some (.int k (i:Int))) (ht:elemP C.P t=some e) (hs:szP C.P e=some s) (h1:i≤n) :
    Quiet C R H L ⟨dst,.slice t x (some y) none none,ty,pos,aft,g⟩ (.slice (cutP a c i s) (n-i) (c-i)):=
  ⟨by intro c; simp,fun ac w hx _=>by
    have e1:=hx x (by simp [Op.operands]) _ h
    have e2:=hx y (by simp [Op.operands]) _ hy
    simp [execOp,e1,e2,Instr.sliceAt,run_underlying (und_elem ht),Instr.slice,Instr.sliceBounds,Instr.sliceBound,asIntOf,run_sizeOf hs,h1,cutP]⟩
end
theorem GP {dst:Option Tmp} {ty:TypeId} {pos:String} {aft:Array Edge} {g:Option (Nat × Bool)} {s d:TypeId} {x:Operand} {k':IntKind} {n:Int} (h:evalE L x=some (.int k' n)) (hs:(C.P.underlying s).isSome=true) (hd:kindP C.P d=some .i64) (hr:In64 n) :
    Quiet C R H L ⟨dst,.convert s d x,ty,pos,aft,g⟩ (.int .i64 n):=F4 h hs hd (wrap_in hr)
def CapOK (v:Value):Prop:=∃ p n c,v=.slice p n c∧n≤c
theorem CapOK.le {p:Option Addr} {n c:Nat} (h:CapOK (.slice p n c)):n≤c:=by
  obtain ⟨p',n',c',e,h⟩:=h
  simp only [Value.slice.injEq] at e
  obtain ⟨_,rfl,rfl⟩:=e
  exact h
theorem addr_add (b o m:Nat):(⟨b,o,none⟩:Addr).add m=⟨b,o+m,none⟩:=Addr.add_lit ..
theorem flat_cut {α:Type} {enc:α→List Value} {s:Nat} (he:∀ x,(enc x).length=s):∀ (l:List α) (i:Nat),i≤l.length→(l.drop i).flatMap enc=(l.flatMap enc).drop (i*s)
  | l,0,_=>by simp
  | [],i+1,h=>by simp at h
  | x::l,i+1,h=>by
    rw [List.drop_succ_cons,flat_cut he l i (by simpa using h),List.flatMap_cons,List.drop_append,List.drop_of_length_le (l:=enc x) (by rw [he,Nat.add_mul]; omega),he]
    congr 1
    rw [Nat.add_mul]; omega
theorem flat_take {α:Type} {enc:α→List Value} {s:Nat} (he:∀ x,(enc x).length=s):∀ (l:List α) (i:Nat),(l.take i).flatMap enc=(l.flatMap enc).take (i*s)
  | l,0=>by simp
  | [],i+1=>by simp
  | x::l,i+1=>by
    rw [List.take_succ_cons,List.flatMap_cons,flat_take he l i,List.flatMap_cons,List.take_append,List.take_of_length_le (l:=enc x) (by rw [he,Nat.add_mul]; omega),he]
    congr 2
    rw [Nat.add_mul]; omega
theorem slE_cut {α:Type} {enc:α→List Value} {s:Nat} (he:∀ x,(enc x).length=s) {ρ:PH} {a:Option Addr} {n c:Nat} {l:List α} (h:SlE enc s ρ (.slice a n c) l) (hc:l.length≤c) {i j:Nat} (h1:i≤j) (h2:j≤l.length):SlE enc s ρ (.slice (cutP a c i s) (j-i) (c-i)) ((l.drop i).take (j-i)):=by
  have hlen:((l.drop i).take (j-i)).length=j-i:=by simp; omega
  refine ⟨by rw [flat_len he],?_⟩
  by_cases h0:j-i=0
  · left
    exact ⟨by rw [hlen]; exact h0,_,_,by rw [h0]⟩
  · right
    obtain ⟨_,⟨h3,_⟩|⟨b,o,c',e,hr⟩⟩:=h
    · omega
    · simp only [Value.slice.injEq] at e
      obtain ⟨rfl,rfl,rfl⟩:=e
      refine ⟨b,o+i*s,c-i,?_,fun k u hu=>?_⟩
      · rw [hlen]
        unfold cutP
        rw [if_neg (by omega)]
        simp [addr_add]
      · rw [flat_take he,flat_cut he l i (by omega)] at hu
        have hk:k<(j-i)*s:=by
          have:=(List.getElem?_eq_some_iff.1 hu).1
          simp at this; omega
        rw [List.getElem?_take_of_lt hk,List.getElem?_drop] at hu
        have:=hr _ u hu
        rwa [← Nat.add_assoc] at this
theorem slE_hi {α:Type} {enc:α→List Value} {s:Nat} (he:∀ x,(enc x).length=s) {ρ:PH} {a:Option Addr} {n c:Nat} {l:List α} (h:SlE enc s ρ (.slice a n c) l) (hc:l.length≤c) {j:Nat} (h2:j≤l.length):SlE enc s ρ (.slice (cutP a c 0 s) j c) (l.take j):=by
  have:=slE_cut he h hc (Nat.zero_le j) h2
  simpa using this
theorem slE_lo {α:Type} {enc:α→List Value} {s:Nat} (he:∀ x,(enc x).length=s) {ρ:PH} {a:Option Addr} {n c:Nat} {l:List α} (h:SlE enc s ρ (.slice a n c) l) (hc:l.length≤c) {i:Nat} (h2:i≤l.length) (hn:n=l.length):SlE enc s ρ (.slice (cutP a c i s) (n-i) (c-i)) (l.drop i):=by
  subst hn
  have:=slE_cut he h hc h2 (Nat.le_refl _)
  rwa [List.take_of_length_le (by simp)] at this
end Go.Eng
namespace Go.Eng
variable {C:Cx} {D:List Deferred} {R H:List PH} {L:Env} {K:List It}
variable {dst:Option Tmp} {ty:TypeId} {pos:String} {aft:Array Edge} {g:Option (Nat × Bool)}
theorem q_cap {x:Operand} {t e:TypeId} {a:Option Addr} {n c:Nat} (h:evalE L x=some (.slice a n c)) (ht:elemP C.P t=some e) :
    Quiet C R H L ⟨dst,.call ⟨.builtin .cap,#[x],#[t]⟩,ty,pos,aft,g⟩ (.int .i64 (c:Int)):=
  ⟨by intro c; simp,fun ac w hx _=>by
    have e1:=hx x (by simp [Op.operands,Call.operands]) _ h
    simp [execOp,resolve,e1,invoke,builtin,Builtin.cap_,run_underlying (und_elem ht),goInt]⟩
theorem und_kindI {P:Program} {t:TypeId} (h:kindP P t=some .i64):P.underlying t=some (.int .i64):=und_kind h
theorem run_append_zeros {P:Program} (w:World) (t tx ty e:TypeId) (i:TypeInfo) (z:Value) (ht:P.underlying t=some (.slice e)) (hx:P.underlying tx=some (.int .i64)) (hi:P.info? e=some i) (hz:i.zero=some z) (n:Nat) (h0:0<n) (hs:0<i.size)
    (h63:(n:Int)≤9223372036854775807) (h48:n*i.bytes≤281474976710656) :
    (Builtin.append_ #[t,tx] ty #[.slice none 0 0,.int .i64 (n:Int)]).run P w =
      .ok (.slice (some ⟨w.heap.size,0,none⟩) n (grownCap w n 0 e)) (w.drew.alloc (.cells (Builtin.zeroCells z.cells n ++ Builtin.zeroCells z.cells (grownCap w n 0 e-n)) e)):=by
  have hn:¬ (n=0):=by omega
  have hwr:IntKind.i64.wrap (n:Int)=(n:Int):=wrap_in ⟨by omega,by omega⟩
  have hng:¬ ((n:Int)<0):=by omega
  have h63':¬ (9223372036854775807<(n:Int)):=by omega
  have h48':¬ (281474976710656<Builtin.nextslicecap n 0*i.bytes):=by rw [nextslicecap_zero h0]; omega
  have h48'':¬ (281474976710656<(n:Int)*(i.bytes:Int)):=by rw [← Int.natCast_mul]; omega
  have hm:¬ (n*i.size=0):=by
    have:=Nat.mul_pos h0 hs
    omega
  have hmx:max (n:Int) 0=(n:Int):=by omega
  simp [Builtin.append_,run_underlying ht,run_underlying hx,sizeOf,typeInfo,zeroValue,hi,hz,asInt,asIntOf,hwr,hng,hmx,h48'',hn,h63',h48',Question.forced,Builtin.firstCells,newRow,grownCap]
  intro h; exact absurd h hm
theorem FU {x y:Operand} {t tx e:TypeId} {s by_:Nat} {z:Value} {n:Nat} (hx:evalE L x=some (.slice none 0 0)) (hy:evalE L y=some (.int .i64 (n:Int))) (ht:elemP C.P t=some e) (htx:kindP C.P tx=some .i64) (hs:szP C.P e=some s) (hz:zeroP C.P e=some z) (hb:bytesP C.P e=some by_)
    (hzs:z.cells.size=s) (hs0:0<s) (hn0:0<n) (hmax:n≤maxLen) (hby:n*by_≤140737488355328) :
    Loud C R H L ⟨dst,.call ⟨.builtin .append,#[x,y],#[t,tx]⟩,ty,pos,aft,g⟩ (fun u H2=>∃ b cap cur,u=.slice (some ⟨b,0,none⟩) n cap∧H2=sng b (.cells cur e (0,0))::H∧n≤cap∧cap≤maxLen∧cur.size=cap*s):=by
  refine ⟨fun a w hxx hsat next Q hnx=>?_⟩
  obtain ⟨i,hi,rfl,hiz,rfl⟩:=info_of hs hz hb
  have htu:=und_elem ht
  have e1:=hxx x (by simp [Op.operands,Call.operands]) _ hx
  have e2:=hxx y (by simp [Op.operands,Call.operands]) _ hy
  have hr:=run_append_zeros (P:=C.P) w t tx ty e i z htu (und_kindI htx) hi hiz n hn0 hs0 (by simp only [maxLen] at hmax; omega) (by omega)
  have hge:=grownCap_ge w n 0 e
  have hcm:grownCap w n 0 e≤maxLen:=grownCap_le_maxLen w n 0 e hmax
  have hsat2:=hsat.drew.alloc (.cells (Builtin.zeroCells z.cells n ++ Builtin.zeroCells z.cells (grownCap w n 0 e-n)) e)
  refine wpIn_value (by intro c; simp) ?_ (hnx _ _ _ ⟨w.heap.size,_,_,rfl,rfl,hge,hcm,?_⟩ (by simpa using hsat2))
  · simp [execOp,resolve,e1,e2,invoke,builtin,hr]
  · simp only [Array.size_append,size_zeroCells,hzs,← Nat.add_mul]
    congr 1
    omega
theorem OwnS.room {e:TypeId} {s b cap:Nat} {cur:Array Value} (h1:cap≤maxLen) (h2:cur.size=cap*s):OwnS e s (.slice (some ⟨b,0,none⟩) 0 cap) 0 [] (sng b (.cells cur e (0,0))):=
  ⟨by simp,.inr ⟨b,cap,cur,rfl,rfl,Nat.zero_le _,h1,h2,by simp⟩⟩
theorem cutP_zero (b cap s:Nat):cutP (some ⟨b,0,none⟩) cap 0 s=some ⟨b,0,none⟩:=by
  unfold cutP
  split
  · rfl
  · simp [addr_add]
theorem cells_of_mem {N:Bs} {σ:PH} {b o:Nat} {vs:List Value} (m:σ∈R) (h:RdN σ b o vs):Cells N R H b o vs:=fun _ hs j v hv=>rdc_cell (hs.r σ m) (h j v hv)
theorem cells_of_memH {N:Bs} {σ:PH} {b o:Nat} {vs:List Value} (m:σ∈H) (h:RdN σ b o vs):Cells N R H b o vs:=fun _ hs j v hv=>rdc_cell (hs.h σ m) (h j v hv)
def encW (v:Value):List Value:=[v]
theorem encW_len (v:Value):(encW v).length=1:=rfl
def totL {α:Type} (ls:List (List α)):Nat:=(ls.map List.length).foldr (· + ·) 0
theorem totL_cons {α:Type} (l:List α) (ls:List (List α)):totL (l::ls)=l.length+totL ls:=rfl
theorem totL_flat {α:Type}:∀ (ls:List (List α)),ls.flatten.length=totL ls
  | []=>rfl
  | l::ls=>by rw [List.flatten_cons,List.length_append,totL_flat ls,totL_cons]
theorem totL_take {α:Type}:∀ (ls:List (List α)) (k:Nat) (l:List α),ls[k]?=some l→totL (ls.take (k+1))=totL (ls.take k)+l.length
  | [],k,l,h=>by simp at h
  | x::ls,0,l,h=>by simp at h; subst h; simp [totL]
  | x::ls,k+1,l,h=>by
    have:=totL_take ls k l (by simpa using h)
    rw [List.take_succ_cons,totL_cons,this,List.take_succ_cons,totL_cons]; omega
theorem totL_le {α:Type}:∀ (ls:List (List α)) (k:Nat),totL (ls.take k)≤totL ls
  | [],k=>by simp
  | x::ls,0=>by simp [totL]
  | x::ls,k+1=>by rw [List.take_succ_cons,totL_cons,totL_cons]; have:=totL_le ls k; omega
theorem flat_succ {α:Type} (ls:List (List α)) (k:Nat) (l:List α) (h:ls[k]?=some l):(ls.take (k+1)).flatten=(ls.take k).flatten ++ l:=by
  obtain ⟨hk,rfl⟩:=List.getElem?_eq_some_iff.1 h
  rw [List.take_succ_eq_append_getElem hk,List.flatten_append];simp only [List.flatten_cons,List.flatten_nil,List.append_nil]
theorem DE {x y:Operand} {t e:TypeId} {s by_:Nat} {z:Value} {v w0:Value} {n m:Nat} {xs news:List Value} {ρ σ:PH} {H':List PH}
    (hx:evalE L x=some v) (hy:evalE L y=some w0) (ht:elemP C.P t=some e) (hs:szP C.P e=some s) (hz:zeroP C.P e=some z) (hb:bytesP C.P e=some by_)
    (hzs:z.cells.size=s) (hown:OwnS e s v n xs ρ) (htk:Take ρ H H') (hw:SlAt σ s w0 m news) (hc:∀ b o,RdN σ b o news→Cells C.N R H' b o news) (h1:∀ u∈news,u.oneCell'=true) (hmax:n+m≤maxLen) (hby:(n+m)*by_≤140737488355328) :
    Loud C R H L ⟨dst,.call ⟨.builtin .append,#[x,y],#[t,t]⟩,ty,pos,aft,g⟩ (fun u H2=>∃ ρ',OwnS e s u (n+m) (xs ++ news) ρ'∧H2=ρ'::H'):=by
  rcases Nat.eq_zero_or_pos m with h0|h0
  · subst h0
    have hnews:news=[]:=List.eq_nil_of_length_eq_zero (by have:=hw.1; simpa using this)
    subst hnews
    obtain ⟨p,c2,rfl⟩:=hw.cap
    obtain ⟨i,hi,rfl,hiz,rfl⟩:=info_of hs hz hb
    have htu:=und_elem ht
    refine ⟨fun a w hxx hsat next Q hnx=>?_⟩
    have e1:=hxx x (by simp [Op.operands,Call.operands]) _ hx
    have e2:=hxx y (by simp [Op.operands,Call.operands]) _ hy
    have hf:(Builtin.firstCells i.size 0 (.slice p 0 c2)).run C.P w=.ok #[] w:=by
      cases p with
      | none=>simp [Builtin.firstCells]
      | some ad=>exact run_firstCells_some (P:=C.P) w i.size 0 ad 0 c2 [] (by simp) (by simp)
    have hr:(Builtin.append_ #[t,t] ty #[v,.slice p 0 c2]).run C.P w=.ok v w:=by
      obtain ⟨_,⟨rfl,rfl,_⟩|⟨b,cap,cur,rfl,_,hle,_⟩⟩:=hown
      · simp [Builtin.append_,run_underlying htu,sizeOf,typeInfo,hi,Builtin.lenOf,hf]
      · simp [Builtin.append_,run_underlying htu,sizeOf,typeInfo,hi,Builtin.lenOf,hle,hf,storeCells]
    refine wpIn_value (by intro c; simp) ?_ (hnx v _ w ⟨ρ,by simpa using hown,rfl⟩ (hsat.take htk))
    simp [execOp,resolve,e1,e2,invoke,builtin,hr]
  · obtain ⟨b2,o2,c2,rfl,hr⟩:=hw.some h0
    exact CV hx hy ht hs hz hb hzs hown htk (hc b2 o2 (fun j v hv=>hr j v hv)) hw.1 h1 h0 hmax hby
end Go.Eng
namespace Go.Eng
variable {C : Cx} {D : List Deferred} {R H : List PH} {L : Env} {K : List It}
section
variable {dst : Option Tmp} {ty : TypeId} {pos : String} {aft : Array Edge} {g : Option (Nat × Bool)}
variable {t yT : TypeId} {x y : Operand}
theorem FZ {a b : Bool} (h1 : evalE L x = some (.bool a)) (h2 : evalE L y = some (.bool b)) (ht : C.P.underlying t = some .bool) : Quiet C R H L ⟨dst, .binOp .eql t x y yT, ty, pos, aft, g⟩ (.bool (a == b)) :=
  ⟨by intro c; simp, fun ac w hx _ => by
    have e1 := hx x (by simp [Op.operands]) _ h1
    have e2 := hx y (by simp [Op.operands]) _ h2
    have h3 := run_equalIn_bool' (P := C.P) w 9999 t a b ht
    simp only [Nat.reduceAdd] at h3
    simp [execOp, e1, e2, eqGuard, binOp, Op.equal, Op.maxDepth, h3]⟩
theorem E2 {a b : Bool} (h1 : evalE L x = some (.bool a)) (h2 : evalE L y = some (.bool b)) (ht : C.P.underlying t = some .bool) : Quiet C R H L ⟨dst, .binOp .neq t x y yT, ty, pos, aft, g⟩ (.bool (!(a == b))) :=
  ⟨by intro c; simp, fun ac w hx _ => by
    have e1 := hx x (by simp [Op.operands]) _ h1
    have e2 := hx y (by simp [Op.operands]) _ h2
    have h3 := run_equalIn_bool' (P := C.P) w 9999 t a b ht
    simp only [Nat.reduceAdd] at h3
    simp [execOp, e1, e2, eqGuard, binOp, Op.equal, Op.maxDepth, h3]⟩
def fldI (P : Program) (k : Nat) (f : Field) : Bool := f.name != "_" && f.offset == k && (match P.underlying f.type with | some (.int .i64) => true | _ => false)
def fldsI (P : Program) : Nat → List Field → Bool
  | _, [] => true
  | k, f :: fs => fldI P k f && fldsI P (k + 1) fs
def intsP (P : Program) (t : TypeId) (n : Nat) : Bool := match P.underlying t with
  | some (.struct fs) => fs.size == n && fldsI P 0 fs.toList
  | _ => false
theorem eqFields_ints {P : Program} (w : World) (d : Nat) (l m : List Int) : ∀ (fs : List Field) (k : Nat), fldsI P k fs = true → k + fs.length = l.length → l.length = m.length →
    (Op.eqFields (d + 1) (l.map int).toArray (m.map int).toArray fs).run P w = .ok (decide (l.drop k = m.drop k)) w
  | [], k, _, h, h2 => by
    rw [List.drop_of_length_le (by simp at h; omega), List.drop_of_length_le (by simp at h; omega)]
    simp [Op.eqFields]
  | f :: fs, k, hf, h, h2 => by
    simp only [fldsI, fldI, Bool.and_eq_true, bne_iff_ne, ne_eq, beq_iff_eq] at hf
    obtain ⟨⟨⟨h3, h4⟩, h5⟩, h6⟩ := hf
    have hu : P.underlying f.type = some (.int .i64) := by
      split at h5
      · assumption
      · simp at h5
    have ih := eqFields_ints w d l m fs (k + 1) h6 (by simp at h; omega) h2
    have hk : k < l.length := by simp at h; omega
    have hk2 : k < m.length := by omega
    have hp : ∀ (q : List Int) (hq : k < q.length), (part f.type (q.map int).toArray f.offset).run P w = .ok (int q[k]) w := fun q hq => by
      have hag : aggP P f.type = some false := by simp [aggP, hu]
      simp [part, run_isAgg hag, h4, hq]
    have hd : decide (l.drop k = m.drop k) = (decide (l[k] = m[k]) && decide (l.drop (k + 1) = m.drop (k + 1))) := by
      rw [List.drop_eq_getElem_cons hk, List.drop_eq_getElem_cons hk2, Bool.eq_iff_iff];simp only [List.cons.injEq, decide_eq_true_eq, Bool.and_eq_true]
    rw [hd]
    have he := run_equalIn_int (P := P) w d f.type .i64 .i64 l[k] m[k] hu
    simp only [Op.eqFields, h3, not_false_eq_true, if_true, Sem.run_bind, hp l hk, hp m hk2, Result.andThen_ok, he, ne_eq]
    by_cases hkm : l[k] = m[k]
    · simp only [hkm, beq_self_eq_true, Bool.not_true, Bool.false_eq_true, if_false, ih, decide_true, Bool.true_and]
    · have : (l[k] == m[k]) = false := by simpa using hkm
      simp only [this, hkm, Bool.not_false, if_true, Sem.run_pure, decide_false, Bool.false_and]
theorem intsP_of {P : Program} {n : Nat} (h : intsP P t n = true) : ∃ fs : Array Field, P.underlying t = some (.struct fs) ∧ fs.size = n ∧ fldsI P 0 fs.toList = true := by
  unfold intsP at h
  split at h
  · rename_i fs hu
    simp only [Bool.and_eq_true, beq_iff_eq] at h;exact ⟨fs, hu, h.1, h.2⟩
  · simp at h
theorem run_eqInts {P : Program} (w : World) {l m : List Int} {n : Nat} (hi : intsP P t n = true) (hp : P.stoodInHeld t = false) (hl : l.length = n) (hm : m.length = n) : (Op.equalIn 10000 t (.agg (l.map int).toArray) (.agg (m.map int).toArray)).run P w = .ok (decide (l = m)) w := by
  obtain ⟨fs, hu, hs, hf⟩ := intsP_of hi
  have hfo : P.fieldsOf t = fs := by simp [Program.fieldsOf, hu]
  have h1 := run_equalIn_struct (P := P) w 9999 t (l.map int).toArray (m.map int).toArray (by rw [hfo]; exact hu) hp
  have h2 := eqFields_ints (P := P) w 9998 l m fs.toList 0 hf (by simp [hs, hl]) (by omega)
  rw [hfo] at h1;simp only [Nat.reduceAdd] at h1 h2;rw [h1, h2]; simp
theorem q_eqS (l m : List Int) {n : Nat} (h1 : evalE L x = some (.agg (l.map int).toArray)) (h2 : evalE L y = some (.agg (m.map int).toArray)) (hi : intsP C.P t n = true) (hp : C.P.stoodInHeld t = false) (hg : C.P.eqGuardType C.P.depth t = false) (hl : l.length = n) (hm : m.length = n) :
    Quiet C R H L ⟨dst, .binOp .eql t x y yT, ty, pos, aft, g⟩ (.bool (decide (l = m))) :=
  ⟨by intro c; simp, fun ac w hx _ => by
    have e1 := hx x (by simp [Op.operands]) _ h1
    have e2 := hx y (by simp [Op.operands]) _ h2
    have h3 := run_eql_struct (P := C.P) w t (l.map int).toArray (m.map int).toArray
    rw [run_eqInts w hi hp hl hm] at h3
    have h4 := run_eqGuard_agg (P := C.P) w .eql t x y (l.map int).toArray (m.map int).toArray hg
    simp [execOp, e1, e2, h3, h4]⟩
theorem q_neS (l m : List Int) {n : Nat} (h1 : evalE L x = some (.agg (l.map int).toArray)) (h2 : evalE L y = some (.agg (m.map int).toArray)) (hi : intsP C.P t n = true) (hp : C.P.stoodInHeld t = false) (hg : C.P.eqGuardType C.P.depth t = false) (hl : l.length = n) (hm : m.length = n) :
    Quiet C R H L ⟨dst, .binOp .neq t x y yT, ty, pos, aft, g⟩ (.bool (!decide (l = m))) :=
  ⟨by intro c; simp, fun ac w hx _ => by
    have e1 := hx x (by simp [Op.operands]) _ h1
    have e2 := hx y (by simp [Op.operands]) _ h2
    have h3 := run_neq_struct (P := C.P) w t (l.map int).toArray (m.map int).toArray
    rw [run_eqInts w hi hp hl hm] at h3
    have h4 := run_eqGuard_agg (P := C.P) w .neq t x y (l.map int).toArray (m.map int).toArray hg
    simp [execOp, e1, e2, h3, h4]⟩
end
end Go.Eng
namespace Go.Eng
open Go.ChangeShapes Go.WideShapes Go.RowKit
def heapPH (w : World) : PH := fun b => w.heap[b]?
theorem sat_heap (w : World) : Sat (Bs.of w) [heapPH w] [] w :=
  ⟨⟨Nat.le_refl _, rfl, rfl, rfl, Nat.le_refl _⟩, by intro ρ hρ; simp at hρ; subst hρ; exact fun b o h => h, by simp, List.Pairwise.nil, by simp⟩
theorem rdc_heap {w : World} {b o : Nat} {v : Value} (h : w.cell? ⟨b, o, none⟩ = some v) : rdc (heapPH w) b o = some v := by
  unfold World.cell? at h;unfold rdc heapPH
  cases e : w.heap[b]? with
  | none => simp [e] at h
  | some ob => cases ob <;> simp_all
theorem cell_spot {w : World} {a : Addr} {v : Value} (h : w.cell? a = some v) : a.spot = none := by
  unfold World.cell? at h
  split at h
  · split at h
    · simp at h
    · rename_i hs; simpa using hs
  · simp at h
theorem law_calls {P : Program} {f : FuncId} {fn : Func} {c : Code} {args : List Value} {W : World} (hf : P.funcs[f]? = some fn) (hb : fn.body = some c) (hname : (fn.name == "runtime.NumGoroutine") = false)
    (hs : Ans P (fv f) args [heapPH W] (fun v => v = .bool true)) : Calls P f args.toArray W (fun e W' => e = .returned (.bool true) ∧ Below W.heap.size W W') := by
  have h := hs (Bs.of W) W (sat_heap W)
  unfold CallsV at h
  have hrun : ((do let d ← Deferred.ofValue (fv f) args.toArray; invoke d.target d.args : Sem Next).run P W) = .ok (.enter f args.toArray) W := by
    have hname' : ¬ fn.name = "runtime.NumGoroutine" := by simpa using hname
    simp [Deferred.ofValue, invoke, callFunc, program, Sem.run, bind, Sem.bind, pure, hf, hb, hname']
  rw [hrun] at h;refine callsIn_wide.1 (CallsIn.mono h ?_);rintro e W' ⟨v, rfl, H', ⟨rfl, rfl⟩, hu⟩
  exact ⟨rfl, hu.size.2.1, hu.size.2.2.2.1, hu.size.2.2.1, hu.size.1, fun k hk => hu.keep k hk (by simp)⟩
def RdT (P : Program) (W : World) (t : TypeId) (cs : List Value) : Prop := ∃ (H : Type) (enc : TypeId × Value → H) (fuel : Nat) (x : DataW H × List MemPlace), DataW.trod enc P W 0 (fun _ => true) true fuel t cs = some x
section
variable {P : Program} {W : World} {t : TypeId} {cs : List Value}
theorem RdT.of {H : Type} {enc : TypeId × Value → H} {v : Value} {d : DataW H} {p : List MemPlace} (h : DataW.Trod enc P W 0 (fun _ => true) true t v d p) : RdT P W t v.cells.toList := by
  obtain ⟨fuel, hf⟩ := h
  exact ⟨H, enc, fuel, _, hf⟩
theorem RdT.num {k : IntKind} (ht : P.underlying t = some (.int k)) (h : RdT P W t cs) : ∃ n, cs = [.int k n] ∧ (Lit.int k n).wf = true := by
  obtain ⟨H, enc, fuel, x, h⟩ := h
  obtain ⟨n, h1, _, h2⟩ := DataW.trod_int ht h
  exact ⟨n, h1, h2⟩
theorem wf_i64 {n : Int} (h : (Lit.int .i64 n).wf = true) : In64 n := by
  simp only [Lit.wf, Bool.and_eq_true, decide_eq_true_eq] at h;exact ⟨h.1, h.2⟩
theorem RdT.i64 (ht : P.underlying t = some (.int .i64)) (h : RdT P W t cs) : ∃ n, cs = [int n] ∧ In64 n := by
  obtain ⟨n, h1, h2⟩ := h.num ht
  exact ⟨n, h1, wf_i64 h2⟩
theorem RdT.bool (ht : P.underlying t = some .bool) (h : RdT P W t cs) : ∃ b, cs = [.bool b] := by
  obtain ⟨H, enc, fuel, x, h⟩ := h
  cases fuel with
  | zero => simp [DataW.trod] at h
  | succ n =>
    unfold DataW.trod at h;rw [ht] at h
    split at h <;> simp_all
theorem RdT.str (ht : P.underlying t = some .string) (h : RdT P W t cs) : ∃ s, cs = [.string s] ∧ s.size ≤ maxLen := by
  obtain ⟨H, enc, fuel, x, h⟩ := h
  cases fuel with
  | zero => simp [DataW.trod] at h
  | succ n =>
    unfold DataW.trod at h;rw [ht] at h
    split at h <;> simp_all
theorem RdT.struct {fs : Array Field} (ht : P.underlying t = some (.struct fs)) (h : RdT P W t cs) : cs.length = P.cellsOf t ∧ ∀ (i : Nat) (f : Field), fs[i]? = some f → RdT P W f.type ((cs.drop f.offset).take (P.cellsOf f.type)) := by
  obtain ⟨H, enc, fuel, x, h⟩ := h
  obtain ⟨xs, n, _, _, hl, hlen, hf⟩ := DataW.trod_struct ht h
  refine ⟨hl, fun i f hi => ?_⟩
  have hif : i < xs.length := by rw [hlen]; exact (Array.getElem?_eq_some_iff.1 hi).1
  have := hf i f hi
  rw [List.getElem?_eq_getElem hif] at this;exact ⟨H, enc, n, _, this⟩
theorem RdT.fld1 {fs : Array Field} (ht : P.underlying t = some (.struct fs)) (h : RdT P W t cs) (i : Nat) {f : Field} (hi : fs[i]? = some f) {ty : TypeId} {o : Nat} {c : Value} (hty : f.type = ty) (ho : f.offset = o) (hc : P.cellsOf ty = 1) (hcs : cs[o]? = some c) : RdT P W ty [c] := by
  have := (h.struct ht).2 i f hi
  rw [hty, ho, hc] at this
  obtain ⟨hlt, he⟩ := List.getElem?_eq_some_iff.1 hcs
  rw [List.drop_eq_getElem_cons hlt, he] at this
  simpa using this
theorem choose_list {α : Type} (q : Nat → α → Prop) : ∀ n, (∀ i, i < n → ∃ a, q i a) → ∃ l : List α, l.length = n ∧ ∀ i a, l[i]? = some a → q i a
  | 0, _ => ⟨[], rfl, by simp⟩
  | n + 1, h => by
    obtain ⟨l, hl, hq⟩ := choose_list q n (fun i hi => h i (by omega))
    obtain ⟨a, ha⟩ := h n (by omega)
    refine ⟨l ++ [a], by simp [hl], fun i b hb => ?_⟩
    by_cases e : i < n
    · rw [List.getElem?_append_left (by omega)] at hb; exact hq i b hb
    · rw [List.getElem?_append_right (by omega)] at hb
      have hi : i - l.length = 0 := by
        have := (List.getElem?_eq_some_iff.1 hb).1
        simp at this; omega
      rw [hi] at hb
      simp at hb
      subst hb
      have : i = n := by omega
      subst this; exact ha
theorem RdT.slice {e : TypeId} {s : Nat} (ht : P.underlying t = some (.slice e)) (hs : P.cellsOf e = s) (h0 : 0 < s) (h : RdT P W t cs) :
    ∃ v p c, cs = [v] ∧ ∃ els : List (List Value), v = .slice p els.length c ∧ els.length ≤ maxLen ∧ ∀ i x, els[i]? = some x → x.length = s ∧ RdT P W e x ∧ ∃ b o, p = some ⟨b, o, none⟩ ∧ RdN (heapPH W) b (o + i * s) x := by
  obtain ⟨H, enc, fuel, x, h⟩ := h
  rcases Deep.open_slice ht h with ⟨rfl, _⟩ | ⟨a, len, cap, m, n, D, Pl, rfl, _, hlc, hcm, hm, _, hx⟩
  · exact ⟨_, none, 0, rfl, [], rfl, by simp, by simp⟩
  · have hm' : m = cap := by rw [hm]; simp
    obtain ⟨els, hl, hq⟩ := choose_list (fun i cs' => W.cells? 0 (a.add (i * P.cellsOf e)) (P.cellsOf e) = some cs' ∧ DataW.trod enc P W 0 (fun _ => true) true n e cs' = some (D i, Pl i)) len (fun i hi => hx i (by omega))
    refine ⟨_, some a, cap, rfl, els, by rw [hl], by omega, fun i y hy => ?_⟩
    obtain ⟨q1, q2⟩ := hq i y hy
    obtain ⟨_, k1, k2⟩ := World.cells?_some q1
    rw [hs] at k1 k2
    have hsp : a.spot = none := by
      have hi : i < els.length := (List.getElem?_eq_some_iff.1 hy).1
      obtain ⟨r1, _⟩ := hq 0 els[0] (List.getElem?_eq_getElem (by omega))
      obtain ⟨_, g1, g2⟩ := World.cells?_some r1
      rw [hs] at g1 g2
      have hv0 : els[0][0]? = some (els[0][0]'(by omega)) := List.getElem?_eq_getElem (by omega)
      have := cell_spot ((g2 0 h0).trans hv0)
      simpa [Addr.add] using this
    obtain ⟨b, o, sp⟩ := a
    simp only at hsp;subst hsp
    have hadd : ∀ m : Nat, (⟨b, o, none⟩ : Addr).add m = ⟨b, o + m, none⟩ := fun m => by
      unfold Addr.add
      split
      · rename_i e; rw [e]; rfl
      · rfl
    have hadd2 : ∀ m k : Nat, (⟨b, o + m, none⟩ : Addr).add k = ⟨b, o + m + k, none⟩ := fun m k => by
      unfold Addr.add
      split
      · rename_i e; rw [e]; rfl
      · rfl
    refine ⟨k1, ⟨H, enc, n, _, q2⟩, b, o, rfl, fun j v hv => ?_⟩
    have hj : j < s := by
      have := (List.getElem?_eq_some_iff.1 hv).1
      omega
    have := (k2 j hj).trans hv
    rw [hadd, hadd2] at this;exact rdc_heap this
theorem RdT.sliceE {α : Type} {enc : α → List Value} {Q : α → Prop} {e : TypeId} {s : Nat} (ht : P.underlying t = some (.slice e)) (hs : P.cellsOf e = s) (h0 : 0 < s) (hel : ∀ x, RdT P W e x → ∃ a, x = enc a ∧ Q a) (h : RdT P W t cs) :
    ∃ v, cs = [v] ∧ ∃ l : List α, SlE enc s (heapPH W) v l ∧ (∀ a ∈ l, Q a) ∧ l.length ≤ maxLen := by
  obtain ⟨v, p, c, rfl, els, rfl, hle, hx⟩ := h.slice ht hs h0
  obtain ⟨l, hl, hq⟩ := choose_list (fun i (a : α) => ∀ x, els[i]? = some x → x = enc a ∧ Q a) els.length (fun i hi => by
    obtain ⟨a, h1, h2⟩ := hel els[i] (hx i _ (List.getElem?_eq_getElem hi)).2.1
    exact ⟨a, fun x hx => by rw [List.getElem?_eq_getElem hi] at hx; obtain rfl := Option.some.inj hx; exact ⟨h1, h2⟩⟩)
  have hlen : ∀ i a, l[i]? = some a → (enc a).length = s ∧ Q a ∧ ∃ b o, p = some ⟨b, o, none⟩ ∧ RdN (heapPH W) b (o + i * s) (enc a) := fun i a ha => by
    have hi : i < els.length := by rw [← hl]; exact (List.getElem?_eq_some_iff.1 ha).1
    obtain ⟨e1, e2⟩ := hq i a ha _ (List.getElem?_eq_getElem hi)
    obtain ⟨k1, _, k3⟩ := hx i _ (List.getElem?_eq_getElem hi)
    rw [e1] at k1 k3;exact ⟨k1, e2, k3⟩
  refine ⟨_, rfl, l, ⟨?_, ?_⟩, fun a ha => ?_, by omega⟩
  · clear hq hx hle
    have : ∀ (l : List α), (∀ a ∈ l, (enc a).length = s) → (l.flatMap enc).length = l.length * s := by
      intro l
      induction l with
      | nil => simp
      | cons a l ih =>
        intro hall
        rw [List.flatMap_cons, List.length_append, ih (fun b hb => hall b (by simp [hb])), hall a (by simp), List.length_cons, Nat.add_mul]; omega
    exact this l (fun a ha => by
      obtain ⟨i, hi, e⟩ := List.getElem_of_mem ha
      exact (hlen i a (by rw [List.getElem?_eq_getElem hi, e])).1)
  · rcases Nat.eq_zero_or_pos l.length with hz | hz
    · left; refine ⟨hz, p, c, by rw [← hl, hz]⟩
    · right
      obtain ⟨_, _, b, o, rfl, _⟩ := hlen 0 l[0] (List.getElem?_eq_getElem hz)
      refine ⟨b, o, c, by rw [hl], fun j u hu => ?_⟩
      have hfl : ∀ (l' : List α) (k : Nat), (∀ i a, l'[i]? = some a → (enc a).length = s ∧ RdN (heapPH W) b (o + (k + i) * s) (enc a)) → ∀ j u, (l'.flatMap enc)[j]? = some u → rdc (heapPH W) b (o + k * s + j) = some u := by
        intro l'
        induction l' with
        | nil => intro k _ j u hu; simp at hu
        | cons a l' ih =>
          intro k hall j u hu
          have h1 := hall 0 a rfl
          rw [List.flatMap_cons] at hu
          by_cases hj : j < (enc a).length
          · rw [List.getElem?_append_left hj] at hu
            have := h1.2 j u hu
            rwa [Nat.add_zero] at this
          · rw [List.getElem?_append_right (by omega)] at hu
            have := ih (k + 1) (fun i b' hb => by
              have := hall (i + 1) b' (by simpa using hb)
              rwa [show k + (i + 1) = k + 1 + i from by omega] at this) (j - (enc a).length) u hu
            rw [h1.1] at this hj
            rwa [show o + (k + 1) * s + (j - s) = o + k * s + j from by rw [Nat.add_mul]; omega] at this
      have := hfl l 0 (fun i a ha => by
        obtain ⟨k1, _, b', o', e, k3⟩ := hlen i a ha
        simp only [Option.some.injEq, Addr.mk.injEq, and_true] at e
        obtain ⟨rfl, rfl⟩ := e
        rw [Nat.zero_add]; exact ⟨k1, k3⟩) j u hu
      rwa [Nat.zero_mul, Nat.add_zero] at this
  · obtain ⟨i, hi, e⟩ := List.getElem_of_mem ha
    exact (hlen i a (by rw [List.getElem?_eq_getElem hi, e])).2.1
theorem RdT.ints {e : TypeId} (ht : P.underlying t = some (.slice e)) (he : P.underlying e = some (.int .i64)) (hs : P.cellsOf e = 1) (h : RdT P W t cs) :
    ∃ v, cs = [v] ∧ ∃ l : List Int, IntsAt (heapPH W) v l ∧ (∀ a ∈ l, In64 a) ∧ l.length ≤ maxLen :=
  h.sliceE ht hs (by omega) (fun x hx => hx.i64 he)
end
theorem okWide_agg {P : Program} {w : World} {r : Reach} {base : Nat} {t : TypeId} {v : Value} {fs : Array Field} (ht : P.underlying t = some (.struct fs)) (h : Value.okWide P w r base t v) : ∃ cs, v = .agg cs := by
  simp only [Value.okWide, ht] at h
  obtain ⟨cs, h1, _⟩ := h
  exact ⟨cs, h1⟩
end Go.Eng
namespace Go.Eng
variable {C:Cx} {D:List Deferred} {R H:List PH} {L:Env} {K:List It}
structure RdP (ρ:PH) (b o:Nat) (vs:List Value):Prop where
  rd:RdN ρ b o vs
theorem cellsP {N:Bs} {σ:PH} {b o:Nat} {vs:List Value} (h:RdP σ b o vs) (m:Mem σ R):Cells N R H b o vs:=cellsR h.rd m
theorem rdP_sng {b k:Nat} {xs vs:List Value} {t:TypeId} {fr:Nat × Nat} (h:(xs.drop k).take vs.length=vs):RdP (sng b (.cells xs.toArray t fr)) b k vs:=⟨fun j v hv=>by
  rw [rdc_sng];rw [← h] at hv
  have hlt:=(List.getElem?_eq_some_iff.1 hv).1
  rw [List.length_take] at hlt
  rw [List.getElem?_take_of_lt (by omega),List.getElem?_drop] at hv
  simpa using hv⟩
end Go.Eng
namespace Go.Eng
variable {C:Cx} {D:List Deferred} {R H Hf:List PH} {L:Env} {K:List It} {ps ls:List Nat}
variable {all:Array Oper} {o:Oper} {d i:Nat} {v:Value} {done:List Nat}
structure GWz (C:Cx) (L:Env) (all:Array Oper) (o:Oper) (d:Nat):Prop where
  a:wantE all L o=some true
  b:o.dst=some d
  c:Nat.blt d C.M=true
theorem rsubZ {R0 R:List PH} (h:∀ ρ∈R0,ρ∈R:=by (repeat (first|exact rs_nil|(refine rs_cons ?_ ?_; (focus ((repeat (first|exact .here|apply Mem.there|apply Take.there)); first|done|fail)))|exact fun ρ hρ=>hρ|(intro ρ hρ; repeat (first|exact hρ|refine List.mem_cons_of_mem _ ?_)))); first|done|fail):∀ ρ∈R0,ρ∈R:=h
theorem envZ {k:Nat} {vs cap:List Value} {L:Env} (h:EnvA k vs cap L:=by (repeat (first|exact EnvA.nil EnvI.nil|apply EnvA.cons|apply EnvA.nil|exact EnvI.nil|apply EnvI.cons)); first|done|fail):EnvA k vs cap L:=h
theorem takesZ {H T H':List PH} (h:Takes H T H':=by (repeat (first|exact Takes.nil|(apply Takes.cons; exact (by (repeat (first|exact .here|apply Take.there)); first|done|fail)))); first|done|fail):Takes H T H':=h
theorem putiZ {ps:List Nat} {vs:List Value} {L L':Env} (h:PutI ps vs L L':=by (repeat (first|exact PutI.nil|apply PutI.cons)); first|done|fail):PutI ps vs L L':=h
theorem oneZ {vs:List Value} {p:Value→Prop} (h:∀ v∈vs,p v:=by (repeat (first|exact (fun v hv=>absurd hv List.not_mem_nil)|(refine List.forall_mem_cons.2 ⟨?_,?_⟩; (focus (first|exact rfl|assumption))))); first|done|fail):∀ v∈vs,p v:=h
theorem selZ {H H':List PH} (h:Sel H H':=by (repeat (first|exact Sel.nil|(apply Sel.cons; (focus ((repeat (first|exact .here|apply Mem.there|apply Take.there)); first|done|fail))))); first|done|fail):Sel H H':=h
theorem covZ {L L':Env} (h:Cover L L':=by (repeat (first|exact trivial|refine And.intro rfl ?_)); first|done|fail):Cover L L':=h
theorem pickZ {L L':Env} {ks:List Nat} (h:Pick L ks L':=by (repeat (first|exact Pick.nil|apply Pick.cons rfl)); first|done|fail):Pick L ks L':=h
theorem rdZ {R1 R H:List PH} (h:RdOK R1 R H:=by (repeat (first|exact RdOK.nil|(refine RdOK.consR ?_ ?_; (focus ((repeat (first|exact .here|apply Mem.there|apply Take.there)); first|done|fail)))|(refine RdOK.consH ?_ ?_; (focus ((repeat (first|exact .here|apply Mem.there|apply Take.there)); first|done|fail)))|exact (fun τ hτ=>.inl (by simp [hτ])))); first|done|fail):RdOK R1 R H:=h
theorem memZ {ρ:PH} {H:List PH} (h:Mem ρ H:=by (repeat (first|exact .here|apply Mem.there)); first|done|fail):Mem ρ H:=h
theorem takeZ {ρ:PH} {H H':List PH} (h:Take ρ H H':=by (repeat (first|exact .here|apply Take.there)); first|done|fail):Take ρ H H':=h
theorem AB {rest:List Oper} (h:JK C D R H ((d,v)::L) (.ops all rest::K)) (hq:Quiet C R H L o v:=by (apply EW; exact rfl)) (g:GWz C L all o d:=by exact ⟨rfl,rfl,rfl⟩):JK C D R H L (.ops all (o::rest)::K):=BQ hq g.a g.b g.c h
theorem AJ {rest:Pl} (h:DJ C D R Hf H ((d,v)::L) all (i::done) ps ls rest K) (ho:all[i]?=some o:=by exact rfl) (hq:Quiet C R H L o v:=by (apply EW; exact rfl)) (g:GWz C L all o d:=by exact ⟨rfl,rfl,rfl⟩) (hin:(ps.all (done.contains ·))=true:=by exact rfl):DJ C D R Hf H L all done ps ls (.q i rest) K:=CF ho hq g.a g.b g.c hin h
theorem C0 {rest:Pl} (h:DJ C D R Hf H ((d,v)::L) all (i::done) (i::ps) ls rest K) (ho:all[i]?=some o:=by exact rfl) (hq:Quiet C R Hf L o v:=by (apply EW; exact rfl)) (g:GWz C L all o d:=by exact ⟨rfl,rfl,rfl⟩):DJ C D R Hf H L all done ps ls (.p i rest) K:=F6 ho hq g.a g.b g.c h
theorem AC {rest:List Oper} (h:JK C D R H ((d,v)::L) (.ops all rest::K)) (hq:Quiet C R H L o v:=by (apply EX; exact rfl)) (g:GWz C L all o d:=by exact ⟨rfl,rfl,rfl⟩):JK C D R H L (.ops all (o::rest)::K):=BQ hq g.a g.b g.c h
theorem AP {rest:Pl} (h:DJ C D R Hf H ((d,v)::L) all (i::done) ps ls rest K) (ho:all[i]?=some o:=by exact rfl) (hq:Quiet C R H L o v:=by (apply EX; exact rfl)) (g:GWz C L all o d:=by exact ⟨rfl,rfl,rfl⟩) (hin:(ps.all (done.contains ·))=true:=by exact rfl):DJ C D R Hf H L all done ps ls (.q i rest) K:=CF ho hq g.a g.b g.c hin h
theorem AI {rest:List Oper} (h:JK C D R H ((d,v)::L) (.ops all rest::K)) (hq:Quiet C R H L o v:=by (apply DU; exact rfl; exact rfl)) (g:GWz C L all o d:=by exact ⟨rfl,rfl,rfl⟩):JK C D R H L (.ops all (o::rest)::K):=BQ hq g.a g.b g.c h
theorem A2 {rest:Pl} (h:DJ C D R Hf H ((d,v)::L) all (i::done) ps ls rest K) (ho:all[i]?=some o:=by exact rfl) (hq:Quiet C R H L o v:=by (apply DU; exact rfl; exact rfl)) (g:GWz C L all o d:=by exact ⟨rfl,rfl,rfl⟩) (hin:(ps.all (done.contains ·))=true:=by exact rfl):DJ C D R Hf H L all done ps ls (.q i rest) K:=CF ho hq g.a g.b g.c hin h
theorem AY {rest:Pl} (h:DJ C D R Hf H ((d,v)::L) all (i::done) (i::ps) ls rest K) (ho:all[i]?=some o:=by exact rfl) (hq:Quiet C R Hf L o v:=by (apply DU; exact rfl; exact rfl)) (g:GWz C L all o d:=by exact ⟨rfl,rfl,rfl⟩):DJ C D R Hf H L all done ps ls (.p i rest) K:=F6 ho hq g.a g.b g.c h
theorem AG {rest:List Oper} (h:JK C D R H ((d,v)::L) (.ops all rest::K)) (hq:Quiet C R H L o v:=by (apply FF; exact rfl; exact rfl; (first|exact cell_own (by (repeat (first|exact .here|apply Mem.there)); first|done|fail) rfl|exact cellR (by assumption) (by (repeat (first|exact .here|apply Mem.there)); first|done|fail)|exact cellH (by assumption) (by (repeat (first|exact .here|apply Mem.there)); first|done|fail)|exact cell_ints (by (repeat (first|exact .here|apply Mem.there)); first|done|fail) (by omega)|exact cell_bools (by assumption) (by (repeat (first|exact .here|apply Mem.there)); first|done|fail)|exact cell_intsR (by (repeat (first|exact .here|apply Mem.there)); first|done|fail) (by omega)|exact cell_boolsR (by assumption) (by (repeat (first|exact .here|apply Mem.there)); first|done|fail)))) (g:GWz C L all o d:=by exact ⟨rfl,rfl,rfl⟩):JK C D R H L (.ops all (o::rest)::K):=BQ hq g.a g.b g.c h
theorem AS {rest:Pl} (h:DJ C D R Hf H ((d,v)::L) all (i::done) ps ls rest K) (ho:all[i]?=some o:=by exact rfl) (hq:Quiet C R H L o v:=by (apply FF; exact rfl; exact rfl; (first|exact cell_own (by (repeat (first|exact .here|apply Mem.there)); first|done|fail) rfl|exact cellR (by assumption) (by (repeat (first|exact .here|apply Mem.there)); first|done|fail)|exact cellH (by assumption) (by (repeat (first|exact .here|apply Mem.there)); first|done|fail)|exact cell_ints (by (repeat (first|exact .here|apply Mem.there)); first|done|fail) (by omega)|exact cell_bools (by assumption) (by (repeat (first|exact .here|apply Mem.there)); first|done|fail)|exact cell_intsR (by (repeat (first|exact .here|apply Mem.there)); first|done|fail) (by omega)|exact cell_boolsR (by assumption) (by (repeat (first|exact .here|apply Mem.there)); first|done|fail)))) (g:GWz C L all o d:=by exact ⟨rfl,rfl,rfl⟩) (hin:(ps.all (done.contains ·))=true:=by exact rfl):DJ C D R Hf H L all done ps ls (.q i rest) K:=CF ho hq g.a g.b g.c hin h
theorem GQ {rest:Pl} (h:DJ C D R Hf H ((d,v)::L) all (i::done) (i::ps) ls rest K) (ho:all[i]?=some o:=by exact rfl) (hq:Quiet C R Hf L o v:=by (apply FF; exact rfl; exact rfl; (first|exact cell_own (by (repeat (first|exact .here|apply Mem.there)); first|done|fail) rfl|exact cellR (by assumption) (by (repeat (first|exact .here|apply Mem.there)); first|done|fail)|exact cellH (by assumption) (by (repeat (first|exact .here|apply Mem.there)); first|done|fail)|exact cell_ints (by (repeat (first|exact .here|apply Mem.there)); first|done|fail) (by omega)|exact cell_bools (by assumption) (by (repeat (first|exact .here|apply Mem.there)); first|done|fail)|exact cell_intsR (by (repeat (first|exact .here|apply Mem.there)); first|done|fail) (by omega)|exact cell_boolsR (by assumption) (by (repeat (first|exact .here|apply Mem.there)); first|done|fail)))) (g:GWz C L all o d:=by exact ⟨rfl,rfl,rfl⟩):DJ C D R Hf H L all done ps ls (.p i rest) K:=F6 ho hq g.a g.b g.c h
theorem AF {rest:List Oper} (h:JK C D R H ((d,v)::L) (.ops all rest::K)) (hq:Quiet C R H L o v:=by (apply FH; exact rfl; exact rfl)) (g:GWz C L all o d:=by exact ⟨rfl,rfl,rfl⟩):JK C D R H L (.ops all (o::rest)::K):=BQ hq g.a g.b g.c h
theorem AU {rest:Pl} (h:DJ C D R Hf H ((d,v)::L) all (i::done) ps ls rest K) (ho:all[i]?=some o:=by exact rfl) (hq:Quiet C R H L o v:=by (apply FH; exact rfl; exact rfl)) (g:GWz C L all o d:=by exact ⟨rfl,rfl,rfl⟩) (hin:(ps.all (done.contains ·))=true:=by exact rfl):DJ C D R Hf H L all done ps ls (.q i rest) K:=CF ho hq g.a g.b g.c hin h
theorem ET {rest:Pl} (h:DJ C D R Hf H ((d,v)::L) all (i::done) (i::ps) ls rest K) (ho:all[i]?=some o:=by exact rfl) (hq:Quiet C R Hf L o v:=by (apply FH; exact rfl; exact rfl)) (g:GWz C L all o d:=by exact ⟨rfl,rfl,rfl⟩):DJ C D R Hf H L all done ps ls (.p i rest) K:=F6 ho hq g.a g.b g.c h
theorem C1 {rest:List Oper} (h:JK C D R H ((d,v)::L) (.ops all rest::K)) (hq:Quiet C R H L o v:=by (apply F7; exact rfl; exact rfl)) (g:GWz C L all o d:=by exact ⟨rfl,rfl,rfl⟩):JK C D R H L (.ops all (o::rest)::K):=BQ hq g.a g.b g.c h
theorem C4 {rest:Pl} (h:DJ C D R Hf H ((d,v)::L) all (i::done) ps ls rest K) (ho:all[i]?=some o:=by exact rfl) (hq:Quiet C R H L o v:=by (apply F7; exact rfl; exact rfl)) (g:GWz C L all o d:=by exact ⟨rfl,rfl,rfl⟩) (hin:(ps.all (done.contains ·))=true:=by exact rfl):DJ C D R Hf H L all done ps ls (.q i rest) K:=CF ho hq g.a g.b g.c hin h
theorem DF {rest:List Oper} (h:JK C D R H ((d,v)::L) (.ops all rest::K)) (hq:Quiet C R H L o v:=by (apply FG; exact rfl; exact rfl)) (g:GWz C L all o d:=by exact ⟨rfl,rfl,rfl⟩):JK C D R H L (.ops all (o::rest)::K):=BQ hq g.a g.b g.c h
theorem CX {rest:Pl} (h:DJ C D R Hf H ((d,v)::L) all (i::done) ps ls rest K) (ho:all[i]?=some o:=by exact rfl) (hq:Quiet C R H L o v:=by (apply FG; exact rfl; exact rfl)) (g:GWz C L all o d:=by exact ⟨rfl,rfl,rfl⟩) (hin:(ps.all (done.contains ·))=true:=by exact rfl):DJ C D R Hf H L all done ps ls (.q i rest) K:=CF ho hq g.a g.b g.c hin h
theorem zp_fld {rest:Pl} (h:DJ C D R Hf H ((d,v)::L) all (i::done) (i::ps) ls rest K) (ho:all[i]?=some o:=by exact rfl) (hq:Quiet C R Hf L o v:=by (apply FG; exact rfl; exact rfl)) (g:GWz C L all o d:=by exact ⟨rfl,rfl,rfl⟩):DJ C D R Hf H L all done ps ls (.p i rest) K:=F6 ho hq g.a g.b g.c h
theorem D9 {rest:List Oper} (h:JK C D R H ((d,v)::L) (.ops all rest::K)) (hq:Quiet C R H L o v:=by (apply q_idx0; exact rfl; exact rfl; exact rfl; exact rfl; omega)) (g:GWz C L all o d:=by exact ⟨rfl,rfl,rfl⟩):JK C D R H L (.ops all (o::rest)::K):=BQ hq g.a g.b g.c h
theorem DO {rest:List Oper} (h:JK C D R H ((d,v)::L) (.ops all rest::K)) (hq:Quiet C R H L o v:=by (apply FI; exact rfl; exact rfl; exact rfl; exact rfl; omega)) (g:GWz C L all o d:=by exact ⟨rfl,rfl,rfl⟩):JK C D R H L (.ops all (o::rest)::K):=BQ hq g.a g.b g.c h
theorem GR {rest:Pl} (h:DJ C D R Hf H ((d,v)::L) all (i::done) ps ls rest K) (ho:all[i]?=some o:=by exact rfl) (hq:Quiet C R H L o v:=by (apply FI; exact rfl; exact rfl; exact rfl; exact rfl; omega)) (g:GWz C L all o d:=by exact ⟨rfl,rfl,rfl⟩) (hin:(ps.all (done.contains ·))=true:=by exact rfl):DJ C D R Hf H L all done ps ls (.q i rest) K:=CF ho hq g.a g.b g.c hin h
theorem CK {rest:List Oper} (h:JK C D R H ((d,v)::L) (.ops all rest::K)) (hq:Quiet C R H L o v:=by (apply F5; exact rfl; exact rfl; exact rfl; exact rfl; omega)) (g:GWz C L all o d:=by exact ⟨rfl,rfl,rfl⟩):JK C D R H L (.ops all (o::rest)::K):=BQ hq g.a g.b g.c h
theorem CR {rest:Pl} (h:DJ C D R Hf H ((d,v)::L) all (i::done) ps ls rest K) (ho:all[i]?=some o:=by exact rfl) (hq:Quiet C R H L o v:=by (apply F5; exact rfl; exact rfl; exact rfl; exact rfl; omega)) (g:GWz C L all o d:=by exact ⟨rfl,rfl,rfl⟩) (hin:(ps.all (done.contains ·))=true:=by exact rfl):DJ C D R Hf H L all done ps ls (.q i rest) K:=CF ho hq g.a g.b g.c hin h
theorem DP {rest:List Oper} (h:JK C D R H ((d,v)::L) (.ops all rest::K)) (hq:Quiet C R H L o v:=by (apply F8; exact rfl; exact rfl; exact rfl; exact rfl; omega)) (g:GWz C L all o d:=by exact ⟨rfl,rfl,rfl⟩):JK C D R H L (.ops all (o::rest)::K):=BQ hq g.a g.b g.c h
theorem DY {rest:Pl} (h:DJ C D R Hf H ((d,v)::L) all (i::done) ps ls rest K) (ho:all[i]?=some o:=by exact rfl) (hq:Quiet C R H L o v:=by (apply F8; exact rfl; exact rfl; exact rfl; exact rfl; omega)) (g:GWz C L all o d:=by exact ⟨rfl,rfl,rfl⟩) (hin:(ps.all (done.contains ·))=true:=by exact rfl):DJ C D R Hf H L all done ps ls (.q i rest) K:=CF ho hq g.a g.b g.c hin h
theorem A4 {rest:List Oper} (h:JK C D R H ((d,v)::L) (.ops all rest::K)) (hq:Quiet C R H L o v:=by (apply EY; exact rfl; exact rfl)) (g:GWz C L all o d:=by exact ⟨rfl,rfl,rfl⟩):JK C D R H L (.ops all (o::rest)::K):=BQ hq g.a g.b g.c h
theorem B7 {rest:Pl} (h:DJ C D R Hf H ((d,v)::L) all (i::done) ps ls rest K) (ho:all[i]?=some o:=by exact rfl) (hq:Quiet C R H L o v:=by (apply EY; exact rfl; exact rfl)) (g:GWz C L all o d:=by exact ⟨rfl,rfl,rfl⟩) (hin:(ps.all (done.contains ·))=true:=by exact rfl):DJ C D R Hf H L all done ps ls (.q i rest) K:=CF ho hq g.a g.b g.c hin h
theorem AR {rest:List Oper} (h:JK C D R H ((d,v)::L) (.ops all rest::K)) (hq:Quiet C R H L o v:=by (apply EZ; exact rfl; exact rfl)) (g:GWz C L all o d:=by exact ⟨rfl,rfl,rfl⟩):JK C D R H L (.ops all (o::rest)::K):=BQ hq g.a g.b g.c h
theorem BU {rest:Pl} (h:DJ C D R Hf H ((d,v)::L) all (i::done) ps ls rest K) (ho:all[i]?=some o:=by exact rfl) (hq:Quiet C R H L o v:=by (apply EZ; exact rfl; exact rfl)) (g:GWz C L all o d:=by exact ⟨rfl,rfl,rfl⟩) (hin:(ps.all (done.contains ·))=true:=by exact rfl):DJ C D R Hf H L all done ps ls (.q i rest) K:=CF ho hq g.a g.b g.c hin h
theorem BF {rest:List Oper} (h:JK C D R H ((d,v)::L) (.ops all rest::K)) (hq:Quiet C R H L o v:=by (apply GL; exact rfl; exact rfl)) (g:GWz C L all o d:=by exact ⟨rfl,rfl,rfl⟩):JK C D R H L (.ops all (o::rest)::K):=BQ hq g.a g.b g.c h
theorem CT {rest:Pl} (h:DJ C D R Hf H ((d,v)::L) all (i::done) ps ls rest K) (ho:all[i]?=some o:=by exact rfl) (hq:Quiet C R H L o v:=by (apply GL; exact rfl; exact rfl)) (g:GWz C L all o d:=by exact ⟨rfl,rfl,rfl⟩) (hin:(ps.all (done.contains ·))=true:=by exact rfl):DJ C D R Hf H L all done ps ls (.q i rest) K:=CF ho hq g.a g.b g.c hin h
theorem BC {rest:List Oper} (h:JK C D R H ((d,v)::L) (.ops all rest::K)) (hq:Quiet C R H L o v:=by (apply q_not; exact rfl)) (g:GWz C L all o d:=by exact ⟨rfl,rfl,rfl⟩):JK C D R H L (.ops all (o::rest)::K):=BQ hq g.a g.b g.c h
theorem C8 {rest:Pl} (h:DJ C D R Hf H ((d,v)::L) all (i::done) ps ls rest K) (ho:all[i]?=some o:=by exact rfl) (hq:Quiet C R H L o v:=by (apply q_not; exact rfl)) (g:GWz C L all o d:=by exact ⟨rfl,rfl,rfl⟩) (hin:(ps.all (done.contains ·))=true:=by exact rfl):DJ C D R Hf H L all done ps ls (.q i rest) K:=CF ho hq g.a g.b g.c hin h
theorem AQ {rest:List Oper} (h:JK C D R H ((d,v)::L) (.ops all rest::K)) (hq:Quiet C R H L o v:=by (apply DM; exact rfl)) (g:GWz C L all o d:=by exact ⟨rfl,rfl,rfl⟩):JK C D R H L (.ops all (o::rest)::K):=BQ hq g.a g.b g.c h
theorem AT {rest:Pl} (h:DJ C D R Hf H ((d,v)::L) all (i::done) ps ls rest K) (ho:all[i]?=some o:=by exact rfl) (hq:Quiet C R H L o v:=by (apply DM; exact rfl)) (g:GWz C L all o d:=by exact ⟨rfl,rfl,rfl⟩) (hin:(ps.all (done.contains ·))=true:=by exact rfl):DJ C D R Hf H L all done ps ls (.q i rest) K:=CF ho hq g.a g.b g.c hin h
theorem C5 {rest:Pl} (h:DJ C D R Hf H ((d,v)::L) all (i::done) (i::ps) ls rest K) (ho:all[i]?=some o:=by exact rfl) (hq:Quiet C R Hf L o v:=by (apply DM; exact rfl)) (g:GWz C L all o d:=by exact ⟨rfl,rfl,rfl⟩):DJ C D R Hf H L all done ps ls (.p i rest) K:=F6 ho hq g.a g.b g.c h
theorem BY {rest:List Oper} (h:JK C D R H ((d,v)::L) (.ops all rest::K)) (hq:Quiet C R H L o v:=by (apply q_inc; exact rfl; exact rfl; omega)) (g:GWz C L all o d:=by exact ⟨rfl,rfl,rfl⟩):JK C D R H L (.ops all (o::rest)::K):=BQ hq g.a g.b g.c h
theorem GA {rest:Pl} (h:DJ C D R Hf H ((d,v)::L) all (i::done) ps ls rest K) (ho:all[i]?=some o:=by exact rfl) (hq:Quiet C R H L o v:=by (apply q_inc; exact rfl; exact rfl; omega)) (g:GWz C L all o d:=by exact ⟨rfl,rfl,rfl⟩) (hin:(ps.all (done.contains ·))=true:=by exact rfl):DJ C D R Hf H L all done ps ls (.q i rest) K:=CF ho hq g.a g.b g.c hin h
theorem CC {rest:List Oper} (h:JK C D R H ((d,v)::L) (.ops all rest::K)) (hq:Quiet C R H L o v:=by (apply q_lt; exact rfl; exact rfl; omega)) (g:GWz C L all o d:=by exact ⟨rfl,rfl,rfl⟩):JK C D R H L (.ops all (o::rest)::K):=BQ hq g.a g.b g.c h
theorem zd_lt {rest:Pl} (h:DJ C D R Hf H ((d,v)::L) all (i::done) ps ls rest K) (ho:all[i]?=some o:=by exact rfl) (hq:Quiet C R H L o v:=by (apply q_lt; exact rfl; exact rfl; omega)) (g:GWz C L all o d:=by exact ⟨rfl,rfl,rfl⟩) (hin:(ps.all (done.contains ·))=true:=by exact rfl):DJ C D R Hf H L all done ps ls (.q i rest) K:=CF ho hq g.a g.b g.c hin h
theorem BN {rest:List Oper} (h:JK C D R H ((d,v)::L) (.ops all rest::K)) (hq:Quiet C R H L o v:=by (apply q_ltF; exact rfl; exact rfl; omega)) (g:GWz C L all o d:=by exact ⟨rfl,rfl,rfl⟩):JK C D R H L (.ops all (o::rest)::K):=BQ hq g.a g.b g.c h
theorem DZ {rest:Pl} (h:DJ C D R Hf H ((d,v)::L) all (i::done) ps ls rest K) (ho:all[i]?=some o:=by exact rfl) (hq:Quiet C R H L o v:=by (apply q_ltF; exact rfl; exact rfl; omega)) (g:GWz C L all o d:=by exact ⟨rfl,rfl,rfl⟩) (hin:(ps.all (done.contains ·))=true:=by exact rfl):DJ C D R Hf H L all done ps ls (.q i rest) K:=CF ho hq g.a g.b g.c hin h
theorem CM {rest:List Oper} (h:JK C D R H ((d,v)::L) (.ops all rest::K)) (hq:Quiet C R H L o v:=by (apply q_eq; exact rfl; exact rfl; omega)) (g:GWz C L all o d:=by exact ⟨rfl,rfl,rfl⟩):JK C D R H L (.ops all (o::rest)::K):=BQ hq g.a g.b g.c h
theorem FB {rest:Pl} (h:DJ C D R Hf H ((d,v)::L) all (i::done) ps ls rest K) (ho:all[i]?=some o:=by exact rfl) (hq:Quiet C R H L o v:=by (apply q_eq; exact rfl; exact rfl; omega)) (g:GWz C L all o d:=by exact ⟨rfl,rfl,rfl⟩) (hin:(ps.all (done.contains ·))=true:=by exact rfl):DJ C D R Hf H L all done ps ls (.q i rest) K:=CF ho hq g.a g.b g.c hin h
theorem CI {rest:List Oper} (h:JK C D R H ((d,v)::L) (.ops all rest::K)) (hq:Quiet C R H L o v:=by (apply q_eqF; exact rfl; exact rfl; omega)) (g:GWz C L all o d:=by exact ⟨rfl,rfl,rfl⟩):JK C D R H L (.ops all (o::rest)::K):=BQ hq g.a g.b g.c h
theorem E3 {rest:Pl} (h:DJ C D R Hf H ((d,v)::L) all (i::done) ps ls rest K) (ho:all[i]?=some o:=by exact rfl) (hq:Quiet C R H L o v:=by (apply q_eqF; exact rfl; exact rfl; omega)) (g:GWz C L all o d:=by exact ⟨rfl,rfl,rfl⟩) (hin:(ps.all (done.contains ·))=true:=by exact rfl):DJ C D R Hf H L all done ps ls (.q i rest) K:=CF ho hq g.a g.b g.c hin h
theorem DB {rest:List Oper} (h:JK C D R H ((d,v)::L) (.ops all rest::K)) (hq:Quiet C R H L o v:=by (apply q_ne; exact rfl; exact rfl; omega)) (g:GWz C L all o d:=by exact ⟨rfl,rfl,rfl⟩):JK C D R H L (.ops all (o::rest)::K):=BQ hq g.a g.b g.c h
theorem zd_ne {rest:Pl} (h:DJ C D R Hf H ((d,v)::L) all (i::done) ps ls rest K) (ho:all[i]?=some o:=by exact rfl) (hq:Quiet C R H L o v:=by (apply q_ne; exact rfl; exact rfl; omega)) (g:GWz C L all o d:=by exact ⟨rfl,rfl,rfl⟩) (hin:(ps.all (done.contains ·))=true:=by exact rfl):DJ C D R Hf H L all done ps ls (.q i rest) K:=CF ho hq g.a g.b g.c hin h
theorem BJ {rest:List Oper} (h:JK C D R H ((d,v)::L) (.ops all rest::K)) (hq:Quiet C R H L o v:=by (apply q_neF; exact rfl; exact rfl; omega)) (g:GWz C L all o d:=by exact ⟨rfl,rfl,rfl⟩):JK C D R H L (.ops all (o::rest)::K):=BQ hq g.a g.b g.c h
theorem EI {rest:Pl} (h:DJ C D R Hf H ((d,v)::L) all (i::done) ps ls rest K) (ho:all[i]?=some o:=by exact rfl) (hq:Quiet C R H L o v:=by (apply q_neF; exact rfl; exact rfl; omega)) (g:GWz C L all o d:=by exact ⟨rfl,rfl,rfl⟩) (hin:(ps.all (done.contains ·))=true:=by exact rfl):DJ C D R Hf H L all done ps ls (.q i rest) K:=CF ho hq g.a g.b g.c hin h
theorem C9 {rest:List Oper} (h:JK C D R H ((d,v)::L) (.ops all rest::K)) (hq:Quiet C R H L o v:=by (apply q_gt; exact rfl; exact rfl; omega)) (g:GWz C L all o d:=by exact ⟨rfl,rfl,rfl⟩):JK C D R H L (.ops all (o::rest)::K):=BQ hq g.a g.b g.c h
theorem EJ {rest:Pl} (h:DJ C D R Hf H ((d,v)::L) all (i::done) ps ls rest K) (ho:all[i]?=some o:=by exact rfl) (hq:Quiet C R H L o v:=by (apply q_gt; exact rfl; exact rfl; omega)) (g:GWz C L all o d:=by exact ⟨rfl,rfl,rfl⟩) (hin:(ps.all (done.contains ·))=true:=by exact rfl):DJ C D R Hf H L all done ps ls (.q i rest) K:=CF ho hq g.a g.b g.c hin h
theorem BP {rest:List Oper} (h:JK C D R H ((d,v)::L) (.ops all rest::K)) (hq:Quiet C R H L o v:=by (apply q_gtF; exact rfl; exact rfl; omega)) (g:GWz C L all o d:=by exact ⟨rfl,rfl,rfl⟩):JK C D R H L (.ops all (o::rest)::K):=BQ hq g.a g.b g.c h
theorem DA {rest:Pl} (h:DJ C D R Hf H ((d,v)::L) all (i::done) ps ls rest K) (ho:all[i]?=some o:=by exact rfl) (hq:Quiet C R H L o v:=by (apply q_gtF; exact rfl; exact rfl; omega)) (g:GWz C L all o d:=by exact ⟨rfl,rfl,rfl⟩) (hin:(ps.all (done.contains ·))=true:=by exact rfl):DJ C D R Hf H L all done ps ls (.q i rest) K:=CF ho hq g.a g.b g.c hin h
theorem EA {rest:List Oper} (h:JK C D R H ((d,v)::L) (.ops all rest::K)) (hq:Quiet C R H L o v:=by (apply q_le; exact rfl; exact rfl; omega)) (g:GWz C L all o d:=by exact ⟨rfl,rfl,rfl⟩):JK C D R H L (.ops all (o::rest)::K):=BQ hq g.a g.b g.c h
theorem zd_le {rest:Pl} (h:DJ C D R Hf H ((d,v)::L) all (i::done) ps ls rest K) (ho:all[i]?=some o:=by exact rfl) (hq:Quiet C R H L o v:=by (apply q_le; exact rfl; exact rfl; omega)) (g:GWz C L all o d:=by exact ⟨rfl,rfl,rfl⟩) (hin:(ps.all (done.contains ·))=true:=by exact rfl):DJ C D R Hf H L all done ps ls (.q i rest) K:=CF ho hq g.a g.b g.c hin h
theorem FV {rest:List Oper} (h:JK C D R H ((d,v)::L) (.ops all rest::K)) (hq:Quiet C R H L o v:=by (apply q_leF; exact rfl; exact rfl; omega)) (g:GWz C L all o d:=by exact ⟨rfl,rfl,rfl⟩):JK C D R H L (.ops all (o::rest)::K):=BQ hq g.a g.b g.c h
theorem zd_leF {rest:Pl} (h:DJ C D R Hf H ((d,v)::L) all (i::done) ps ls rest K) (ho:all[i]?=some o:=by exact rfl) (hq:Quiet C R H L o v:=by (apply q_leF; exact rfl; exact rfl; omega)) (g:GWz C L all o d:=by exact ⟨rfl,rfl,rfl⟩) (hin:(ps.all (done.contains ·))=true:=by exact rfl):DJ C D R Hf H L all done ps ls (.q i rest) K:=CF ho hq g.a g.b g.c hin h
theorem DG {rest:List Oper} (h:JK C D R H ((d,v)::L) (.ops all rest::K)) (hq:Quiet C R H L o v:=by (apply q_ge; exact rfl; exact rfl; omega)) (g:GWz C L all o d:=by exact ⟨rfl,rfl,rfl⟩):JK C D R H L (.ops all (o::rest)::K):=BQ hq g.a g.b g.c h
theorem FC {rest:Pl} (h:DJ C D R Hf H ((d,v)::L) all (i::done) ps ls rest K) (ho:all[i]?=some o:=by exact rfl) (hq:Quiet C R H L o v:=by (apply q_ge; exact rfl; exact rfl; omega)) (g:GWz C L all o d:=by exact ⟨rfl,rfl,rfl⟩) (hin:(ps.all (done.contains ·))=true:=by exact rfl):DJ C D R Hf H L all done ps ls (.q i rest) K:=CF ho hq g.a g.b g.c hin h
theorem DH {rest:List Oper} (h:JK C D R H ((d,v)::L) (.ops all rest::K)) (hq:Quiet C R H L o v:=by (apply q_geF; exact rfl; exact rfl; omega)) (g:GWz C L all o d:=by exact ⟨rfl,rfl,rfl⟩):JK C D R H L (.ops all (o::rest)::K):=BQ hq g.a g.b g.c h
theorem E4 {rest:Pl} (h:DJ C D R Hf H ((d,v)::L) all (i::done) ps ls rest K) (ho:all[i]?=some o:=by exact rfl) (hq:Quiet C R H L o v:=by (apply q_geF; exact rfl; exact rfl; omega)) (g:GWz C L all o d:=by exact ⟨rfl,rfl,rfl⟩) (hin:(ps.all (done.contains ·))=true:=by exact rfl):DJ C D R Hf H L all done ps ls (.q i rest) K:=CF ho hq g.a g.b g.c hin h
theorem CN {rest:List Oper} (h:JK C D R H ((d,v)::L) (.ops all rest::K)) (hq:Quiet C R H L o v:=by (apply EH; exact rfl; exact rfl; omega; omega)) (g:GWz C L all o d:=by exact ⟨rfl,rfl,rfl⟩):JK C D R H L (.ops all (o::rest)::K):=BQ hq g.a g.b g.c h
theorem CW {rest:Pl} (h:DJ C D R Hf H ((d,v)::L) all (i::done) ps ls rest K) (ho:all[i]?=some o:=by exact rfl) (hq:Quiet C R H L o v:=by (apply EH; exact rfl; exact rfl; omega; omega)) (g:GWz C L all o d:=by exact ⟨rfl,rfl,rfl⟩) (hin:(ps.all (done.contains ·))=true:=by exact rfl):DJ C D R Hf H L all done ps ls (.q i rest) K:=CF ho hq g.a g.b g.c hin h
theorem CA {rest:List Oper} (h:JK C D R H ((d,v)::L) (.ops all rest::K)) (hq:Quiet C R H L o v:=by (apply GJ; exact rfl; exact rfl; exact ⟨by omega,by omega⟩)) (g:GWz C L all o d:=by exact ⟨rfl,rfl,rfl⟩):JK C D R H L (.ops all (o::rest)::K):=BQ hq g.a g.b g.c h
theorem EL {rest:Pl} (h:DJ C D R Hf H ((d,v)::L) all (i::done) ps ls rest K) (ho:all[i]?=some o:=by exact rfl) (hq:Quiet C R H L o v:=by (apply GJ; exact rfl; exact rfl; exact ⟨by omega,by omega⟩)) (g:GWz C L all o d:=by exact ⟨rfl,rfl,rfl⟩) (hin:(ps.all (done.contains ·))=true:=by exact rfl):DJ C D R Hf H L all done ps ls (.q i rest) K:=CF ho hq g.a g.b g.c hin h
theorem DI {rest:List Oper} (h:JK C D R H ((d,v)::L) (.ops all rest::K)) (hq:Quiet C R H L o v:=by (apply GK; exact rfl; exact rfl; exact ⟨by omega,by omega⟩)) (g:GWz C L all o d:=by exact ⟨rfl,rfl,rfl⟩):JK C D R H L (.ops all (o::rest)::K):=BQ hq g.a g.b g.c h
theorem GB {rest:Pl} (h:DJ C D R Hf H ((d,v)::L) all (i::done) ps ls rest K) (ho:all[i]?=some o:=by exact rfl) (hq:Quiet C R H L o v:=by (apply GK; exact rfl; exact rfl; exact ⟨by omega,by omega⟩)) (g:GWz C L all o d:=by exact ⟨rfl,rfl,rfl⟩) (hin:(ps.all (done.contains ·))=true:=by exact rfl):DJ C D R Hf H L all done ps ls (.q i rest) K:=CF ho hq g.a g.b g.c hin h
theorem E5 {rest:List Oper} (h:JK C D R H ((d,v)::L) (.ops all rest::K)) (hq:Quiet C R H L o v:=by (apply q_mul; exact rfl; exact rfl; exact ⟨by omega,by omega⟩)) (g:GWz C L all o d:=by exact ⟨rfl,rfl,rfl⟩):JK C D R H L (.ops all (o::rest)::K):=BQ hq g.a g.b g.c h
theorem GC {rest:List Oper} (h:JK C D R H ((d,v)::L) (.ops all rest::K)) (hq:Quiet C R H L o v:=by (apply q_quo; exact rfl; exact rfl; omega; omega; omega)) (g:GWz C L all o d:=by exact ⟨rfl,rfl,rfl⟩):JK C D R H L (.ops all (o::rest)::K):=BQ hq g.a g.b g.c h
theorem zq_rem {rest:List Oper} (h:JK C D R H ((d,v)::L) (.ops all rest::K)) (hq:Quiet C R H L o v:=by (apply q_rem; exact rfl; exact rfl; omega; omega)) (g:GWz C L all o d:=by exact ⟨rfl,rfl,rfl⟩):JK C D R H L (.ops all (o::rest)::K):=BQ hq g.a g.b g.c h
theorem zd_rem {rest:Pl} (h:DJ C D R Hf H ((d,v)::L) all (i::done) ps ls rest K) (ho:all[i]?=some o:=by exact rfl) (hq:Quiet C R H L o v:=by (apply q_rem; exact rfl; exact rfl; omega; omega)) (g:GWz C L all o d:=by exact ⟨rfl,rfl,rfl⟩) (hin:(ps.all (done.contains ·))=true:=by exact rfl):DJ C D R Hf H L all done ps ls (.q i rest) K:=CF ho hq g.a g.b g.c hin h
theorem AV {rest:List Oper} (h:JK C D R H ((d,v)::L) (.ops all rest::K)) (hq:Quiet C R H L o v:=by (apply CH; exact rfl; exact rfl; (first|(exact cells_own (by (repeat (first|exact .here|apply Mem.there)); first|done|fail); exact rfl)|(exact cellsR (by assumption) (by (repeat (first|exact .here|apply Mem.there)); first|done|fail); exact rfl)|(exact cellsH (by assumption) (by (repeat (first|exact .here|apply Mem.there)); first|done|fail); exact rfl)|(exact cellsP (by assumption) (by (repeat (first|exact .here|apply Mem.there)); first|done|fail); exact rfl)))) (g:GWz C L all o d:=by exact ⟨rfl,rfl,rfl⟩):JK C D R H L (.ops all (o::rest)::K):=BQ hq g.a g.b g.c h
theorem B8 {rest:Pl} (h:DJ C D R Hf H ((d,v)::L) all (i::done) ps ls rest K) (ho:all[i]?=some o:=by exact rfl) (hq:Quiet C R H L o v:=by (apply CH; exact rfl; exact rfl; (first|(exact cells_own (by (repeat (first|exact .here|apply Mem.there)); first|done|fail); exact rfl)|(exact cellsR (by assumption) (by (repeat (first|exact .here|apply Mem.there)); first|done|fail); exact rfl)|(exact cellsH (by assumption) (by (repeat (first|exact .here|apply Mem.there)); first|done|fail); exact rfl)|(exact cellsP (by assumption) (by (repeat (first|exact .here|apply Mem.there)); first|done|fail); exact rfl)))) (g:GWz C L all o d:=by exact ⟨rfl,rfl,rfl⟩) (hin:(ps.all (done.contains ·))=true:=by exact rfl):DJ C D R Hf H L all done ps ls (.q i rest) K:=CF ho hq g.a g.b g.c hin h
theorem DS {rest:Pl} (h:DJ C D R Hf H ((d,v)::L) all (i::done) (i::ps) ls rest K) (ho:all[i]?=some o:=by exact rfl) (hq:Quiet C R Hf L o v:=by (apply CH; exact rfl; exact rfl; (first|(exact cells_own (by (repeat (first|exact .here|apply Mem.there)); first|done|fail); exact rfl)|(exact cellsR (by assumption) (by (repeat (first|exact .here|apply Mem.there)); first|done|fail); exact rfl)|(exact cellsH (by assumption) (by (repeat (first|exact .here|apply Mem.there)); first|done|fail); exact rfl)|(exact cellsP (by assumption) (by (repeat (first|exact .here|apply Mem.there)); first|done|fail); exact rfl)))) (g:GWz C L all o d:=by exact ⟨rfl,rfl,rfl⟩):DJ C D R Hf H L all done ps ls (.p i rest) K:=F6 ho hq g.a g.b g.c h
theorem GD {rest:List Oper} (h:JK C D R H ((d,v)::L) (.ops all rest::K)) (hq:Quiet C R H L o v:=by (apply q_min; exact rfl; exact rfl)) (g:GWz C L all o d:=by exact ⟨rfl,rfl,rfl⟩):JK C D R H L (.ops all (o::rest)::K):=BQ hq g.a g.b g.c h
theorem zd_min {rest:Pl} (h:DJ C D R Hf H ((d,v)::L) all (i::done) ps ls rest K) (ho:all[i]?=some o:=by exact rfl) (hq:Quiet C R H L o v:=by (apply q_min; exact rfl; exact rfl)) (g:GWz C L all o d:=by exact ⟨rfl,rfl,rfl⟩) (hin:(ps.all (done.contains ·))=true:=by exact rfl):DJ C D R Hf H L all done ps ls (.q i rest) K:=CF ho hq g.a g.b g.c hin h
theorem GE {rest:List Oper} (h:JK C D R H ((d,v)::L) (.ops all rest::K)) (hq:Quiet C R H L o v:=by (apply q_max; exact rfl; exact rfl)) (g:GWz C L all o d:=by exact ⟨rfl,rfl,rfl⟩):JK C D R H L (.ops all (o::rest)::K):=BQ hq g.a g.b g.c h
theorem GF {rest:Pl} (h:DJ C D R Hf H ((d,v)::L) all (i::done) ps ls rest K) (ho:all[i]?=some o:=by exact rfl) (hq:Quiet C R H L o v:=by (apply q_max; exact rfl; exact rfl)) (g:GWz C L all o d:=by exact ⟨rfl,rfl,rfl⟩) (hin:(ps.all (done.contains ·))=true:=by exact rfl):DJ C D R Hf H L all done ps ls (.q i rest) K:=CF ho hq g.a g.b g.c hin h
theorem B0 {rest:List Oper} (h:JK C D R H ((d,v)::L) (.ops all rest::K)) (hq:Quiet C R H L o v:=by (apply E8; exact rfl; exact rfl)) (g:GWz C L all o d:=by exact ⟨rfl,rfl,rfl⟩):JK C D R H L (.ops all (o::rest)::K):=BQ hq g.a g.b g.c h
theorem EM {rest:List Oper} (h:JK C D R H ((d,v)::L) (.ops all rest::K)) (hq:Quiet C R H L o v:=by (apply FZ; exact rfl; exact rfl; exact rfl)) (g:GWz C L all o d:=by exact ⟨rfl,rfl,rfl⟩):JK C D R H L (.ops all (o::rest)::K):=BQ hq g.a g.b g.c h
theorem EB {rest:List Oper} (h:JK C D R H ((d,v)::L) (.ops all rest::K)) (hq:Quiet C R H L o v:=by (apply GP; exact rfl; exact rfl; exact rfl; exact ⟨by omega,by omega⟩)) (g:GWz C L all o d:=by exact ⟨rfl,rfl,rfl⟩):JK C D R H L (.ops all (o::rest)::K):=BQ hq g.a g.b g.c h
theorem EN {rest:List Oper} (h:JK C D R H ((d,v)::L) (.ops all rest::K)) (hq:Quiet C R H L o v:=by (apply q_cap; exact rfl; exact rfl)) (g:GWz C L all o d:=by exact ⟨rfl,rfl,rfl⟩):JK C D R H L (.ops all (o::rest)::K):=BQ hq g.a g.b g.c h
theorem EC {rest:List Oper} (h:JK C D R H ((d,v)::L) (.ops all rest::K)) (hq:Quiet C R H L o v:=by (apply ES; exact rfl; exact rfl; exact rfl; exact rfl; omega)) (g:GWz C L all o d:=by exact ⟨rfl,rfl,rfl⟩):JK C D R H L (.ops all (o::rest)::K):=BQ hq g.a g.b g.c h
theorem F0 {rest:Pl} (h:DJ C D R Hf H ((d,v)::L) all (i::done) ps ls rest K) (ho:all[i]?=some o:=by exact rfl) (hq:Quiet C R H L o v:=by (apply ES; exact rfl; exact rfl; exact rfl; exact rfl; omega)) (g:GWz C L all o d:=by exact ⟨rfl,rfl,rfl⟩) (hin:(ps.all (done.contains ·))=true:=by exact rfl):DJ C D R Hf H L all done ps ls (.q i rest) K:=CF ho hq g.a g.b g.c hin h
theorem C6 {rest:List Oper} (h:JK C D R H ((d,v)::L) (.ops all rest::K)) (hq:Quiet C R H L o v:=by (apply D6; exact rfl; exact rfl; exact rfl; exact rfl; omega)) (g:GWz C L all o d:=by exact ⟨rfl,rfl,rfl⟩):JK C D R H L (.ops all (o::rest)::K):=BQ hq g.a g.b g.c h
theorem C7 {rest:Pl} (h:DJ C D R Hf H ((d,v)::L) all (i::done) ps ls rest K) (ho:all[i]?=some o:=by exact rfl) (hq:Quiet C R H L o v:=by (apply D6; exact rfl; exact rfl; exact rfl; exact rfl; omega)) (g:GWz C L all o d:=by exact ⟨rfl,rfl,rfl⟩) (hin:(ps.all (done.contains ·))=true:=by exact rfl):DJ C D R Hf H L all done ps ls (.q i rest) K:=CF ho hq g.a g.b g.c hin h
theorem B5 {rest:List Oper} (h:JK C D R H ((d,v)::L) (.ops all rest::K)) (hq:Quiet C R H L o v:=by (apply FM; exact rfl; exact rfl; exact (by (repeat (first|exact Bld.nil|apply Bld.put rfl rfl rfl|apply Bld.keep rfl)); first|done|fail))) (g:GWz C L all o d:=by exact ⟨rfl,rfl,rfl⟩):JK C D R H L (.ops all (o::rest)::K):=BQ hq g.a g.b g.c h
theorem DT {rest:Pl} (h:DJ C D R Hf H ((d,v)::L) all (i::done) ps ls rest K) (ho:all[i]?=some o:=by exact rfl) (hq:Quiet C R H L o v:=by (apply FM; exact rfl; exact rfl; exact (by (repeat (first|exact Bld.nil|apply Bld.put rfl rfl rfl|apply Bld.keep rfl)); first|done|fail))) (g:GWz C L all o d:=by exact ⟨rfl,rfl,rfl⟩) (hin:(ps.all (done.contains ·))=true:=by exact rfl):DJ C D R Hf H L all done ps ls (.q i rest) K:=CF ho hq g.a g.b g.c hin h
theorem A6 {rest:List Oper} {post:Value→List PH→Prop} (h:∀ u H',post u H'→JK C D R H' ((d,u)::L) (.ops all rest::K)) (hl:Loud C R H L o post:=by (apply DD; exact rfl)) (g:GWz C L all o d:=by exact ⟨rfl,rfl,rfl⟩):JK C D R H L (.ops all (o::rest)::K):=BK hl g.a g.b g.c h
theorem BZ {rest:Pl} {post:Value→List PH→Prop} (h:∀ v H',post v H'→DJ C D R Hf H' ((d,v)::L) all (i::done) ps (i::ls) rest K) (ho:all[i]?=some o:=by exact rfl) (hl:Loud C R H L o post:=by (apply DD; exact rfl)) (g:GWz C L all o d:=by exact ⟨rfl,rfl,rfl⟩) (hsub:∀ v H',post v H'→∀ w,Sat C.N R H' w→Sat C.N R H w:=by (rintro _ _ ⟨b,rfl,rfl⟩ w hw; exact hw.tail)):ActOK C D R Hf H L all done ps ls i .e rest K:=a_e ho hl g.a g.b g.c hsub h
theorem BV {rest:Pl} {post:Value→List PH→Prop} (h:∀ v H',post v H'→DJ C D R Hf H' ((d,v)::L) all (i::done) ps (i::ls) rest K) (ho:all[i]?=some o:=by exact rfl) (hl:Loud C R H L o post:=by (apply DD; exact rfl)) (g:GWz C L all o d:=by exact ⟨rfl,rfl,rfl⟩) (hsub:∀ v H',post v H'→∀ w,Sat C.N R H' w→Sat C.N R H w:=by (rintro _ _ ⟨b,rfl,rfl⟩ w hw; exact hw.tail)):DJ C D R Hf H L all done ps ls (.l i .e rest) K:=BL (a_e ho hl g.a g.b g.c hsub h)
theorem CQ {rest:List Oper} {post:Value→List PH→Prop} (h:∀ u H',post u H'→JK C D R H' ((d,u)::L) (.ops all rest::K)) (hl:Loud C R H L o post:=by (apply FY; exact rfl; exact rfl)) (g:GWz C L all o d:=by exact ⟨rfl,rfl,rfl⟩):JK C D R H L (.ops all (o::rest)::K):=BK hl g.a g.b g.c h
theorem BS {rest:List Oper} {post:Value→List PH→Prop} (h:∀ u H',post u H'→JK C D R H' ((d,u)::L) (.ops all rest::K)) (hl:Loud C R H L o post:=by (apply B6; exact rfl; exact rfl; exact rfl; exact rfl; exact rfl; exact (by (repeat (first|exact (fun v hv=>absurd hv List.not_mem_nil)|(refine List.forall_mem_cons.2 ⟨?_,?_⟩; (focus (first|exact rfl|assumption))))); first|done|fail); exact (by (repeat (first|exact Flat.nil|apply Flat.one rfl|apply Flat.agg2|apply Flat.agg3|apply Flat.agg1|apply Flat.agg4|apply Flat.agg5)); first|done|fail); exact rfl)) (g:GWz C L all o d:=by exact ⟨rfl,rfl,rfl⟩):JK C D R H L (.ops all (o::rest)::K):=BK hl g.a g.b g.c h
theorem ED {rest:Pl} {post:Value→List PH→Prop} (h:∀ v H',post v H'→DJ C D R Hf H' ((d,v)::L) all (i::done) ps (i::ls) rest K) (ho:all[i]?=some o:=by exact rfl) (hl:Loud C R H L o post:=by (apply B6; exact rfl; exact rfl; exact rfl; exact rfl; exact rfl; exact (by (repeat (first|exact (fun v hv=>absurd hv List.not_mem_nil)|(refine List.forall_mem_cons.2 ⟨?_,?_⟩; (focus (first|exact rfl|assumption))))); first|done|fail); exact (by (repeat (first|exact Flat.nil|apply Flat.one rfl|apply Flat.agg2|apply Flat.agg3|apply Flat.agg1|apply Flat.agg4|apply Flat.agg5)); first|done|fail); exact rfl)) (g:GWz C L all o d:=by exact ⟨rfl,rfl,rfl⟩) (hsub:∀ v H',post v H'→∀ w,Sat C.N R H' w→Sat C.N R H w:=by (rintro _ _ ⟨b,rfl,rfl⟩ w hw; exact hw.tail)):ActOK C D R Hf H L all done ps ls i .e rest K:=a_e ho hl g.a g.b g.c hsub h
theorem EE {rest:Pl} {post:Value→List PH→Prop} (h:∀ v H',post v H'→DJ C D R Hf H' ((d,v)::L) all (i::done) ps (i::ls) rest K) (ho:all[i]?=some o:=by exact rfl) (hl:Loud C R H L o post:=by (apply B6; exact rfl; exact rfl; exact rfl; exact rfl; exact rfl; exact (by (repeat (first|exact (fun v hv=>absurd hv List.not_mem_nil)|(refine List.forall_mem_cons.2 ⟨?_,?_⟩; (focus (first|exact rfl|assumption))))); first|done|fail); exact (by (repeat (first|exact Flat.nil|apply Flat.one rfl|apply Flat.agg2|apply Flat.agg3|apply Flat.agg1|apply Flat.agg4|apply Flat.agg5)); first|done|fail); exact rfl)) (g:GWz C L all o d:=by exact ⟨rfl,rfl,rfl⟩) (hsub:∀ v H',post v H'→∀ w,Sat C.N R H' w→Sat C.N R H w:=by (rintro _ _ ⟨b,rfl,rfl⟩ w hw; exact hw.tail)):DJ C D R Hf H L all done ps ls (.l i .e rest) K:=BL (a_e ho hl g.a g.b g.c hsub h)
theorem DC {rest:List Oper} {post:Value→List PH→Prop} (h:∀ u H',post u H'→JK C D R H' ((d,u)::L) (.ops all rest::K)) (hl:Loud C R H L o post:=by (apply BM; exact rfl)) (g:GWz C L all o d:=by exact ⟨rfl,rfl,rfl⟩):JK C D R H L (.ops all (o::rest)::K):=BK hl g.a g.b g.c h
theorem GS {rest:Pl} {post:Value→List PH→Prop} (h:∀ v H',post v H'→DJ C D R Hf H' ((d,v)::L) all (i::done) ps (i::ls) rest K) (ho:all[i]?=some o:=by exact rfl) (hl:Loud C R H L o post:=by (apply BM; exact rfl)) (g:GWz C L all o d:=by exact ⟨rfl,rfl,rfl⟩) (hsub:∀ v H',post v H'→∀ w,Sat C.N R H' w→Sat C.N R H w:=by (rintro _ _ ⟨b,rfl,rfl⟩ w hw; exact hw.tail)):ActOK C D R Hf H L all done ps ls i .e rest K:=a_e ho hl g.a g.b g.c hsub h
theorem GT {rest:Pl} {post:Value→List PH→Prop} (h:∀ v H',post v H'→DJ C D R Hf H' ((d,v)::L) all (i::done) ps (i::ls) rest K) (ho:all[i]?=some o:=by exact rfl) (hl:Loud C R H L o post:=by (apply BM; exact rfl)) (g:GWz C L all o d:=by exact ⟨rfl,rfl,rfl⟩) (hsub:∀ v H',post v H'→∀ w,Sat C.N R H' w→Sat C.N R H w:=by (rintro _ _ ⟨b,rfl,rfl⟩ w hw; exact hw.tail)):DJ C D R Hf H L all done ps ls (.l i .e rest) K:=BL (a_e ho hl g.a g.b g.c hsub h)
theorem D0 {rest:List Oper} {post:Value→List PH→Prop} (h:∀ u H',post u H'→JK C D R H' ((d,u)::L) (.ops all rest::K)) (hl:Loud C R H L o post:=by (apply DW; exact rfl; exact rfl)) (g:GWz C L all o d:=by exact ⟨rfl,rfl,rfl⟩):JK C D R H L (.ops all (o::rest)::K):=BK hl g.a g.b g.c h
theorem AX {all:Array Oper} {o:Oper} {rest:List Oper} {post:Value→List PH→Prop} (h:∀ u H',post u H'→JK C D R H' L (.ops all rest::K)) (hl:Loud C R H L o post:=by (apply A9; exact rfl; exact rfl; exact (by (repeat (first|exact .here|apply Take.there)); first|done|fail); exact (by (repeat (first|exact (fun v hv=>absurd hv List.not_mem_nil)|(refine List.forall_mem_cons.2 ⟨?_,?_⟩; (focus (first|exact rfl|assumption))))); first|done|fail); exact rfl; exact rfl)) (hg:wantE all L o=some true:=by exact rfl) (hd:o.dst=none:=by exact rfl):JK C D R H L (.ops all (o::rest)::K):=BR hl hg hd h
theorem BA {all:Array Oper} {o:Oper} {rest:List Oper} {post:Value→List PH→Prop} (h:∀ u H',post u H'→JK C D R H' L (.ops all rest::K)) (hl:Loud C R H L o post:=by (apply E1; exact rfl; exact rfl; (first|exact rfl|assumption); exact rfl; exact (by (repeat (first|exact .here|apply Take.there)); first|done|fail); (focus (repeat (first|exact SetL.here|apply SetL.there)); done))) (hg:wantE all L o=some true:=by exact rfl) (hd:o.dst=none:=by exact rfl):JK C D R H L (.ops all (o::rest)::K):=BR hl hg hd h
theorem CO {all:Array Oper} {done:List Nat} {i:Nat} {rest:Pl} {o:Oper} {post:Value→List PH→Prop} (h:∀ v H',post v H'→DJ C D R Hf H' L all (i::done) ps (i::ls) rest K) (ho:all[i]?=some o:=by exact rfl) (hl:Loud C R H L o post:=by (apply E1; exact rfl; exact rfl; (first|exact rfl|assumption); exact rfl; exact (by (repeat (first|exact .here|apply Take.there)); first|done|fail); (focus (repeat (first|exact SetL.here|apply SetL.there)); done))) (hg:wantE all L o=some true:=by exact rfl) (hd:o.dst=none:=by exact rfl) (hsub:∀ v H',post v H'→∀ w,Sat C.N R H' w→Sat C.N R Hf w:=by (rintro _ _ ⟨_,rfl⟩ w hw; exact hw.sel (by (repeat (first|exact Sel.nil|(apply Sel.cons; (focus ((repeat (first|exact .here|apply Mem.there|apply Take.there)); first|done|fail))))); first|done|fail))):DJ C D R Hf H L all done ps ls (.l i .b rest) K:=BL (CG ho hl hg hd hsub h)
theorem BE {P:Program} {fn:Func} {N:Bs} {M t:Nat} {R R0 H H':List PH} {L:Env} {K:List It} {post:Value→List PH→Prop} {v:Value} (hp:post v H') (hr:fn.results = #[.tmp t]:=by exact rfl) (hv:look L t=some v:=by exact rfl) (hR:∀ ρ∈R0,ρ∈R:=by exact rsubZ) (hH:Sel H H':=by exact selZ):JK ⟨none,P,FnQ P fn N R0 post,N,M⟩ [] R H L (.code .ret::K):=AK (res1 hr hv) hR hH hp
abbrev P0Z:Pl:=.q 0 (.q 1 (.q 2 (.q 3 (.q 4 (.q 5 (.q 6 (.q 7 (.q 8 (.q 9 (.q 10 (.q 11 (.q 12 .nil))))))))))))
abbrev P1Z:Pl:=.q 0 (.q 1 (.q 2 (.q 3 (.q 4 (.q 5 (.q 6 (.q 7 (.q 8 (.q 9 (.q 10 .nil))))))))))
abbrev P2Z:Pl:=.q 0 (.q 1 (.q 2 (.q 3 (.q 4 (.q 5 (.q 6 (.q 7 (.q 8 (.q 9 (.q 10 (.q 11 (.q 12 (.q 13 (.q 14 (.q 15 (.q 16 (.q 17 (.q 18 (.q 19 (.q 20 (.q 21 (.q 22 (.q 23 (.q 24 (.q 25 .nil)))))))))))))))))))))))))
abbrev P3Z:Pl:=.q 0 (.q 1 (.q 2 (.q 3 (.q 4 (.q 5 (.q 6 (.q 7 (.q 8 .nil))))))))
abbrev P4Z:Pl:=.q 0 (.q 1 (.q 2 (.q 3 (.q 4 (.q 5 (.q 6 (.q 7 (.q 8 (.q 9 (.q 10 (.q 11 (.q 12 (.q 13 .nil)))))))))))))
abbrev P5Z:Pl:=.q 0 (.q 1 (.q 2 (.q 3 (.q 4 (.q 5 (.q 6 (.q 7 (.q 8 (.q 9 (.q 10 (.q 11 (.q 12 (.q 13 (.q 14 (.q 15 .nil)))))))))))))))
abbrev P6Z:Pl:=.q 0 (.q 1 (.q 2 (.q 3 (.q 4 (.q 5 (.q 6 (.q 7 (.q 8 (.q 9 (.q 10 (.q 11 (.q 12 (.q 13 (.q 14 (.q 15 (.q 16 (.q 17 (.q 18 (.q 19 .nil)))))))))))))))))))
abbrev P7Z:Pl:=.q 0 (.q 1 (.q 2 (.q 3 (.q 4 (.q 5 (.q 6 (.q 7 (.q 8 (.q 9 .nil)))))))))
theorem rdB (b:Nat) (t:TypeId) (vs:List Value):RdN (sng b (.cells vs.toArray t (0,0))) b 0 vs:=fun j v hv=>by
 rw [rdc_sng,Nat.zero_add]
 simpa using hv
theorem rdQ {ρ:PH} {b:Nat} {xs ys:List Value} (h:RdN ρ b 0 (xs ++ ys)):RdP ρ b 0 xs:=⟨fun j v hv=>h j v (by
 rw [List.getElem?_append_left (List.getElem?_eq_some_iff.1 hv).1]
 exact hv)⟩
theorem rdC {ρ:PH} {b:Nat} {vs:List Value} {v:Value} (h:RdN ρ b 0 vs) (i:Nat) (e:vs[i]?=some v:=by rfl):rdc ρ b i=some v:=by
 have:=h i v e
 rwa [Nat.zero_add] at this
structure Wg (G:Prop):Prop where
  p:G
theorem Aa {J G:Prop} (g:G) (h:Wg G→J:=by intro g;refine AD ?_;refine AA ?_;exact g.1):J:=h ⟨g⟩
theorem Aaa {J G:Prop} (g:G) (h:Wg G→J:=by intro g;refine AC ?_;refine AE ?_;exact g.1):J:=h ⟨g⟩
theorem Aab {J G:Prop} (g:G) (h:Wg G→J:=by intro g;refine Aa ?_;refine AB ?_;exact g.1):J:=h ⟨g⟩
theorem Aac {J G:Prop} (g:G) (h:Wg G→J:=by intro g;refine AM rfl rfl rfl ?_;refine AM rfl rfl rfl ?_;exact g.1):J:=h ⟨g⟩
theorem Aad {J G:Prop} (g:G) (h:Wg G→J:=by intro g;refine A3 rfl rfl rfl rfl rfl ?_;refine A3 rfl rfl rfl rfl rfl ?_;exact g.1):J:=h ⟨g⟩
theorem Aae {J G:Prop} (g:G) (h:Wg G→J:=by intro g;refine AF ?_;refine AG ?_;exact g.1):J:=h ⟨g⟩
theorem Aaf {J G:Prop} (g:G) (h:Wg G→J:=by intro g;refine AL rfl ?_;refine AN ?_;exact g.1):J:=h ⟨g⟩
theorem Aag {J G:Prop} (g:G) (h:Wg G→J:=by intro g;refine AE ?_;refine Aaf ?_;exact g.1):J:=h ⟨g⟩
theorem Aah {J G:Prop} (g:G) (h:Wg G→J:=by intro g;refine AD ?_;refine Aab ?_;exact g.1):J:=h ⟨g⟩
theorem Aai {J G:Prop} (g:G) (h:Wg G→J:=by intro g;refine AC ?_;refine Aaa ?_;exact g.1):J:=h ⟨g⟩
theorem Aaj {J G:Prop} (g:G) (h:Wg G→J:=by intro g;refine AU ?_;refine AS ?_;exact g.1):J:=h ⟨g⟩
theorem Aak {J G:Prop} (g:G) (h:Wg G→J:=by intro g;refine AB ?_;refine AB ?_;exact g.1):J:=h ⟨g⟩
theorem Aal {J G:Prop} (g:G) (h:Wg G→J:=by intro g;refine AE ?_;refine A5 rfl ?_;exact g.1):J:=h ⟨g⟩
theorem Aam {J G:Prop} (g:G) (h:Wg G→J:=by intro g;refine AP ?_;refine A7 ?_;exact g.1):J:=h ⟨g⟩
theorem Aan {J G:Prop} (g:G) (h:Wg G→J:=by intro g;refine Aa ?_;refine Aaa ?_;exact g.1):J:=h ⟨g⟩
theorem Aao {J G:Prop} (g:G) (h:Wg G→J:=by intro g;refine Aa ?_;refine Aae ?_;exact g.1):J:=h ⟨g⟩
theorem Aap {J G:Prop} (g:G) (h:Wg G→J:=by intro g;refine AB ?_;refine Aae ?_;exact g.1):J:=h ⟨g⟩
theorem Aaq {J G:Prop} (g:G) (h:Wg G→J:=by intro g;refine AI ?_;refine AI ?_;exact g.1):J:=h ⟨g⟩
theorem Aar {J G:Prop} (g:G) (h:Wg G→J:=by intro g;refine Aab ?_;refine AB ?_;exact g.1):J:=h ⟨g⟩
theorem Aas {J G:Prop} (g:G) (h:Wg G→J:=by intro g;refine AJ ?_;refine AT ?_;exact g.1):J:=h ⟨g⟩
theorem Aat {J G:Prop} (g:G) (h:Wg G→J:=by intro g;refine AE ?_;refine AD ?_;exact g.1):J:=h ⟨g⟩
theorem Aau {J G:Prop} (g:G) (h:Wg G→J:=by intro g;refine A2 ?_;refine AY ?_;exact g.1):J:=h ⟨g⟩
theorem Aav {J G:Prop} (g:G) (h:Wg G→J:=by intro g;refine Aas ?_;refine Aaj ?_;exact g.1):J:=h ⟨g⟩
theorem Aaw {J G:Prop} (g:G) (h:Wg G→J:=by intro g;refine AB ?_;refine Aaq ?_;exact g.1):J:=h ⟨g⟩
theorem Aax {J G:Prop} (g:G) (h:Wg G→J:=by intro g;refine AB ?_;refine AE ?_;exact g.1):J:=h ⟨g⟩
theorem Aay {J G:Prop} (g:G) (h:Wg G→J:=by intro g;refine AL rfl ?_;refine BT rfl ?_;exact g.1):J:=h ⟨g⟩
theorem Aaz {J G:Prop} (g:G) (h:Wg G→J:=by intro g;refine Aa ?_;refine AV ?_;exact g.1):J:=h ⟨g⟩
theorem Aa0 {J G:Prop} (g:G) (h:Wg G→J:=by intro g;refine Aac ?_;refine AM rfl rfl rfl ?_;exact g.1):J:=h ⟨g⟩
theorem Aa1 {J G:Prop} (g:G) (h:Wg G→J:=by intro g;refine Aaw ?_;refine Aai ?_;exact g.1):J:=h ⟨g⟩
theorem Aa2 {J G:Prop} (g:G) (h:Wg G→J:=by intro g;refine AQ ?_;refine AF ?_;exact g.1):J:=h ⟨g⟩
theorem Aa3 {J G:Prop} (g:G) (h:Wg G→J:=by intro g;refine AR ?_;refine Aag ?_;exact g.1):J:=h ⟨g⟩
theorem Aa4 {J G:Prop} (g:G) (h:Wg G→J:=by intro g;refine AD ?_;refine A8 ?_;exact g.1):J:=h ⟨g⟩
theorem Aa5 {J G:Prop} (g:G) (h:Wg G→J:=by intro g;refine AQ ?_;refine Aae ?_;exact g.1):J:=h ⟨g⟩
theorem Aa6 {J G:Prop} (g:G) (h:Wg G→J:=by intro g;refine A5 rfl ?_;refine AN ?_;exact g.1):J:=h ⟨g⟩
theorem Aa7 {J G:Prop} (g:G) (h:Wg G→J:=by intro g;refine Aaa ?_;refine Aah ?_;exact g.1):J:=h ⟨g⟩
theorem Aa8 {J G:Prop} (g:G) (h:Wg G→J:=by intro g;refine Aau ?_;refine BL ?_;exact g.1):J:=h ⟨g⟩
theorem Aa9 {J G:Prop} (g:G) (h:Wg G→J:=by intro g;refine BI ?_;refine AA ?_;exact g.1):J:=h ⟨g⟩
theorem Ab {J G:Prop} (g:G) (h:Wg G→J:=by intro g;refine Aad ?_;refine Aad ?_;exact g.1):J:=h ⟨g⟩
theorem Aba {J G:Prop} (g:G) (h:Wg G→J:=by intro g;refine AD ?_;refine Aao ?_;exact g.1):J:=h ⟨g⟩
theorem Abc {J G:Prop} (g:G) (h:Wg G→J:=by intro g;refine Aa9 ?_;refine BY ?_;refine Aax ?_;exact g.1):J:=h ⟨g⟩
theorem Abf {J G:Prop} (g:G) (h:Wg G→J:=by intro g;refine AB ?_;refine Aac ?_;exact g.1):J:=h ⟨g⟩
theorem Abg {J G:Prop} (g:G) (h:Wg G→J:=by intro g;refine AR ?_;refine Aap ?_;exact g.1):J:=h ⟨g⟩
theorem Abh {J G:Prop} (g:G) (h:Wg G→J:=by intro g;refine BJ ?_;refine Aag ?_;exact g.1):J:=h ⟨g⟩
theorem Abi {J G:Prop} (g:G) (h:Wg G→J:=by intro g;refine A4 ?_;refine Aaa ?_;exact g.1):J:=h ⟨g⟩
theorem Abj {J G:Prop} (g:G) (h:Wg G→J:=by intro g;refine CC ?_;refine Aat ?_;refine Aa6 ?_;refine Aa4 ?_;exact g.1):J:=h ⟨g⟩
theorem Abk {J G:Prop} (g:G) (h:Wg G→J:=by intro g;refine AP ?_;refine Aam ?_;exact g.1):J:=h ⟨g⟩
theorem Abl {J G:Prop} (g:G) (h:Wg G→J:=by intro g;refine Aak ?_;refine AB ?_;exact g.1):J:=h ⟨g⟩
theorem Abm {J G:Prop} (g:G) (h:Wg G→J:=by intro g;refine BC ?_;refine Aag ?_;exact g.1):J:=h ⟨g⟩
theorem Abn {J G:Prop} (g:G) (h:Wg G→J:=by intro g;refine Aab ?_;refine Aaa ?_;exact g.1):J:=h ⟨g⟩
theorem Abp {J G:Prop} (g:G) (h:Wg G→J:=by intro g;refine AJ ?_;refine Aaj ?_;exact g.1):J:=h ⟨g⟩
theorem Abq {J G:Prop} (g:G) (h:Wg G→J:=by intro g;refine BN ?_;refine Aat ?_;refine Aay ?_;exact g.1):J:=h ⟨g⟩
theorem Abr {J G:Prop} (g:G) (h:Wg G→J:=by intro g;refine A4 ?_;refine Aal ?_;exact g.1):J:=h ⟨g⟩
theorem Abs {J G:Prop} (g:G) (h:Wg G→J:=by intro g;refine Aa ?_;refine Abj ?_;exact g.1):J:=h ⟨g⟩
theorem Abt {J G:Prop} (g:G) (h:Wg G→J:=by intro g;refine Aax ?_;refine A8 ?_;exact g.1):J:=h ⟨g⟩
theorem Abu {J G:Prop} (g:G) (h:Wg G→J:=by intro g;refine AE ?_;refine Aab ?_;exact g.1):J:=h ⟨g⟩
theorem Abv {J G:Prop} (g:G) (h:Wg G→J:=by intro g;refine Abf ?_;refine Aac ?_;exact g.1):J:=h ⟨g⟩
theorem Abw {J G:Prop} (g:G) (h:Wg G→J:=by intro g;refine BF ?_;refine Abt ?_;exact g.1):J:=h ⟨g⟩
theorem Abx {J G:Prop} (g:G) (h:Wg G→J:=by intro g;refine A7 ?_;refine Aaf ?_;exact g.1):J:=h ⟨g⟩
theorem Aby {J G:Prop} (g:G) (h:Wg G→J:=by intro g;refine Aa ?_;refine Abq ?_;exact g.1):J:=h ⟨g⟩
theorem Abz {J G:Prop} (g:G) (h:Wg G→J:=by intro g;refine Aas ?_;refine AU ?_;exact g.1):J:=h ⟨g⟩
theorem Ab0 {J G:Prop} (g:G) (h:Wg G→J:=by intro g;refine Aan ?_;refine Aah ?_;exact g.1):J:=h ⟨g⟩
theorem Ab1 {J G:Prop} (g:G) (h:Wg G→J:=by intro g;refine Aaa ?_;refine Aab ?_;exact g.1):J:=h ⟨g⟩
theorem Ab2 {J G:Prop} (g:G) (h:Wg G→J:=by intro g;refine Aav ?_;refine Aav ?_;exact g.1):J:=h ⟨g⟩
theorem Ab3 {J G:Prop} (g:G) (h:Wg G→J:=by intro g;refine AE ?_;refine Aa ?_;exact g.1):J:=h ⟨g⟩
theorem Ab4 {J G:Prop} (g:G) (h:Wg G→J:=by intro g;refine Aaa ?_;refine Aao ?_;exact g.1):J:=h ⟨g⟩
theorem Ab5 {J G:Prop} (g:G) (h:Wg G→J:=by intro g;refine AA ?_;refine Aak ?_;exact g.1):J:=h ⟨g⟩
theorem Ab6 {J G:Prop} (g:G) (h:Wg G→J:=by intro g;refine AD ?_;refine Aaz ?_;exact g.1):J:=h ⟨g⟩
theorem Ab7 {J G:Prop} (g:G) (h:Wg G→J:=by intro g;refine Abs ?_;refine Aa ?_;exact g.1):J:=h ⟨g⟩
theorem Ab8 {J G:Prop} (g:G) (h:Wg G→J:=by intro g;refine Aaa ?_;refine AL rfl ?_;exact g.1):J:=h ⟨g⟩
theorem Ab9 {J G:Prop} (g:G) (h:Wg G→J:=by intro g;refine AB ?_;refine Aa0 ?_;exact g.1):J:=h ⟨g⟩
theorem Ac {J G:Prop} (g:G) (h:Wg G→J:=by intro g;refine Aak ?_;refine BF ?_;exact g.1):J:=h ⟨g⟩
theorem Aca {J G:Prop} (g:G) (h:Wg G→J:=by intro g;refine Aab ?_;refine BC ?_;exact g.1):J:=h ⟨g⟩
theorem Acb {J G:Prop} (g:G) (h:Wg G→J:=by intro g;refine Aau ?_;refine AY ?_;exact g.1):J:=h ⟨g⟩
theorem Acc {J G:Prop} (g:G) (h:Wg G→J:=by intro g;refine AJ ?_;refine AJ ?_;exact g.1):J:=h ⟨g⟩
theorem Acd {J G:Prop} (g:G) (h:Wg G→J:=by intro g;refine Aaa ?_;refine Aar ?_;exact g.1):J:=h ⟨g⟩
theorem Ace {J G:Prop} (g:G) (h:Wg G→J:=by intro g;refine CX ?_;refine AS ?_;exact g.1):J:=h ⟨g⟩
theorem Acf {J G:Prop} (g:G) (h:Wg G→J:=by intro g;refine AA ?_;refine AB ?_;exact g.1):J:=h ⟨g⟩
theorem Acg {J G:Prop} (g:G) (h:Wg G→J:=by intro g;refine Aa ?_;refine Aai ?_;exact g.1):J:=h ⟨g⟩
theorem Ach {J G:Prop} (g:G) (h:Wg G→J:=by intro g;refine Aan ?_;refine Aab ?_;exact g.1):J:=h ⟨g⟩
theorem Aci {J G:Prop} (g:G) (h:Wg G→J:=by intro g;refine Abg ?_;refine Aae ?_;exact g.1):J:=h ⟨g⟩
theorem Acj {J G:Prop} (g:G) (h:Wg G→J:=by intro g;refine CK ?_;refine AV ?_;exact g.1):J:=h ⟨g⟩
theorem Ack {J G:Prop} (g:G) (h:Wg G→J:=by intro g;refine Ab ?_;refine Ab ?_;exact g.1):J:=h ⟨g⟩
theorem Acl {J G:Prop} (g:G) (h:Wg G→J:=by intro g;refine A7 ?_;refine A5 rfl ?_;exact g.1):J:=h ⟨g⟩
theorem Acm {J G:Prop} (g:G) (h:Wg G→J:=by intro g;refine Aag ?_;refine Aah ?_;exact g.1):J:=h ⟨g⟩
theorem Acn {J G:Prop} (g:G) (h:Wg G→J:=by intro g;refine Abv ?_;refine Aac ?_;exact g.1):J:=h ⟨g⟩
theorem Aco {J G:Prop} (g:G) (h:Wg G→J:=by intro g;refine Aah ?_;refine Abh ?_;exact g.1):J:=h ⟨g⟩
theorem Acp {J G:Prop} (g:G) (h:Wg G→J:=by intro g;refine Aa ?_;refine AG ?_;exact g.1):J:=h ⟨g⟩
theorem Acq {J G:Prop} (g:G) (h:Wg G→J:=by intro g;refine BC ?_;refine Aak ?_;exact g.1):J:=h ⟨g⟩
theorem Acr {J G:Prop} (g:G) (h:Wg G→J:=by intro g;refine Aal ?_;refine Aa ?_;exact g.1):J:=h ⟨g⟩
theorem Acs {J G:Prop} (g:G) (h:Wg G→J:=by intro g;refine A3 rfl rfl rfl rfl rfl ?_;refine BU ?_;exact g.1):J:=h ⟨g⟩
theorem Acu {J G:Prop} (g:G) (h:Wg G→J:=by intro g;refine BP ?_;refine AR ?_;exact g.1):J:=h ⟨g⟩
theorem Acv {J G:Prop} (g:G) (h:Wg G→J:=by intro g;refine AJ ?_;refine Ack ?_;exact g.1):J:=h ⟨g⟩
theorem Acw {J G:Prop} (g:G) (h:Wg G→J:=by intro g;refine Aa2 ?_;refine AF ?_;exact g.1):J:=h ⟨g⟩
theorem Acx {J G:Prop} (g:G) (h:Wg G→J:=by intro g;refine Aaa ?_;refine Aaz ?_;exact g.1):J:=h ⟨g⟩
theorem Acy {J G:Prop} (g:G) (h:Wg G→J:=by intro g;refine C1 ?_;refine AG ?_;exact g.1):J:=h ⟨g⟩
theorem Acz {J G:Prop} (g:G) (h:Wg G→J:=by intro g;refine AD ?_;refine AD ?_;exact g.1):J:=h ⟨g⟩
theorem Ac0 {J G:Prop} (g:G) (h:Wg G→J:=by intro g;refine AB ?_;refine BF ?_;exact g.1):J:=h ⟨g⟩
theorem Ac1 {J G:Prop} (g:G) (h:Wg G→J:=by intro g;refine AE ?_;refine Aah ?_;exact g.1):J:=h ⟨g⟩
theorem Ac2 {J G:Prop} (g:G) (h:Wg G→J:=by intro g;refine BJ ?_;refine Aa3 ?_;exact g.1):J:=h ⟨g⟩
theorem Ac3 {J G:Prop} (g:G) (h:Wg G→J:=by intro g;refine AE ?_;refine Aar ?_;exact g.1):J:=h ⟨g⟩
theorem Ac4 {J G:Prop} (g:G) (h:Wg G→J:=by intro g;refine BP ?_;refine Abg ?_;exact g.1):J:=h ⟨g⟩
theorem Ac5 {J G:Prop} (g:G) (h:Wg G→J:=by intro g;refine CI ?_;refine Aag ?_;exact g.1):J:=h ⟨g⟩
theorem Ac6 {J G:Prop} (g:G) (h:Wg G→J:=by intro g;refine Aan ?_;refine Aar ?_;exact g.1):J:=h ⟨g⟩
theorem Ac7 {J G:Prop} (g:G) (h:Wg G→J:=by intro g;refine Aai ?_;refine Ab6 ?_;exact g.1):J:=h ⟨g⟩
theorem Ac8 {J G:Prop} (g:G) (h:Wg G→J:=by intro g;refine Ab7 ?_;refine Acj ?_;exact g.1):J:=h ⟨g⟩
theorem Ac9 {J G:Prop} (g:G) (h:Wg G→J:=by intro g;refine Aaj ?_;refine Aaj ?_;exact g.1):J:=h ⟨g⟩
theorem Ad {J G:Prop} (g:G) (h:Wg G→J:=by intro g;refine Aab ?_;refine Aa5 ?_;exact g.1):J:=h ⟨g⟩
theorem Ada {J G:Prop} (g:G) (h:Wg G→J:=by intro g;refine Aa1 ?_;refine Aah ?_;exact g.1):J:=h ⟨g⟩
theorem Adb {J G:Prop} (g:G) (h:Wg G→J:=by intro g;refine Aaq ?_;refine Aai ?_;exact g.1):J:=h ⟨g⟩
theorem Adc {J G:Prop} (g:G) (h:Wg G→J:=by intro g;refine Aa1 ?_;refine Aar ?_;exact g.1):J:=h ⟨g⟩
theorem Add {J G:Prop} (g:G) (h:Wg G→J:=by intro g;refine Abz ?_;refine Ace ?_;exact g.1):J:=h ⟨g⟩
end Go.Eng
namespace Go.Eng
variable {C:Cx} {D:List Deferred} {R H:List PH} {L:Env} {K:List It}
variable {dst:Option Tmp} {ty:TypeId} {pos:String} {aft:Array Edge} {g:Option (Nat × Bool)}
def ents:Nat→List (Int × Int)→List MapEntry
  | _,[]=>[]
  | i,kv::m=>⟨int kv.1,int kv.2,i⟩::ents (i+1) m
def mapO (m:List (Int × Int)):Obj:=.map (ents 0 m).toArray m.length
def midx (k:Int):List (Int × Int)→Option (Nat × Int)
  | []=>none
  | (a,v)::m=>if k=a then some (0,v) else (midx k m).map (fun p=>(p.1+1,p.2))
def mget (k:Int) (m:List (Int × Int)):Option Int:=(midx k m).map (·.2)
def mset (k v:Int):List (Int × Int)→List (Int × Int)
  | []=>[(k,v)]
  | (a,w)::m=>if k=a then (a,v)::m else (a,w)::mset k v m
theorem FP {t:TypeId}:Loud C R H L ⟨dst,.makeMap t none,ty,pos,aft,g⟩ (fun v H'=>∃ b,v=.map (some b)∧H'=sng b (mapO [])::H):=by
  refine ⟨fun a w hx hs next Q hn=>?_⟩
  refine wpIn_value (v:=.map (some w.heap.size)) (w':=w.alloc (mapO [])) (by intro c; simp) ?_ (hn _ _ _ ⟨_,rfl,rfl⟩ (hs.alloc _))
  simp [execOp,Instr.makeMap,newObj]
  rfl
theorem run_checkKey {P:Program} {w:World} {kt:TypeId} {k:Int} (e:Bool) (n:Nat) (hkt:P.underlying kt=some (.int .i64)):(Instr.checkKey e (n+1) kt (int k)).run P w=.ok () w:=by
  simp [Instr.checkKey,Go.underlying,Sem.run,hkt,int]
end Go.Eng
namespace Go.Step
structure Lv where
  a:Int
  v:Int
  deriving DecidableEq,Inhabited
def badL (l:Lv):Prop:=l.a<0∨1099511627776<l.a∨l.v < -1125899906842624∨1125899906842624<l.v
instance (l:Lv):Decidable (badL l):=by unfold badL; infer_instance
def chkL (pa pv:Int):List Lv→Int
  | []=>0
  | l::f=>if badL l then 2 else if l.a≤pa∨l.v=pv then 9 else chkL l.a l.v f
def chkS (f:List Lv):Int:=if 1000<f.length then 4 else chkL (-1) 0 f
def Asc (pa:Int):List Lv→Prop
  | []=>True
  | l::f=>pa<l.a∧l.a≤1099511627776∧(-1125899906842624≤l.v∧l.v≤1125899906842624)∧Asc l.a f
theorem chkL_asc:∀ (f:List Lv) (pa pv:Int),chkL pa pv f=0→Asc pa f
  | [],_,_,_=>trivial
  | l::f,pa,pv,h=>by
    simp only [chkL] at h
    split at h
    · simp at h
    · rename_i h1
      split at h
      · simp at h
      · rename_i h2
        unfold badL at h1
        exact ⟨by omega,by omega,⟨by omega,by omega⟩,chkL_asc f l.a l.v h⟩
theorem chkS_ok {f:List Lv} (h:chkS f=0):f.length≤1000∧Asc (-1) f:=by
  unfold chkS at h
  split at h
  · simp at h
  · exact ⟨by omega,chkL_asc f _ _ h⟩
theorem Asc.mono:∀ {f:List Lv} {p q:Int},Asc p f→q≤p→Asc q f
  | [],_,_,_,_=>trivial
  | _::_,_,_,h,hq=>⟨by have:=h.1; omega,h.2.1,h.2.2.1,h.2.2.2⟩
theorem Asc.gt:∀ {f:List Lv} {p:Int},Asc p f→∀ l∈f,p<l.a∧l.a≤1099511627776 ∧ -1125899906842624≤l.v∧l.v≤1125899906842624
  | [],_,_,l,hl=>by simp at hl
  | m::f,p,h,l,hl=>by
    simp at hl
    rcases hl with rfl|hl
    · exact ⟨h.1,h.2.1,h.2.2.1⟩
    · have h9:=h.2.2.2.gt l hl
      have:=h.1
      exact ⟨by omega,h9.2⟩
def vat (cur:Int):List Lv→Int→Int
  | [],_=>cur
  | l::f,t=>if l.a≤t then vat l.v f t else cur
def val (f:List Lv) (t:Int):Int:=vat 0 f t
theorem vat_late:∀ (f:List Lv) (cur t:Int),(∀ l,f.head?=some l→t<l.a)→vat cur f t=cur
  | [],_,_,_=>rfl
  | l::f,cur,t,h=>by
    simp only [vat]
    rw [if_neg (by have:=h l rfl; omega)]
theorem vat_mem:∀ (f:List Lv) (cur t:Int),vat cur f t=cur∨∃ l∈f,vat cur f t=l.v
  | [],_,_=>.inl rfl
  | l::f,cur,t=>by
    simp only [vat]
    split
    · rcases vat_mem f l.v t with h|⟨m,hm,h⟩
      · exact .inr ⟨l,by simp,h⟩
      · exact .inr ⟨m,by simp [hm],h⟩
    · exact .inl rfl
end Go.Step
namespace Go.Step
end Go.Step
namespace Go.Step
theorem Asc.idx:∀ {f:List Lv} {p:Int},Asc p f→∀ (i j:Nat) (x y:Lv),f[i]?=some x→f[j]?=some y→i<j→x.a<y.a
  | [],_,_,i,j,x,y,h,_,_=>by simp at h
  | l::f,p,hA,0,j+1,x,y,h1,h2,_=>by
    simp at h1; subst h1
    exact (hA.2.2.2.gt y (List.mem_of_getElem? (by simpa using h2))).1
  | l::f,p,hA,i+1,j+1,x,y,h1,h2,hij=>hA.2.2.2.idx i j x y (by simpa using h1) (by simpa using h2) (by omega)
  | l::f,p,hA,i,0,x,y,h1,h2,hij=>by omega
end Go.Step
namespace Go.Step
def AscT (pa:Int):List Lv→Prop
  | []=>True
  | l::f=>pa<l.a∧l.a≤1099511627776∧AscT l.a f
theorem Asc.t:∀ {f:List Lv} {p:Int},Asc p f→AscT p f
  | [],_,_=>trivial
  | _::_,_,h=>⟨h.1,h.2.1,h.2.2.2.t⟩
theorem AscT.gt:∀ {f:List Lv} {p:Int},AscT p f→∀ l∈f,p<l.a∧l.a≤1099511627776
  | [],_,_,l,hl=>by simp at hl
  | m::f,p,h,l,hl=>by
    simp at hl
    rcases hl with rfl|hl
    · exact ⟨h.1,h.2.1⟩
    · have h9:=h.2.2.gt l hl
      have:=h.1
      exact ⟨by omega,h9.2⟩
theorem AscT.idx:∀ {f:List Lv} {p:Int},AscT p f→∀ (i j:Nat) (x y:Lv),f[i]?=some x→f[j]?=some y→i<j→x.a<y.a
  | [],_,_,i,j,x,y,h,_,_=>by simp at h
  | l::f,p,hA,0,j+1,x,y,h1,h2,_=>by
    simp at h1; subst h1
    exact (hA.2.2.gt y (List.mem_of_getElem? (by simpa using h2))).1
  | l::f,p,hA,i+1,j+1,x,y,h1,h2,hij=>hA.2.2.idx i j x y (by simpa using h1) (by simpa using h2) (by omega)
  | l::f,p,hA,i,0,x,y,h1,h2,hij=>by omega
end Go.Step
namespace Go.Step
open Go.Lib
abbrev SA (l:List Int):Prop:=l.Pairwise (· < ·)
theorem SA.unique:∀ {l m:List Int},SA l→SA m→(∀ x,x∈l↔x∈m)→l=m
  | [],[],_,_,_=>rfl
  | [],y::m,_,_,h=>by have:=(h y).2 (by simp); simp at this
  | x::l,[],_,_,h=>by have:=(h x).1 (by simp); simp at this
  | x::l,y::m,h1,h2,h=>by
    have p1:=List.pairwise_cons.1 h1
    have p2:=List.pairwise_cons.1 h2
    have hxy:x=y:=by
      have a:=(h x).1 (by simp)
      have b:=(h y).2 (by simp)
      simp at a b
      rcases a with a|a
      · exact a
      · rcases b with b|b
        · exact b.symm
        · have:=p2.1 x a; have:=p1.1 y b; omega
    subst hxy
    rw [SA.unique p1.2 p2.2 (fun z=>?_)]
    constructor
    · intro hz
      have:=(h z).1 (by simp [hz])
      simp at this
      rcases this with rfl|this
      · have:=p1.1 z hz; omega
      · exact this
    · intro hz
      have:=(h z).2 (by simp [hz])
      simp at this
      rcases this with rfl|this
      · have:=p2.1 z hz; omega
      · exact this
theorem compact_up {d:Array Int} (hs:∀ i j,i≤j→j<d.size→d[i]! ≤ d[j]!):∀ m,m≤d.size→SA (compactUpTo d m)∧(∀ x,x∈compactUpTo d m↔∃ j,j<m∧d[j]! = x)
  | 0,_=>by simp [compactUpTo]
  | m+1,hm=>by
    obtain ⟨h1,h2⟩:=compact_up hs m (by omega)
    rw [compactUpTo_succ]
    by_cases hk:keeps d m=true
    · rw [if_pos hk]
      have hlt:∀ x∈compactUpTo d m,x<d[m]!:=by
        intro x hx
        obtain ⟨j,hj,rfl⟩:=(h2 x).1 hx
        simp only [keeps,decide_eq_true_eq] at hk
        have a:=hs j (m-1) (by omega) (by omega)
        have b:=hs (m-1) m (by omega) (by omega)
        rcases hk with hk|hk
        · omega
        · have:d[m-1]! ≠ d[m]!:=fun e=>hk e.symm
          omega
      refine ⟨List.pairwise_append.2 ⟨h1,by simp,fun x hx y hy=>by simp at hy; subst hy; exact hlt x hx⟩,fun x=>?_⟩
      rw [List.mem_append,h2]
      constructor
      · rintro (⟨j,hj,e⟩|hx)
        · exact ⟨j,by omega,e⟩
        · simp at hx; exact ⟨m,by omega,hx.symm⟩
      · rintro ⟨j,hj,e⟩
        by_cases hjm:j=m
        · subst hjm; right; simp [e]
        · left; exact ⟨j,by omega,e⟩
    · rw [if_neg hk,List.append_nil]
      simp only [keeps,decide_eq_true_eq,not_or] at hk
      refine ⟨h1,fun x=>?_⟩
      rw [h2]
      constructor
      · rintro ⟨j,hj,e⟩; exact ⟨j,by omega,e⟩
      · rintro ⟨j,hj,e⟩
        by_cases hjm:j=m
        · subst hjm
          exact ⟨j-1,by omega,by have:=Classical.not_not.1 hk.2; omega⟩
        · exact ⟨j,by omega,e⟩
theorem compact_sa {l:List Int} (h:l.Pairwise (· ≤ ·)):SA (compact l)∧∀ x,x∈compact l↔x∈l:=by
  have hs:∀ i j,i≤j→j<l.toArray.size→l.toArray[i]! ≤ l.toArray[j]!:=by
    intro i j hij hj
    simp only [List.size_toArray] at hj
    rw [getElem!_pos l.toArray i (by simp; omega),getElem!_pos l.toArray j (by simpa using hj)]
    simp only [List.getElem_toArray]
    rcases Nat.lt_or_ge i j with h1|h1
    · exact List.pairwise_iff_getElem.1 h i j (by omega) hj h1
    · have:i=j:=by omega
      subst this; exact Int.le_refl _
  obtain ⟨h1,h2⟩:=compact_up hs l.length (by simp)
  refine ⟨h1,fun x=>?_⟩
  show x∈compactUpTo l.toArray l.length↔_
  rw [h2,List.mem_iff_getElem]
  constructor
  · rintro ⟨j,hj,e⟩
    refine ⟨j,hj,?_⟩
    rw [getElem!_pos l.toArray j (by simpa using hj)] at e
    simpa using e
  · rintro ⟨j,hj,e⟩
    refine ⟨j,hj,?_⟩
    rw [getElem!_pos l.toArray j (by simpa using hj)]
    simpa using e
def tms (f g:List Lv):List Int:=compact (((f ++ g).map (·.a)).mergeSort fun x y=>decide (x≤y))
theorem tms_sa (f g:List Lv):SA (tms f g)∧∀ x,x∈tms f g↔∃ l∈f ++ g,l.a=x:=by
  have hp:(((f ++ g).map (·.a)).mergeSort fun x y=>decide (x≤y)).Pairwise (· ≤ ·):=by
    have:=List.pairwise_mergeSort (le:=fun x y:Int=>decide (x≤y)) (by intro a b c h1 h2; simp at *; omega) (by intro a b; simp; omega) ((f ++ g).map (·.a))
    exact this.imp (fun h=>by simpa using h)
  obtain ⟨h1,h2⟩:=compact_sa hp
  refine ⟨h1,fun x=>?_⟩
  unfold tms;rw [h2,List.mem_mergeSort,List.mem_map]
def comb (F:Int→Int) (last:Int):List Int→List Lv
  | []=>[]
  | t::ts=>if F t≠last then ⟨t,F t⟩::comb F (F t) ts else comb F (F t) ts
theorem comb_len (F:Int→Int):∀ (ts:List Int) (last:Int),(comb F last ts).length≤ts.length
  | [],_=>by simp [comb]
  | t::ts,last=>by
    have:=comb_len F ts (F t)
    simp only [comb]
    split <;> simp <;> omega
def okV (v:Int):Prop:=-1125899906842624≤v∧v≤1125899906842624
theorem comb_chk {F:Int→Int}:∀ {ts:List Int} {pa pv:Int},SA ts→(∀ t∈ts,pa<t∧0≤t∧t≤1099511627776∧okV (F t))→chkL pa pv (comb F pv ts)=0
  | [],_,_,_,_=>rfl
  | t::ts,pa,pv,hs,h=>by
    have p:=List.pairwise_cons.1 hs
    have ht:=h t (by simp)
    have hr:∀ q:Int,q≤t→∀ u∈ts,q<u∧0≤u∧u≤1099511627776∧okV (F u):=fun q hq u hu=>by
      have:=p.1 u hu
      have:=h u (by simp [hu])
      exact ⟨by omega,this.2⟩
    simp only [comb];unfold okV at ht
    split
    · rename_i hne
      simp only [chkL]
      rw [if_neg (by unfold badL; dsimp only; omega),if_neg (by omega)]
      exact comb_chk p.2 (hr t (Int.le_refl _))
    · rename_i he
      have he:F t=pv:=Classical.not_not.1 he
      rw [he]
      exact comb_chk p.2 (hr pa (by omega))
def tv (F:Int→Int) (cur:Int):List Int→Int→Int
  | [],_=>cur
  | x::xs,t=>if x≤t then tv F (F x) xs t else cur
theorem comb_gt {F:Int→Int}:∀ {ts:List Int} {last p:Int},(∀ x∈ts,p<x)→∀ l∈comb F last ts,p<l.a
  | [],_,_,_,l,hl=>by simp [comb] at hl
  | t::ts,last,p,h,l,hl=>by
    simp only [comb] at hl
    split at hl
    · simp at hl
      rcases hl with rfl|hl
      · exact h t (by simp)
      · exact comb_gt (fun x hx=>h x (by simp [hx])) l hl
    · exact comb_gt (fun x hx=>h x (by simp [hx])) l hl
theorem vat_comb {F:Int→Int} {t:Int}:∀ {ts:List Int} {cur:Int},SA ts→vat cur (comb F cur ts) t=tv F cur ts t
  | [],_,_=>rfl
  | x::xs,cur,hs=>by
    have p:=List.pairwise_cons.1 hs
    simp only [tv]
    by_cases hx:x≤t
    · rw [if_pos hx]
      simp only [comb]
      split
      · simp only [vat]; rw [if_pos hx]; exact vat_comb p.2
      · rename_i he
        have he:F x=cur:=Classical.not_not.1 he
        rw [← he]; exact vat_comb p.2
    · rw [if_neg hx]
      refine vat_late _ _ _ (fun l hl=>?_)
      have hm:l∈comb F cur (x::xs):=List.mem_of_mem_head? (by simpa using hl)
      have:=comb_gt (p:=x-1) (fun y hy=>by
        simp at hy
        rcases hy with rfl|hy
        · omega
        · have:=p.1 y hy; omega) l hm
      omega
theorem tv_eq {F:Int→Int}:∀ {ts:List Int} {p t:Int},SA ts→(∀ x∈ts,p<x)→p≤t→(∀ a b:Int,p≤a→a≤b→(∀ y∈ts,¬ (a<y∧y≤b))→F b=F a)→tv F (F p) ts t=F t
  | [],p,t,_,_,ht,H=>(H p t (Int.le_refl _) ht (by simp)).symm
  | x::xs,p,t,hs,hp,ht,H=>by
    have q:=List.pairwise_cons.1 hs
    have hpx:=hp x (by simp)
    simp only [tv]
    by_cases hx:x≤t
    · rw [if_pos hx]
      refine tv_eq q.2 q.1 hx (fun a b h1 h2 h3=>H a b (by omega) h2 (fun y hy=>?_))
      simp at hy
      rcases hy with rfl|hy
      · omega
      · exact h3 y hy
    · rw [if_neg hx]
      refine (H p t (Int.le_refl _) ht (fun y hy=>?_)).symm
      simp at hy
      rcases hy with rfl|hy
      · omega
      · have:=q.1 y hy; omega
theorem vat_same:∀ {f:List Lv} {p cur a b:Int},AscT p f→a≤b→(∀ l∈f,¬ (a<l.a∧l.a≤b))→vat cur f b=vat cur f a
  | [],_,_,_,_,_,_,_=>rfl
  | l::f,p,cur,a,b,h,hab,hn=>by
    simp only [vat]
    have hl:=hn l (by simp)
    by_cases h1:l.a≤a
    · rw [if_pos h1,if_pos (by omega)]
      exact vat_same h.2.2 hab (fun m hm=>hn m (by simp [hm]))
    · rw [if_neg h1,if_neg (by omega)]
theorem val_earlyT {f:List Lv} {p x:Int} (h:AscT p f) (hx:x≤p):val f x=0:=vat_late f 0 x (fun l hl=>by
  have:=(h.gt l (List.mem_of_mem_head? (by simpa using hl))).1
  omega)
theorem comb_val {f g:List Lv} (hf:AscT (-1) f) (hg:AscT (-1) g) {op:Int→Int→Int} (h0:op 0 0=0) {t:Int} (ht:-1≤t):val (comb (fun t=>op (val f t) (val g t)) 0 (tms f g)) t=op (val f t) (val g t):=by
  obtain ⟨h1,h2⟩:=tms_sa f g
  have e0:op (val f (-1)) (val g (-1))=0:=by rw [val_earlyT hf (Int.le_refl _),val_earlyT hg (Int.le_refl _),h0]
  have hp:∀ x∈tms f g,-1<x:=fun x hx=>by
    obtain ⟨l,hl,rfl⟩:=(h2 x).1 hx
    rcases List.mem_append.1 hl with hl|hl
    · exact (hf.gt l hl).1
    · exact (hg.gt l hl).1
  show vat 0 _ t=_
  rw [vat_comb h1]
  have:=tv_eq (F:=fun t=>op (val f t) (val g t)) (p:=-1) (t:=t) h1 hp ht (fun a b ha hab hn=>by
    have e1:val f b=val f a:=vat_same hf hab (fun l hl hx=>hn l.a ((h2 l.a).2 ⟨l,by simp [hl],rfl⟩) hx)
    have e2:val g b=val g a:=vat_same hg hab (fun l hl hx=>hn l.a ((h2 l.a).2 ⟨l,by simp [hl],rfl⟩) hx)
    simp only [e1,e2])
  simp only [e0] at this;exact this
theorem tms_rng {f g:List Lv} (hf:AscT (-1) f) (hg:AscT (-1) g):∀ x∈tms f g,0≤x∧x≤1099511627776:=fun x hx=>by
  obtain ⟨l,hl,rfl⟩:=((tms_sa f g).2 x).1 hx
  rcases List.mem_append.1 hl with hl|hl
  · have:=hf.gt l hl; omega
  · have:=hg.gt l hl; omega
theorem chkL_unique:∀ {f g:List Lv} {pa pv:Int},chkL pa pv f=0→chkL pa pv g=0→(∀ t:Int,pa<t→t≤1099511627776→vat pv f t=vat pv g t)→f=g
  | [],[],_,_,_,_,_=>rfl
  | [],m::g,pa,pv,_,h2,H=>by
    exfalso
    have hA:=chkL_asc _ _ _ h2
    have:=H m.a hA.1 hA.2.1
    simp only [vat] at this
    rw [if_pos (Int.le_refl _),vat_late g m.v m.a (fun l hl=>(hA.2.2.2.gt l (List.mem_of_mem_head? (by simpa using hl))).1)] at this
    simp only [chkL] at h2
    split at h2
    · simp at h2
    · rw [if_pos (.inr this.symm)] at h2; simp at h2
  | l::f,[],pa,pv,h1,_,H=>by
    exfalso
    have hA:=chkL_asc _ _ _ h1
    have:=H l.a hA.1 hA.2.1
    simp only [vat] at this
    rw [if_pos (Int.le_refl _),vat_late f l.v l.a (fun m hm=>(hA.2.2.2.gt m (List.mem_of_mem_head? (by simpa using hm))).1)] at this
    simp only [chkL] at h1
    split at h1
    · simp at h1
    · rw [if_pos (.inr this)] at h1; simp at h1
  | l::f,m::g,pa,pv,h1,h2,H=>by
    have hA:=chkL_asc _ _ _ h1
    have hB:=chkL_asc _ _ _ h2
    have e1:=H l.a hA.1 hA.2.1
    have e2:=H m.a hB.1 hB.2.1
    have q1:vat l.v f l.a=l.v:=vat_late f l.v l.a (fun x hx=>(hA.2.2.2.gt x (List.mem_of_mem_head? (by simpa using hx))).1)
    have q2:vat m.v g m.a=m.v:=vat_late g m.v m.a (fun x hx=>(hB.2.2.2.gt x (List.mem_of_mem_head? (by simpa using hx))).1)
    simp only [vat] at e1 e2;rw [if_pos (Int.le_refl _),q1] at e1;rw [if_pos (Int.le_refl (m.a)),q2] at e2;simp only [chkL] at h1 h2
    split at h1
    · simp at h1
    · split at h1
      · simp at h1
      · rename_i hl
        split at h2
        · simp at h2
        · split at h2
          · simp at h2
          · rename_i hm
            have ha:l.a=m.a:=by
              rcases Int.lt_trichotomy l.a m.a with h|h|h
              · rw [if_neg (by omega)] at e1
                exact absurd e1 (by omega)
              · exact h
              · rw [if_neg (by omega)] at e2
                exact absurd e2.symm (by omega)
            rw [if_pos (by omega),ha,q2] at e1
            obtain ⟨la,lv⟩:=l
            obtain ⟨ma,mv⟩:=m
            simp only at ha e1;subst ha e1
            congr 1
            refine chkL_unique h1 h2 (fun t ht htm=>?_)
            have:=H t (by have:=hA.1; simp only at this ht; omega) htm
            simp only [vat] at this
            rw [if_pos (by simp only at ht; omega),if_pos (by simp only at ht; omega)] at this
            exact this
def CombP (F:Int→Int) (ts:List Int) (out:List Lv) (e:Int):Prop:=
  ((∃ t∈ts,¬ okV (F t))∧out=[]∧e=5)∨((∀ t∈ts,okV (F t))∧1000<(comb F 0 ts).length∧out=[]∧e=4)∨((∀ t∈ts,okV (F t))∧(comb F 0 ts).length≤1000∧out=comb F 0 ts∧e=0)
theorem CombP.unique {F:Int→Int} {ts:List Int} {o o':List Lv} {e e':Int} (h:CombP F ts o e) (h':CombP F ts o' e'):o=o'∧e=e':=by
  rcases h with ⟨⟨t,ht,a⟩,b,c⟩|⟨a,b,c,d⟩|⟨a,b,c,d⟩ <;> rcases h' with ⟨⟨t',ht',a'⟩,b',c'⟩|⟨a',b',c',d'⟩|⟨a',b',c',d'⟩
  · exact ⟨by rw [b,b'],by rw [c,c']⟩
  · exact absurd (a' t ht) a
  · exact absurd (a' t ht) a
  · exact absurd (a t' ht') a'
  · exact ⟨by rw [c,c'],by rw [d,d']⟩
  · omega
  · exact absurd (a t' ht') a'
  · omega
  · exact ⟨by rw [c,c'],by rw [d,d']⟩
theorem CombP.ok {f g:List Lv} (hf:AscT (-1) f) (hg:AscT (-1) g) {op:Int→Int→Int} (h0:op 0 0=0) {out:List Lv} (h:CombP (fun t=>op (val f t) (val g t)) (tms f g) out 0):chkS out=0∧∀ t:Int,-1≤t→val out t=op (val f t) (val g t):=by
  rcases h with ⟨_,_,h⟩|⟨_,_,_,h⟩|⟨h1,h2,rfl,_⟩
  · simp at h
  · simp at h
  · refine ⟨?_,fun t ht=>comb_val hf hg h0 ht⟩
    unfold chkS
    rw [if_neg (by omega)]
    exact comb_chk (tms_sa f g).1 (fun t ht=>by
      have:=tms_rng hf hg t ht
      exact ⟨by omega,this.1,this.2,h1 t ht⟩)
def SumR (f g out:List Lv) (e:Int):Prop:=
  ((chkS f≠0∨chkS g≠0)∧out=[]∧e=1)∨(chkS f=0∧chkS g=0∧CombP (fun t=>val f t+val g t) (tms f g) out e)
theorem SumR.unique {f g o o':List Lv} {e e':Int} (h:SumR f g o e) (h':SumR f g o' e'):o=o'∧e=e':=by
  rcases h with ⟨a,b,c⟩|⟨a,b,c⟩ <;> rcases h' with ⟨a',b',c'⟩|⟨a',b',c'⟩
  · exact ⟨by rw [b,b'],by rw [c,c']⟩
  · rcases a with a|a
    · exact absurd a' a
    · exact absurd b' a
  · rcases a' with a'|a'
    · exact absurd a a'
    · exact absurd b a'
  · exact c.unique c'
def bump (fr to d:Int):List Lv:=[⟨fr,d⟩,⟨to,0⟩]
theorem bump_asc {fr to d:Int} (h:0≤fr∧fr<to∧to≤1099511627776):AscT (-1) (bump fr to d):=⟨by dsimp only; omega,by dsimp only; omega,by dsimp only; omega,by dsimp only; omega,trivial⟩
theorem bump_val (fr to d t:Int) (h:fr<to):val (bump fr to d) t=if fr≤t∧t<to then d else 0:=by
  simp only [val,bump,vat]
  by_cases h1:fr≤t
  · rw [if_pos h1]
    by_cases h2:to≤t
    · rw [if_pos h2,if_neg (by omega)]
    · rw [if_neg h2,if_pos (by omega)]
  · rw [if_neg h1,if_neg (by omega)]
def AddR (f:List Lv) (fr to d:Int) (out:List Lv) (e:Int):Prop:=
  (chkS f≠0∧out=[]∧e=1)∨(chkS f=0∧(¬ (0≤fr∧fr≤to∧to≤1099511627776)∨d < -2251799813685248∨2251799813685248<d)∧out=[]∧e=2) ∨
  (chkS f=0∧(0≤fr∧fr≤to∧to≤1099511627776)∧(-2251799813685248≤d∧d≤2251799813685248)∧fr=to∧out=f∧e=0) ∨
  (chkS f=0∧(0≤fr∧fr<to∧to≤1099511627776)∧(-2251799813685248≤d∧d≤2251799813685248)∧CombP (fun t=>val f t+val (bump fr to d) t) (tms f (bump fr to d)) out e)
theorem AddR.unique {f o o':List Lv} {fr to d e e':Int} (h:AddR f fr to d o e) (h':AddR f fr to d o' e'):o=o'∧e=e':=by
  rcases h with ⟨a,b,c⟩|⟨a,b,c,x⟩|⟨a,b,c,x,y,z⟩|⟨a,b,c,x⟩ <;> rcases h' with ⟨a',b',c'⟩|⟨a',b',c',x'⟩|⟨a',b',c',x',y',z'⟩|⟨a',b',c',x'⟩
  all_goals first
    | exact absurd a' a
    | exact absurd a a'
    | exact ⟨by rw [b,b'],by rw [c,c']⟩
    | exact ⟨by rw [c,c'],by rw [x,x']⟩
    | exact ⟨by rw [y,y'],by rw [z,z']⟩
    | exact x.unique x'
    | omega
    | (clear x'; omega)
    | (clear x; omega)
theorem AddR.ok {f out:List Lv} {fr to d:Int} (h:AddR f fr to d out 0):chkS f=0∧chkS out=0∧∀ t:Int,-1≤t→val out t=val f t+if fr≤t∧t<to then d else 0:=by
  rcases h with ⟨_,_,h⟩|⟨_,_,_,h⟩|⟨a,b,c,x,rfl,_⟩|⟨a,b,c,x⟩
  · simp at h
  · simp at h
  · exact ⟨a,a,fun t ht=>by rw [if_neg (by omega)]; omega⟩
  · obtain ⟨h1,h2⟩:=CombP.ok (op:=(· + ·)) (chkS_ok a).2.t (bump_asc b) rfl x
    refine ⟨a,h1,fun t ht=>?_⟩
    rw [h2 t ht,bump_val fr to d t b.2.1]
theorem chkS_unique {f g:List Lv} (hf:chkS f=0) (hg:chkS g=0) (h:∀ t:Int,-1≤t→val f t=val g t):f=g:=by
  have hf1:=(chkS_ok hf).1
  have hg1:=(chkS_ok hg).1
  unfold chkS at hf hg
  rw [if_neg (by omega)] at hf hg
  exact chkL_unique hf hg (fun t ht _=>h t (by omega))
end Go.Step
namespace Go.Step
structure Ct where
  f:Int
  t:Int
  s:Int
  e:Int
  r:Int
  g:Int
  l:Int
def okCt (c:Ct):Prop:=(0≤c.f∧c.f≤15)∧(0≤c.t∧c.t≤15)∧(1≤c.r∧c.r≤1000)∧(1≤c.g∧c.g≤1048576)∧(0≤c.l∧c.l≤16)
instance (c:Ct):Decidable (okCt c):=inferInstanceAs (Decidable (_∧_))
def chkCt (c:Ct):Int:=if ¬ okCt c then 2 else if c.f=c.t then 1 else if c.s<0∨c.e≤c.s∨1099511627776-2*c.g<c.e then 2 else 0
theorem chkCt_se {c:Ct} (h:chkCt c=0):0≤c.s∧c.s<c.e∧c.e≤1099511627776:=by
  unfold chkCt at h
  split at h
  · omega
  · rename_i hk
    split at h
    · omega
    · split at h
      · omega
      · unfold okCt at hk
        omega
def firstE (e:Nat→Int):Nat→Int
  | 0=>0
  | n+1=>if firstE e n≠0 then firstE e n else e n
theorem firstE_ok {e:Nat→Int} {k:Nat} (h:firstE e k=0) (h2:e k=0):firstE e (k+1)=0:=by simp [firstE,h,h2]
theorem firstE_hit {e:Nat→Int} {k:Nat} (h:firstE e k=0) (h2:e k≠0):∀ n,k<n→firstE e n=e k
  | 0,hn=>by omega
  | n+1,hn=>by
    by_cases hk:k=n
    · subst hk; simp [firstE,h]
    · have ih:=firstE_hit h h2 n (by omega)
      simp [firstE,ih,h2]
theorem firstE_zero {e:Nat→Int}:∀ {n:Nat},firstE e n=0→∀ k,k<n→e k=0
  | 0,_,k,hk=>by omega
  | n+1,h,k,hk=>by
    unfold firstE at h
    split at h
    · contradiction
    · rename_i hc
      have hc':firstE e n=0:=Decidable.not_not.1 hc
      by_cases e':k=n
      · subst e'; exact h
      · exact firstE_zero hc' k (by omega)
theorem firstE_all {e:Nat→Int}:∀ {n:Nat},(∀ k,k<n→e k=0)→firstE e n=0
  | 0,_=>rfl
  | n+1,h=>firstE_ok (firstE_all (fun k hk=>h k (by omega))) (h n (by omega))
end Go.Step
