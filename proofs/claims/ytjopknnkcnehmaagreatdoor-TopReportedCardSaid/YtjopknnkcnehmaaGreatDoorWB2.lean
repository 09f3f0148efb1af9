/- Texts of this proof, one after the other; no conditions. -/
import Derived.Lib.LazyBuf
import Derived.Laws.StructEq
import Derived.ProofKit
import Derived.Deep.Slices
import Derived.Lib.SmallJoins
import Derived.Lib.AppendZerosOnto
import Derived.Lib.Overlaps
import Derived.Laws.BytesString
import Derived.Laws.Strings2
import Derived.Laws.Externs
import Derived.Laws.Concat
import Derived.Test.YtjopknnkcnehmaaGreatDoorProg
import Derived.Test.YtjopknnkcnehmaaGreatDoorWB1
set_option linter.all false
/- A slice against nil; nothing appended; a slice that the call owns, as a block of elements. No conditions. -/
namespace Go.Eng
variable {C:Cx} {D:List Deferred} {R H:List PH} {L:Env} {K:List It}
section
variable {dst:Option Tmp} {ty:TypeId} {pos:String} {aft:Array Edge} {g:Option (Nat × Bool)}
theorem q_nilS {x y:Operand} {t e yT:TypeId} {a:Option Addr} {n c:Nat} (h:evalE L x=some (.slice a n c)) (h2:evalE L y=some (.slice none 0 0)) (ht:elemP C.P t=some e) :
    Quiet C R H L ⟨dst,.binOp .eql t x y yT,ty,pos,aft,g⟩ (.bool a.isNone):=
  ⟨by intro c; simp,fun ac w hx _=>by
    have e1:=hx x (by simp [Op.operands]) _ h
    have e2:=hx y (by simp [Op.operands]) _ h2
    have hr:=Go.run_eql_slice_nil (P:=C.P) w t e a n c (und_elem ht)
    simp [execOp,e1,e2,eqGuard,hr]⟩
theorem FG {x y:Operand} {t e yT:TypeId} {n c:Nat} (h:evalE L x=some (.slice none n c)) (h2:evalE L y=some (.slice none 0 0)) (ht:elemP C.P t=some e) :
    Quiet C R H L ⟨dst,.binOp .eql t x y yT,ty,pos,aft,g⟩ (.bool true):=q_nilS h h2 ht
end
theorem OwnS.block {α:Type} {enc:α→List Value} {s:Nat} {e:TypeId} {v:Value} {l:List α} {ρ:PH} (h:OwnS e s v l.length (l.flatMap enc) ρ) :
    (v=.slice none 0 0∧l=[]∧ρ=emp)∨∃ b cap cur,v=.slice (some ⟨b,0,none⟩) l.length cap∧ρ=sng b (.cells cur e (0,0))∧l.length≤cap∧cap≤maxLen∧cur.size=cap*s∧cur.toList.take (l.length*s)=l.flatMap enc:=by
  obtain ⟨_,⟨rfl,h2,rfl⟩|⟨b,cap,cur,rfl,rfl,h1,h2,h3,h4⟩⟩:=h
  · exact .inl ⟨rfl,List.eq_nil_of_length_eq_zero h2,rfl⟩
  · exact .inr ⟨b,cap,cur,rfl,rfl,h1,h2,h3,h4⟩
end Go.Eng
namespace Go.Eng
variable {C:Cx} {D:List Deferred} {R H:List PH} {L:Env} {K:List It}
theorem flat_set1 {α:Type} {enc:α→List Value} {s:Nat} (he:∀ x,(enc x).length=s) {j:Nat} {v:Value} {a':α} (hj:j<s):∀ (l:List α) (i:Nat) (a:α),l[i]?=some a→enc a'=(enc a).set j v→(l.flatMap enc).set (i*s+j) v=(l.set i a').flatMap enc
  | [],i,a,h,_=>by simp at h
  | y::l,0,a,h,h'=>by
    simp at h; subst h
    simp only [List.flatMap_cons,Nat.zero_mul,Nat.zero_add,List.set_cons_zero]
    rw [List.set_append_left _ _ (by rw [he]; exact hj),h']
  | y::l,i+1,a,h,h'=>by
    have ih:=flat_set1 he hj l i a (by simpa using h) h'
    have hy:(enc y).length=s:=he y
    simp only [List.flatMap_cons,List.set_cons_succ]
    have e:(i+1)*s+j=(enc y).length+(i*s+j):=by rw [hy,Nat.add_mul]; omega
    rw [e,List.set_append_right _ _ (by omega),show (enc y).length+(i*s+j)-(enc y).length=i*s+j from by omega,ih]
theorem EX {dst:Option Tmp} {ty:TypeId} {pos:String} {aft:Array Edge} {g:Option (Nat × Bool)} {α:Type} {enc:α→List Value} {s:Nat} (he:∀ x,(enc x).length=s) {t e:TypeId} {x y:Operand} {b o cap:Nat} {l:List α} {a:α} {v:Value} {ρ:PH} {H':List PH} (i j:Nat) (a':α)
    (hO:OwnS e s (.slice (some ⟨b,0,none⟩) l.length cap) l.length (l.flatMap enc) ρ) (h:evalE L x=some (.pointer (some ⟨b,o,none⟩))) (ho:o=i*s+j) (hj:j<s) (ha:l[i]?=some a) (ha':enc a'=(enc a).set j v) (hv:evalE L y=some v) (h1:v.oneCell'=true)
    (hn:szP C.P t=some 1) (ht:Take ρ H H') :
    Loud C R H L ⟨dst,.store t x y,ty,pos,aft,g⟩ (fun u H2=>u=undef∧∃ ρ',OwnS e s (.slice (some ⟨b,0,none⟩) (l.set i a').length cap) (l.set i a').length ((l.set i a').flatMap enc) ρ'∧H2=ρ'::H'):=by
  subst ho
  have hi:i<l.length:=(List.getElem?_eq_some_iff.1 ha).1
  obtain ⟨h0,⟨h2,_⟩|⟨b',cap',cur,h2,rfl,k1,k2,k3,k4⟩⟩:=hO
  · simp at h2
  · simp only [Value.slice.injEq,Option.some.injEq,Addr.mk.injEq,and_true,true_and] at h2
    obtain ⟨rfl,rfl⟩:=h2
    have hle:i*s+s≤l.length*s:=by
      have:=Nat.mul_le_mul_right s (show i+1≤l.length from hi)
      rw [Nat.add_mul] at this; omega
    have hle2:l.length*s≤cap*s:=Nat.mul_le_mul_right s k1
    have:=DH (C:=C) (R:=R) (L:=L) (dst:=dst) (ty:=ty) (pos:=pos) (aft:=aft) (g:=g) h hv h1 hn ht (by omega)
    refine ⟨fun ac w hx hs next Q hnx=>this.run ac w hx hs next Q (fun v H2 w' hp hs'=>?_)⟩
    obtain ⟨rfl,rfl⟩:=hp
    refine hnx _ _ _ ⟨rfl,_,⟨flat_len he _,.inr ⟨b,cap,_,rfl,rfl,by simpa using k1,k2,by simpa using k3,?_⟩⟩,rfl⟩ hs'
    rw [← flat_set1 he hj l i a ha ha',← k4,List.length_set,Array.toList_setIfInBounds,List.take_set]
end Go.Eng
namespace Go.Eng
variable {C:Cx} {D:List Deferred} {R H:List PH} {L:Env} {K:List It}
def cutP (a:Option Addr) (c i s:Nat):Option Addr:=if c=i then a else a.map (·.add (i*s))
section
variable {dst:Option Tmp} {ty:TypeId} {pos:String} {aft:Array Edge} {g:Option (Nat × Bool)}
variable {t e:TypeId} {x y z:Operand} {a:Option Addr} {n c s:Nat} {k k2:IntKind} {i j:Nat}
theorem EI (h:evalE L x=some (.slice a n c)) (hy:evalE L y=some (.int k (i:Int))) (ht:elemP C.P t=some e) (hs:szP C.P e=some s) (h1:i≤n) :
    Quiet C R H L ⟨dst,.slice t x (some y) none none,ty,pos,aft,g⟩ (.slice (cutP a c i s) (n-i) (c-i)):=
  ⟨by intro c; simp,fun ac w hx _=>by
    have e1:=hx x (by simp [Op.operands]) _ h
    have e2:=hx y (by simp [Op.operands]) _ hy
    simp [execOp,e1,e2,Instr.sliceAt,run_underlying (und_elem ht),Instr.slice,Instr.sliceBounds,Instr.sliceBound,asIntOf,run_sizeOf hs,h1,cutP]⟩
end
theorem FH {dst:Option Tmp} {ty:TypeId} {pos:String} {aft:Array Edge} {g:Option (Nat × Bool)} {s d:TypeId} {x:Operand} {k':IntKind} {n:Int} (h:evalE L x=some (.int k' n)) (hs:(C.P.underlying s).isSome=true) (hd:kindP C.P d=some .i64) (hr:In64 n) :
    Quiet C R H L ⟨dst,.convert s d x,ty,pos,aft,g⟩ (.int .i64 n):=E2 h hs hd (wrap_in hr)
def CapOK (v:Value):Prop:=∃ p n c,v=.slice p n c∧n≤c
theorem CapOK.le {p:Option Addr} {n c:Nat} (h:CapOK (.slice p n c)):n≤c:=by
  obtain ⟨p',n',c',e,h⟩:=h
  simp only [Value.slice.injEq] at e
  obtain ⟨_,rfl,rfl⟩:=e
  exact h
end Go.Eng
namespace Go.Eng
variable {C:Cx} {D:List Deferred} {R H:List PH} {L:Env} {K:List It}
variable {dst:Option Tmp} {ty:TypeId} {pos:String} {aft:Array Edge} {g:Option (Nat × Bool)}
end Go.Eng
namespace Go.Eng
variable {C : Cx} {D : List Deferred} {R H : List PH} {L : Env} {K : List It}
section
variable {dst : Option Tmp} {ty : TypeId} {pos : String} {aft : Array Edge} {g : Option (Nat × Bool)}
variable {t yT : TypeId} {x y : Operand}
theorem C4 {a b : Bool} (h1 : evalE L x = some (.bool a)) (h2 : evalE L y = some (.bool b)) (ht : C.P.underlying t = some .bool) : Quiet C R H L ⟨dst, .binOp .neq t x y yT, ty, pos, aft, g⟩ (.bool (!(a == b))) :=
  ⟨by intro c; simp, fun ac w hx _ => by
    have e1 := hx x (by simp [Op.operands]) _ h1
    have e2 := hx y (by simp [Op.operands]) _ h2
    have h3 := run_equalIn_bool' (P := C.P) w 9999 t a b ht
    simp only [Nat.reduceAdd] at h3
    simp [execOp, e1, e2, eqGuard, binOp, Op.equal, Op.maxDepth, h3]⟩
def fldI (P : Program) (k : Nat) (f : Field) : Bool := f.name != "_" && f.offset == k && (match P.underlying f.type with | some (.int .i64) => true | _ => false)
def fldsI (P : Program) : Nat → List Field → Bool
  | _, [] => true
  | k, f :: fs => fldI P k f && fldsI P (k + 1) fs
def intsP (P : Program) (t : TypeId) (n : Nat) : Bool := match P.underlying t with
  | some (.struct fs) => fs.size == n && fldsI P 0 fs.toList
  | _ => false
theorem eqFields_ints {P : Program} (w : World) (d : Nat) (l m : List Int) : ∀ (fs : List Field) (k : Nat), fldsI P k fs = true → k + fs.length = l.length → l.length = m.length →
    (Op.eqFields (d + 1) (l.map int).toArray (m.map int).toArray fs).run P w = .ok (decide (l.drop k = m.drop k)) w
  | [], k, _, h, h2 => by
    rw [List.drop_of_length_le (by simp at h; omega), List.drop_of_length_le (by simp at h; omega)]
    simp [Op.eqFields]
  | f :: fs, k, hf, h, h2 => by
    simp only [fldsI, fldI, Bool.and_eq_true, bne_iff_ne, ne_eq, beq_iff_eq] at hf
    obtain ⟨⟨⟨h3, h4⟩, h5⟩, h6⟩ := hf
    have hu : P.underlying f.type = some (.int .i64) := by
      split at h5
      · assumption
      · simp at h5
    have ih := eqFields_ints w d l m fs (k + 1) h6 (by simp at h; omega) h2
    have hk : k < l.length := by simp at h; omega
    have hk2 : k < m.length := by omega
    have hp : ∀ (q : List Int) (hq : k < q.length), (part f.type (q.map int).toArray f.offset).run P w = .ok (int q[k]) w := fun q hq => by
      have hag : aggP P f.type = some false := by simp [aggP, hu]
      simp [part, run_isAgg hag, h4, hq]
    have hd : decide (l.drop k = m.drop k) = (decide (l[k] = m[k]) && decide (l.drop (k + 1) = m.drop (k + 1))) := by
      rw [List.drop_eq_getElem_cons hk, List.drop_eq_getElem_cons hk2, Bool.eq_iff_iff];simp only [List.cons.injEq, decide_eq_true_eq, Bool.and_eq_true]
    rw [hd]
    have he := run_equalIn_int (P := P) w d f.type .i64 .i64 l[k] m[k] hu
    simp only [Op.eqFields, h3, not_false_eq_true, if_true, Sem.run_bind, hp l hk, hp m hk2, Result.andThen_ok, he, ne_eq]
    by_cases hkm : l[k] = m[k]
    · simp only [hkm, beq_self_eq_true, Bool.not_true, Bool.false_eq_true, if_false, ih, decide_true, Bool.true_and]
    · have : (l[k] == m[k]) = false := by simpa using hkm
      simp only [this, hkm, Bool.not_false, if_true, Sem.run_pure, decide_false, Bool.false_and]
theorem intsP_of {P : Program} {n : Nat} (h : intsP P t n = true) : ∃ fs : Array Field, P.underlying t = some (.struct fs) ∧ fs.size = n ∧ fldsI P 0 fs.toList = true := by
  unfold intsP at h
  split at h
  · rename_i fs hu
    simp only [Bool.and_eq_true, beq_iff_eq] at h;exact ⟨fs, hu, h.1, h.2⟩
  · simp at h
theorem run_eqInts {P : Program} (w : World) {l m : List Int} {n : Nat} (hi : intsP P t n = true) (hp : P.stoodInHeld t = false) (hl : l.length = n) (hm : m.length = n) : (Op.equalIn 10000 t (.agg (l.map int).toArray) (.agg (m.map int).toArray)).run P w = .ok (decide (l = m)) w := by
  obtain ⟨fs, hu, hs, hf⟩ := intsP_of hi
  have hfo : P.fieldsOf t = fs := by simp [Program.fieldsOf, hu]
  have h1 := run_equalIn_struct (P := P) w 9999 t (l.map int).toArray (m.map int).toArray (by rw [hfo]; exact hu) hp
  have h2 := eqFields_ints (P := P) w 9998 l m fs.toList 0 hf (by simp [hs, hl]) (by omega)
  rw [hfo] at h1;simp only [Nat.reduceAdd] at h1 h2;rw [h1, h2]; simp
end
end Go.Eng
namespace Go.Eng
open Go.ChangeShapes Go.WideShapes Go.RowKit
def heapPH (w : World) : PH := fun b => w.heap[b]?
theorem sat_heap (w : World) : Sat (Bs.of w) [heapPH w] [] w :=
  ⟨⟨Nat.le_refl _, rfl, rfl, rfl, Nat.le_refl _⟩, by intro ρ hρ; simp at hρ; subst hρ; exact fun b o h => h, by simp, List.Pairwise.nil, by simp⟩
theorem rdc_heap {w : World} {b o : Nat} {v : Value} (h : w.cell? ⟨b, o, none⟩ = some v) : rdc (heapPH w) b o = some v := by
  unfold World.cell? at h;unfold rdc heapPH
  cases e : w.heap[b]? with
  | none => simp [e] at h
  | some ob => cases ob <;> simp_all
theorem cell_spot {w : World} {a : Addr} {v : Value} (h : w.cell? a = some v) : a.spot = none := by
  unfold World.cell? at h
  split at h
  · split at h
    · simp at h
    · rename_i hs; simpa using hs
  · simp at h
theorem law_calls {P : Program} {f : FuncId} {fn : Func} {c : Code} {args : List Value} {W : World} (hf : P.funcs[f]? = some fn) (hb : fn.body = some c) (hname : (fn.name == "runtime.NumGoroutine") = false)
    (hs : Ans P (fv f) args [heapPH W] (fun v => v = .bool true)) : Calls P f args.toArray W (fun e W' => e = .returned (.bool true) ∧ Below W.heap.size W W') := by
  have h := hs (Bs.of W) W (sat_heap W)
  unfold CallsV at h
  have hrun : ((do let d ← Deferred.ofValue (fv f) args.toArray; invoke d.target d.args : Sem Next).run P W) = .ok (.enter f args.toArray) W := by
    have hname' : ¬ fn.name = "runtime.NumGoroutine" := by simpa using hname
    simp [Deferred.ofValue, invoke, callFunc, program, Sem.run, bind, Sem.bind, pure, hf, hb, hname']
  rw [hrun] at h;refine callsIn_wide.1 (CallsIn.mono h ?_);rintro e W' ⟨v, rfl, H', ⟨rfl, rfl⟩, hu⟩
  exact ⟨rfl, hu.size.2.1, hu.size.2.2.2.1, hu.size.2.2.1, hu.size.1, fun k hk => hu.keep k hk (by simp)⟩
def RdT (P : Program) (W : World) (t : TypeId) (cs : List Value) : Prop := ∃ (H : Type) (enc : TypeId × Value → H) (fuel : Nat) (x : DataW H × List MemPlace), DataW.trod enc P W 0 (fun _ => true) true fuel t cs = some x
section
variable {P : Program} {W : World} {t : TypeId} {cs : List Value}
theorem RdT.of {H : Type} {enc : TypeId × Value → H} {v : Value} {d : DataW H} {p : List MemPlace} (h : DataW.Trod enc P W 0 (fun _ => true) true t v d p) : RdT P W t v.cells.toList := by
  obtain ⟨fuel, hf⟩ := h
  exact ⟨H, enc, fuel, _, hf⟩
theorem RdT.num {k : IntKind} (ht : P.underlying t = some (.int k)) (h : RdT P W t cs) : ∃ n, cs = [.int k n] ∧ (Lit.int k n).wf = true := by
  obtain ⟨H, enc, fuel, x, h⟩ := h
  obtain ⟨n, h1, _, h2⟩ := DataW.trod_int ht h
  exact ⟨n, h1, h2⟩
theorem wf_i64 {n : Int} (h : (Lit.int .i64 n).wf = true) : In64 n := by
  simp only [Lit.wf, Bool.and_eq_true, decide_eq_true_eq] at h;exact ⟨h.1, h.2⟩
theorem RdT.i64 (ht : P.underlying t = some (.int .i64)) (h : RdT P W t cs) : ∃ n, cs = [int n] ∧ In64 n := by
  obtain ⟨n, h1, h2⟩ := h.num ht
  exact ⟨n, h1, wf_i64 h2⟩
theorem RdT.bool (ht : P.underlying t = some .bool) (h : RdT P W t cs) : ∃ b, cs = [.bool b] := by
  obtain ⟨H, enc, fuel, x, h⟩ := h
  cases fuel with
  | zero => simp [DataW.trod] at h
  | succ n =>
    unfold DataW.trod at h;rw [ht] at h
    split at h <;> simp_all
theorem RdT.str (ht : P.underlying t = some .string) (h : RdT P W t cs) : ∃ s, cs = [.string s] ∧ s.size ≤ maxLen := by
  obtain ⟨H, enc, fuel, x, h⟩ := h
  cases fuel with
  | zero => simp [DataW.trod] at h
  | succ n =>
    unfold DataW.trod at h;rw [ht] at h
    split at h <;> simp_all
theorem RdT.struct {fs : Array Field} (ht : P.underlying t = some (.struct fs)) (h : RdT P W t cs) : cs.length = P.cellsOf t ∧ ∀ (i : Nat) (f : Field), fs[i]? = some f → RdT P W f.type ((cs.drop f.offset).take (P.cellsOf f.type)) := by
  obtain ⟨H, enc, fuel, x, h⟩ := h
  obtain ⟨xs, n, _, _, hl, hlen, hf⟩ := DataW.trod_struct ht h
  refine ⟨hl, fun i f hi => ?_⟩
  have hif : i < xs.length := by rw [hlen]; exact (Array.getElem?_eq_some_iff.1 hi).1
  have := hf i f hi
  rw [List.getElem?_eq_getElem hif] at this;exact ⟨H, enc, n, _, this⟩
theorem RdT.fld1 {fs : Array Field} (ht : P.underlying t = some (.struct fs)) (h : RdT P W t cs) (i : Nat) {f : Field} (hi : fs[i]? = some f) {ty : TypeId} {o : Nat} {c : Value} (hty : f.type = ty) (ho : f.offset = o) (hc : P.cellsOf ty = 1) (hcs : cs[o]? = some c) : RdT P W ty [c] := by
  have := (h.struct ht).2 i f hi
  rw [hty, ho, hc] at this
  obtain ⟨hlt, he⟩ := List.getElem?_eq_some_iff.1 hcs
  rw [List.drop_eq_getElem_cons hlt, he] at this
  simpa using this
theorem choose_list {α : Type} (q : Nat → α → Prop) : ∀ n, (∀ i, i < n → ∃ a, q i a) → ∃ l : List α, l.length = n ∧ ∀ i a, l[i]? = some a → q i a
  | 0, _ => ⟨[], rfl, by simp⟩
  | n + 1, h => by
    obtain ⟨l, hl, hq⟩ := choose_list q n (fun i hi => h i (by omega))
    obtain ⟨a, ha⟩ := h n (by omega)
    refine ⟨l ++ [a], by simp [hl], fun i b hb => ?_⟩
    by_cases e : i < n
    · rw [List.getElem?_append_left (by omega)] at hb; exact hq i b hb
    · rw [List.getElem?_append_right (by omega)] at hb
      have hi : i - l.length = 0 := by
        have := (List.getElem?_eq_some_iff.1 hb).1
        simp at this; omega
      rw [hi] at hb
      simp at hb
      subst hb
      have : i = n := by omega
      subst this; exact ha
theorem RdT.slice {e : TypeId} {s : Nat} (ht : P.underlying t = some (.slice e)) (hs : P.cellsOf e = s) (h0 : 0 < s) (h : RdT P W t cs) :
    ∃ v p c, cs = [v] ∧ ∃ els : List (List Value), v = .slice p els.length c ∧ els.length ≤ maxLen ∧ ∀ i x, els[i]? = some x → x.length = s ∧ RdT P W e x ∧ ∃ b o, p = some ⟨b, o, none⟩ ∧ RdN (heapPH W) b (o + i * s) x := by
  obtain ⟨H, enc, fuel, x, h⟩ := h
  rcases Deep.open_slice ht h with ⟨rfl, _⟩ | ⟨a, len, cap, m, n, D, Pl, rfl, _, hlc, hcm, hm, _, hx⟩
  · exact ⟨_, none, 0, rfl, [], rfl, by simp, by simp⟩
  · have hm' : m = cap := by rw [hm]; simp
    obtain ⟨els, hl, hq⟩ := choose_list (fun i cs' => W.cells? 0 (a.add (i * P.cellsOf e)) (P.cellsOf e) = some cs' ∧ DataW.trod enc P W 0 (fun _ => true) true n e cs' = some (D i, Pl i)) len (fun i hi => hx i (by omega))
    refine ⟨_, some a, cap, rfl, els, by rw [hl], by omega, fun i y hy => ?_⟩
    obtain ⟨q1, q2⟩ := hq i y hy
    obtain ⟨_, k1, k2⟩ := World.cells?_some q1
    rw [hs] at k1 k2
    have hsp : a.spot = none := by
      have hi : i < els.length := (List.getElem?_eq_some_iff.1 hy).1
      obtain ⟨r1, _⟩ := hq 0 els[0] (List.getElem?_eq_getElem (by omega))
      obtain ⟨_, g1, g2⟩ := World.cells?_some r1
      rw [hs] at g1 g2
      have hv0 : els[0][0]? = some (els[0][0]'(by omega)) := List.getElem?_eq_getElem (by omega)
      have := cell_spot ((g2 0 h0).trans hv0)
      simpa [Addr.add] using this
    obtain ⟨b, o, sp⟩ := a
    simp only at hsp;subst hsp
    have hadd : ∀ m : Nat, (⟨b, o, none⟩ : Addr).add m = ⟨b, o + m, none⟩ := fun m => by
      unfold Addr.add
      split
      · rename_i e; rw [e]; rfl
      · rfl
    have hadd2 : ∀ m k : Nat, (⟨b, o + m, none⟩ : Addr).add k = ⟨b, o + m + k, none⟩ := fun m k => by
      unfold Addr.add
      split
      · rename_i e; rw [e]; rfl
      · rfl
    refine ⟨k1, ⟨H, enc, n, _, q2⟩, b, o, rfl, fun j v hv => ?_⟩
    have hj : j < s := by
      have := (List.getElem?_eq_some_iff.1 hv).1
      omega
    have := (k2 j hj).trans hv
    rw [hadd, hadd2] at this;exact rdc_heap this
theorem RdT.sliceE {α : Type} {enc : α → List Value} {Q : α → Prop} {e : TypeId} {s : Nat} (ht : P.underlying t = some (.slice e)) (hs : P.cellsOf e = s) (h0 : 0 < s) (hel : ∀ x, RdT P W e x → ∃ a, x = enc a ∧ Q a) (h : RdT P W t cs) :
    ∃ v, cs = [v] ∧ ∃ l : List α, SlE enc s (heapPH W) v l ∧ (∀ a ∈ l, Q a) ∧ l.length ≤ maxLen := by
  obtain ⟨v, p, c, rfl, els, rfl, hle, hx⟩ := h.slice ht hs h0
  obtain ⟨l, hl, hq⟩ := choose_list (fun i (a : α) => ∀ x, els[i]? = some x → x = enc a ∧ Q a) els.length (fun i hi => by
    obtain ⟨a, h1, h2⟩ := hel els[i] (hx i _ (List.getElem?_eq_getElem hi)).2.1
    exact ⟨a, fun x hx => by rw [List.getElem?_eq_getElem hi] at hx; obtain rfl := Option.some.inj hx; exact ⟨h1, h2⟩⟩)
  have hlen : ∀ i a, l[i]? = some a → (enc a).length = s ∧ Q a ∧ ∃ b o, p = some ⟨b, o, none⟩ ∧ RdN (heapPH W) b (o + i * s) (enc a) := fun i a ha => by
    have hi : i < els.length := by rw [← hl]; exact (List.getElem?_eq_some_iff.1 ha).1
    obtain ⟨e1, e2⟩ := hq i a ha _ (List.getElem?_eq_getElem hi)
    obtain ⟨k1, _, k3⟩ := hx i _ (List.getElem?_eq_getElem hi)
    rw [e1] at k1 k3;exact ⟨k1, e2, k3⟩
  refine ⟨_, rfl, l, ⟨?_, ?_⟩, fun a ha => ?_, by omega⟩
  · clear hq hx hle
    have : ∀ (l : List α), (∀ a ∈ l, (enc a).length = s) → (l.flatMap enc).length = l.length * s := by
      intro l
      induction l with
      | nil => simp
      | cons a l ih =>
        intro hall
        rw [List.flatMap_cons, List.length_append, ih (fun b hb => hall b (by simp [hb])), hall a (by simp), List.length_cons, Nat.add_mul]; omega
    exact this l (fun a ha => by
      obtain ⟨i, hi, e⟩ := List.getElem_of_mem ha
      exact (hlen i a (by rw [List.getElem?_eq_getElem hi, e])).1)
  · rcases Nat.eq_zero_or_pos l.length with hz | hz
    · left; refine ⟨hz, p, c, by rw [← hl, hz]⟩
    · right
      obtain ⟨_, _, b, o, rfl, _⟩ := hlen 0 l[0] (List.getElem?_eq_getElem hz)
      refine ⟨b, o, c, by rw [hl], fun j u hu => ?_⟩
      have hfl : ∀ (l' : List α) (k : Nat), (∀ i a, l'[i]? = some a → (enc a).length = s ∧ RdN (heapPH W) b (o + (k + i) * s) (enc a)) → ∀ j u, (l'.flatMap enc)[j]? = some u → rdc (heapPH W) b (o + k * s + j) = some u := by
        intro l'
        induction l' with
        | nil => intro k _ j u hu; simp at hu
        | cons a l' ih =>
          intro k hall j u hu
          have h1 := hall 0 a rfl
          rw [List.flatMap_cons] at hu
          by_cases hj : j < (enc a).length
          · rw [List.getElem?_append_left hj] at hu
            have := h1.2 j u hu
            rwa [Nat.add_zero] at this
          · rw [List.getElem?_append_right (by omega)] at hu
            have := ih (k + 1) (fun i b' hb => by
              have := hall (i + 1) b' (by simpa using hb)
              rwa [show k + (i + 1) = k + 1 + i from by omega] at this) (j - (enc a).length) u hu
            rw [h1.1] at this hj
            rwa [show o + (k + 1) * s + (j - s) = o + k * s + j from by rw [Nat.add_mul]; omega] at this
      have := hfl l 0 (fun i a ha => by
        obtain ⟨k1, _, b', o', e, k3⟩ := hlen i a ha
        simp only [Option.some.injEq, Addr.mk.injEq, and_true] at e
        obtain ⟨rfl, rfl⟩ := e
        rw [Nat.zero_add]; exact ⟨k1, k3⟩) j u hu
      rwa [Nat.zero_mul, Nat.add_zero] at this
  · obtain ⟨i, hi, e⟩ := List.getElem_of_mem ha
    exact (hlen i a (by rw [List.getElem?_eq_getElem hi, e])).2.1
theorem RdT.ints {e : TypeId} (ht : P.underlying t = some (.slice e)) (he : P.underlying e = some (.int .i64)) (hs : P.cellsOf e = 1) (h : RdT P W t cs) :
    ∃ v, cs = [v] ∧ ∃ l : List Int, IntsAt (heapPH W) v l ∧ (∀ a ∈ l, In64 a) ∧ l.length ≤ maxLen :=
  h.sliceE ht hs (by omega) (fun x hx => hx.i64 he)
end
theorem okWide_agg {P : Program} {w : World} {r : Reach} {base : Nat} {t : TypeId} {v : Value} {fs : Array Field} (ht : P.underlying t = some (.struct fs)) (h : Value.okWide P w r base t v) : ∃ cs, v = .agg cs := by
  simp only [Value.okWide, ht] at h
  obtain ⟨cs, h1, _⟩ := h
  exact ⟨cs, h1⟩
end Go.Eng
namespace Go.Eng
variable {C:Cx} {D:List Deferred} {R H:List PH} {L:Env} {K:List It}
structure RdP (ρ:PH) (b o:Nat) (vs:List Value):Prop where
  rd:RdN ρ b o vs
theorem cellsP {N:Bs} {σ:PH} {b o:Nat} {vs:List Value} (h:RdP σ b o vs) (m:Mem σ R):Cells N R H b o vs:=cellsR h.rd m
theorem rdP_sng {b k:Nat} {xs vs:List Value} {t:TypeId} {fr:Nat × Nat} (h:(xs.drop k).take vs.length=vs):RdP (sng b (.cells xs.toArray t fr)) b k vs:=⟨fun j v hv=>by
  rw [rdc_sng];rw [← h] at hv
  have hlt:=(List.getElem?_eq_some_iff.1 hv).1
  rw [List.length_take] at hlt
  rw [List.getElem?_take_of_lt (by omega),List.getElem?_drop] at hv
  simpa using hv⟩
end Go.Eng
namespace Go.Eng
variable {C:Cx} {D:List Deferred} {R H Hf:List PH} {L:Env} {K:List It} {ps ls:List Nat}
variable {all:Array Oper} {o:Oper} {d i:Nat} {v:Value} {done:List Nat}
structure GWz (C:Cx) (L:Env) (all:Array Oper) (o:Oper) (d:Nat):Prop where
  a:wantE all L o=some true
  b:o.dst=some d
  c:Nat.blt d C.M=true
theorem rsubZ {R0 R:List PH} (h:∀ ρ∈R0,ρ∈R:=by (repeat (first|exact rs_nil|(refine rs_cons ?_ ?_; (focus ((repeat (first|exact .here|apply Mem.there|apply Take.there)); first|done|fail)))|exact fun ρ hρ=>hρ|(intro ρ hρ; repeat (first|exact hρ|refine List.mem_cons_of_mem _ ?_)))); first|done|fail):∀ ρ∈R0,ρ∈R:=h
theorem envZ {k:Nat} {vs cap:List Value} {L:Env} (h:EnvA k vs cap L:=by (repeat (first|exact EnvA.nil EnvI.nil|apply EnvA.cons|apply EnvA.nil|exact EnvI.nil|apply EnvI.cons)); first|done|fail):EnvA k vs cap L:=h
theorem takesZ {H T H':List PH} (h:Takes H T H':=by (repeat (first|exact Takes.nil|(apply Takes.cons; exact (by (repeat (first|exact .here|apply Take.there)); first|done|fail)))); first|done|fail):Takes H T H':=h
theorem putiZ {ps:List Nat} {vs:List Value} {L L':Env} (h:PutI ps vs L L':=by (repeat (first|exact PutI.nil|apply PutI.cons)); first|done|fail):PutI ps vs L L':=h
theorem oneZ {vs:List Value} {p:Value→Prop} (h:∀ v∈vs,p v:=by (repeat (first|exact (fun v hv=>absurd hv List.not_mem_nil)|(refine List.forall_mem_cons.2 ⟨?_,?_⟩; (focus (first|exact rfl|assumption))))); first|done|fail):∀ v∈vs,p v:=h
theorem selZ {H H':List PH} (h:Sel H H':=by (repeat (first|exact Sel.nil|(apply Sel.cons; (focus ((repeat (first|exact .here|apply Mem.there|apply Take.there)); first|done|fail))))); first|done|fail):Sel H H':=h
theorem covZ {L L':Env} (h:Cover L L':=by (repeat (first|exact trivial|refine And.intro rfl ?_)); first|done|fail):Cover L L':=h
theorem pickZ {L L':Env} {ks:List Nat} (h:Pick L ks L':=by (repeat (first|exact Pick.nil|apply Pick.cons rfl)); first|done|fail):Pick L ks L':=h
theorem rdZ {R1 R H:List PH} (h:RdOK R1 R H:=by (repeat (first|exact RdOK.nil|(refine RdOK.consR ?_ ?_; (focus ((repeat (first|exact .here|apply Mem.there|apply Take.there)); first|done|fail)))|(refine RdOK.consH ?_ ?_; (focus ((repeat (first|exact .here|apply Mem.there|apply Take.there)); first|done|fail)))|exact (fun τ hτ=>.inl (by simp [hτ])))); first|done|fail):RdOK R1 R H:=h
theorem memZ {ρ:PH} {H:List PH} (h:Mem ρ H:=by (repeat (first|exact .here|apply Mem.there)); first|done|fail):Mem ρ H:=h
theorem takeZ {ρ:PH} {H H':List PH} (h:Take ρ H H':=by (repeat (first|exact .here|apply Take.there)); first|done|fail):Take ρ H H':=h
theorem AB {rest:List Oper} (h:JK C D R H ((d,v)::L) (.ops all rest::K)) (hq:Quiet C R H L o v:=by (apply E1; exact rfl)) (g:GWz C L all o d:=by exact ⟨rfl,rfl,rfl⟩):JK C D R H L (.ops all (o::rest)::K):=BB hq g.a g.b g.c h
theorem AS {rest:Pl} (h:DJ C D R Hf H ((d,v)::L) all (i::done) ps ls rest K) (ho:all[i]?=some o:=by exact rfl) (hq:Quiet C R H L o v:=by (apply E1; exact rfl)) (g:GWz C L all o d:=by exact ⟨rfl,rfl,rfl⟩) (hin:(ps.all (done.contains ·))=true:=by exact rfl):DJ C D R Hf H L all done ps ls (.q i rest) K:=BR ho hq g.a g.b g.c hin h
theorem AC {rest:List Oper} (h:JK C D R H ((d,v)::L) (.ops all rest::K)) (hq:Quiet C R H L o v:=by (apply DX; exact rfl)) (g:GWz C L all o d:=by exact ⟨rfl,rfl,rfl⟩):JK C D R H L (.ops all (o::rest)::K):=BB hq g.a g.b g.c h
theorem BD {rest:Pl} (h:DJ C D R Hf H ((d,v)::L) all (i::done) ps ls rest K) (ho:all[i]?=some o:=by exact rfl) (hq:Quiet C R H L o v:=by (apply DX; exact rfl)) (g:GWz C L all o d:=by exact ⟨rfl,rfl,rfl⟩) (hin:(ps.all (done.contains ·))=true:=by exact rfl):DJ C D R Hf H L all done ps ls (.q i rest) K:=BR ho hq g.a g.b g.c hin h
theorem AI {rest:List Oper} (h:JK C D R H ((d,v)::L) (.ops all rest::K)) (hq:Quiet C R H L o v:=by (apply DQ; exact rfl; exact rfl)) (g:GWz C L all o d:=by exact ⟨rfl,rfl,rfl⟩):JK C D R H L (.ops all (o::rest)::K):=BB hq g.a g.b g.c h
theorem CK {rest:Pl} (h:DJ C D R Hf H ((d,v)::L) all (i::done) ps ls rest K) (ho:all[i]?=some o:=by exact rfl) (hq:Quiet C R H L o v:=by (apply DQ; exact rfl; exact rfl)) (g:GWz C L all o d:=by exact ⟨rfl,rfl,rfl⟩) (hin:(ps.all (done.contains ·))=true:=by exact rfl):DJ C D R Hf H L all done ps ls (.q i rest) K:=BR ho hq g.a g.b g.c hin h
theorem AG {rest:List Oper} (h:JK C D R H ((d,v)::L) (.ops all rest::K)) (hq:Quiet C R H L o v:=by (apply E3; exact rfl; exact rfl; (first|exact cell_own (by (repeat (first|exact .here|apply Mem.there)); first|done|fail) rfl|exact cellR (by assumption) (by (repeat (first|exact .here|apply Mem.there)); first|done|fail)|exact cellH (by assumption) (by (repeat (first|exact .here|apply Mem.there)); first|done|fail)|exact cell_ints (by (repeat (first|exact .here|apply Mem.there)); first|done|fail) (by omega)|exact cell_bools (by assumption) (by (repeat (first|exact .here|apply Mem.there)); first|done|fail)|exact cell_intsR (by (repeat (first|exact .here|apply Mem.there)); first|done|fail) (by omega)|exact cell_boolsR (by assumption) (by (repeat (first|exact .here|apply Mem.there)); first|done|fail)))) (g:GWz C L all o d:=by exact ⟨rfl,rfl,rfl⟩):JK C D R H L (.ops all (o::rest)::K):=BB hq g.a g.b g.c h
theorem AW {rest:Pl} (h:DJ C D R Hf H ((d,v)::L) all (i::done) ps ls rest K) (ho:all[i]?=some o:=by exact rfl) (hq:Quiet C R H L o v:=by (apply E3; exact rfl; exact rfl; (first|exact cell_own (by (repeat (first|exact .here|apply Mem.there)); first|done|fail) rfl|exact cellR (by assumption) (by (repeat (first|exact .here|apply Mem.there)); first|done|fail)|exact cellH (by assumption) (by (repeat (first|exact .here|apply Mem.there)); first|done|fail)|exact cell_ints (by (repeat (first|exact .here|apply Mem.there)); first|done|fail) (by omega)|exact cell_bools (by assumption) (by (repeat (first|exact .here|apply Mem.there)); first|done|fail)|exact cell_intsR (by (repeat (first|exact .here|apply Mem.there)); first|done|fail) (by omega)|exact cell_boolsR (by assumption) (by (repeat (first|exact .here|apply Mem.there)); first|done|fail)))) (g:GWz C L all o d:=by exact ⟨rfl,rfl,rfl⟩) (hin:(ps.all (done.contains ·))=true:=by exact rfl):DJ C D R Hf H L all done ps ls (.q i rest) K:=BR ho hq g.a g.b g.c hin h
theorem AF {rest:List Oper} (h:JK C D R H ((d,v)::L) (.ops all rest::K)) (hq:Quiet C R H L o v:=by (apply E4; exact rfl; exact rfl)) (g:GWz C L all o d:=by exact ⟨rfl,rfl,rfl⟩):JK C D R H L (.ops all (o::rest)::K):=BB hq g.a g.b g.c h
theorem AQ {rest:Pl} (h:DJ C D R Hf H ((d,v)::L) all (i::done) ps ls rest K) (ho:all[i]?=some o:=by exact rfl) (hq:Quiet C R H L o v:=by (apply E4; exact rfl; exact rfl)) (g:GWz C L all o d:=by exact ⟨rfl,rfl,rfl⟩) (hin:(ps.all (done.contains ·))=true:=by exact rfl):DJ C D R Hf H L all done ps ls (.q i rest) K:=BR ho hq g.a g.b g.c hin h
theorem DW {rest:List Oper} (h:JK C D R H ((d,v)::L) (.ops all rest::K)) (hq:Quiet C R H L o v:=by (apply E6; exact rfl; exact rfl)) (g:GWz C L all o d:=by exact ⟨rfl,rfl,rfl⟩):JK C D R H L (.ops all (o::rest)::K):=BB hq g.a g.b g.c h
theorem EM {rest:Pl} (h:DJ C D R Hf H ((d,v)::L) all (i::done) ps ls rest K) (ho:all[i]?=some o:=by exact rfl) (hq:Quiet C R H L o v:=by (apply E6; exact rfl; exact rfl)) (g:GWz C L all o d:=by exact ⟨rfl,rfl,rfl⟩) (hin:(ps.all (done.contains ·))=true:=by exact rfl):DJ C D R Hf H L all done ps ls (.q i rest) K:=BR ho hq g.a g.b g.c hin h
theorem DT {rest:List Oper} (h:JK C D R H ((d,v)::L) (.ops all rest::K)) (hq:Quiet C R H L o v:=by (apply EU; exact rfl; exact rfl)) (g:GWz C L all o d:=by exact ⟨rfl,rfl,rfl⟩):JK C D R H L (.ops all (o::rest)::K):=BB hq g.a g.b g.c h
theorem D6 {rest:Pl} (h:DJ C D R Hf H ((d,v)::L) all (i::done) ps ls rest K) (ho:all[i]?=some o:=by exact rfl) (hq:Quiet C R H L o v:=by (apply EU; exact rfl; exact rfl)) (g:GWz C L all o d:=by exact ⟨rfl,rfl,rfl⟩) (hin:(ps.all (done.contains ·))=true:=by exact rfl):DJ C D R Hf H L all done ps ls (.q i rest) K:=BR ho hq g.a g.b g.c hin h
theorem C7 {rest:List Oper} (h:JK C D R H ((d,v)::L) (.ops all rest::K)) (hq:Quiet C R H L o v:=by (apply E5; exact rfl; exact rfl; exact rfl; exact rfl; omega)) (g:GWz C L all o d:=by exact ⟨rfl,rfl,rfl⟩):JK C D R H L (.ops all (o::rest)::K):=BB hq g.a g.b g.c h
theorem C8 {rest:Pl} (h:DJ C D R Hf H ((d,v)::L) all (i::done) ps ls rest K) (ho:all[i]?=some o:=by exact rfl) (hq:Quiet C R H L o v:=by (apply E5; exact rfl; exact rfl; exact rfl; exact rfl; omega)) (g:GWz C L all o d:=by exact ⟨rfl,rfl,rfl⟩) (hin:(ps.all (done.contains ·))=true:=by exact rfl):DJ C D R Hf H L all done ps ls (.q i rest) K:=BR ho hq g.a g.b g.c hin h
theorem CX {rest:List Oper} (h:JK C D R H ((d,v)::L) (.ops all rest::K)) (hq:Quiet C R H L o v:=by (apply E7; exact rfl; exact rfl; exact rfl; exact rfl; omega)) (g:GWz C L all o d:=by exact ⟨rfl,rfl,rfl⟩):JK C D R H L (.ops all (o::rest)::K):=BB hq g.a g.b g.c h
theorem DN {rest:Pl} (h:DJ C D R Hf H ((d,v)::L) all (i::done) ps ls rest K) (ho:all[i]?=some o:=by exact rfl) (hq:Quiet C R H L o v:=by (apply E7; exact rfl; exact rfl; exact rfl; exact rfl; omega)) (g:GWz C L all o d:=by exact ⟨rfl,rfl,rfl⟩) (hin:(ps.all (done.contains ·))=true:=by exact rfl):DJ C D R Hf H L all done ps ls (.q i rest) K:=BR ho hq g.a g.b g.c hin h
theorem AX {rest:List Oper} (h:JK C D R H ((d,v)::L) (.ops all rest::K)) (hq:Quiet C R H L o v:=by (apply DY; exact rfl; exact rfl)) (g:GWz C L all o d:=by exact ⟨rfl,rfl,rfl⟩):JK C D R H L (.ops all (o::rest)::K):=BB hq g.a g.b g.c h
theorem C9 {rest:Pl} (h:DJ C D R Hf H ((d,v)::L) all (i::done) ps ls rest K) (ho:all[i]?=some o:=by exact rfl) (hq:Quiet C R H L o v:=by (apply DY; exact rfl; exact rfl)) (g:GWz C L all o d:=by exact ⟨rfl,rfl,rfl⟩) (hin:(ps.all (done.contains ·))=true:=by exact rfl):DJ C D R Hf H L all done ps ls (.q i rest) K:=BR ho hq g.a g.b g.c hin h
theorem AK {rest:List Oper} (h:JK C D R H ((d,v)::L) (.ops all rest::K)) (hq:Quiet C R H L o v:=by (apply DZ; exact rfl; exact rfl)) (g:GWz C L all o d:=by exact ⟨rfl,rfl,rfl⟩):JK C D R H L (.ops all (o::rest)::K):=BB hq g.a g.b g.c h
theorem B8 {rest:Pl} (h:DJ C D R Hf H ((d,v)::L) all (i::done) ps ls rest K) (ho:all[i]?=some o:=by exact rfl) (hq:Quiet C R H L o v:=by (apply DZ; exact rfl; exact rfl)) (g:GWz C L all o d:=by exact ⟨rfl,rfl,rfl⟩) (hin:(ps.all (done.contains ·))=true:=by exact rfl):DJ C D R Hf H L all done ps ls (.q i rest) K:=BR ho hq g.a g.b g.c hin h
theorem BT {rest:List Oper} (h:JK C D R H ((d,v)::L) (.ops all rest::K)) (hq:Quiet C R H L o v:=by (apply q_len; exact rfl; exact rfl)) (g:GWz C L all o d:=by exact ⟨rfl,rfl,rfl⟩):JK C D R H L (.ops all (o::rest)::K):=BB hq g.a g.b g.c h
theorem C0 {rest:Pl} (h:DJ C D R Hf H ((d,v)::L) all (i::done) ps ls rest K) (ho:all[i]?=some o:=by exact rfl) (hq:Quiet C R H L o v:=by (apply q_len; exact rfl; exact rfl)) (g:GWz C L all o d:=by exact ⟨rfl,rfl,rfl⟩) (hin:(ps.all (done.contains ·))=true:=by exact rfl):DJ C D R Hf H L all done ps ls (.q i rest) K:=BR ho hq g.a g.b g.c hin h
theorem AY {rest:List Oper} (h:JK C D R H ((d,v)::L) (.ops all rest::K)) (hq:Quiet C R H L o v:=by (apply q_not; exact rfl)) (g:GWz C L all o d:=by exact ⟨rfl,rfl,rfl⟩):JK C D R H L (.ops all (o::rest)::K):=BB hq g.a g.b g.c h
theorem CQ {rest:Pl} (h:DJ C D R Hf H ((d,v)::L) all (i::done) ps ls rest K) (ho:all[i]?=some o:=by exact rfl) (hq:Quiet C R H L o v:=by (apply q_not; exact rfl)) (g:GWz C L all o d:=by exact ⟨rfl,rfl,rfl⟩) (hin:(ps.all (done.contains ·))=true:=by exact rfl):DJ C D R Hf H L all done ps ls (.q i rest) K:=BR ho hq g.a g.b g.c hin h
theorem AU {rest:List Oper} (h:JK C D R H ((d,v)::L) (.ops all rest::K)) (hq:Quiet C R H L o v:=by (apply DD; exact rfl)) (g:GWz C L all o d:=by exact ⟨rfl,rfl,rfl⟩):JK C D R H L (.ops all (o::rest)::K):=BB hq g.a g.b g.c h
theorem AT {rest:Pl} (h:DJ C D R Hf H ((d,v)::L) all (i::done) ps ls rest K) (ho:all[i]?=some o:=by exact rfl) (hq:Quiet C R H L o v:=by (apply DD; exact rfl)) (g:GWz C L all o d:=by exact ⟨rfl,rfl,rfl⟩) (hin:(ps.all (done.contains ·))=true:=by exact rfl):DJ C D R Hf H L all done ps ls (.q i rest) K:=BR ho hq g.a g.b g.c hin h
theorem B6 {rest:List Oper} (h:JK C D R H ((d,v)::L) (.ops all rest::K)) (hq:Quiet C R H L o v:=by (apply q_inc; exact rfl; exact rfl; omega)) (g:GWz C L all o d:=by exact ⟨rfl,rfl,rfl⟩):JK C D R H L (.ops all (o::rest)::K):=BB hq g.a g.b g.c h
theorem CM {rest:List Oper} (h:JK C D R H ((d,v)::L) (.ops all rest::K)) (hq:Quiet C R H L o v:=by (apply q_lt; exact rfl; exact rfl; omega)) (g:GWz C L all o d:=by exact ⟨rfl,rfl,rfl⟩):JK C D R H L (.ops all (o::rest)::K):=BB hq g.a g.b g.c h
theorem BM {rest:List Oper} (h:JK C D R H ((d,v)::L) (.ops all rest::K)) (hq:Quiet C R H L o v:=by (apply q_ltF; exact rfl; exact rfl; omega)) (g:GWz C L all o d:=by exact ⟨rfl,rfl,rfl⟩):JK C D R H L (.ops all (o::rest)::K):=BB hq g.a g.b g.c h
theorem zd_ltF {rest:Pl} (h:DJ C D R Hf H ((d,v)::L) all (i::done) ps ls rest K) (ho:all[i]?=some o:=by exact rfl) (hq:Quiet C R H L o v:=by (apply q_ltF; exact rfl; exact rfl; omega)) (g:GWz C L all o d:=by exact ⟨rfl,rfl,rfl⟩) (hin:(ps.all (done.contains ·))=true:=by exact rfl):DJ C D R Hf H L all done ps ls (.q i rest) K:=BR ho hq g.a g.b g.c hin h
theorem CN {rest:List Oper} (h:JK C D R H ((d,v)::L) (.ops all rest::K)) (hq:Quiet C R H L o v:=by (apply q_eq; exact rfl; exact rfl; omega)) (g:GWz C L all o d:=by exact ⟨rfl,rfl,rfl⟩):JK C D R H L (.ops all (o::rest)::K):=BB hq g.a g.b g.c h
theorem zd_eq {rest:Pl} (h:DJ C D R Hf H ((d,v)::L) all (i::done) ps ls rest K) (ho:all[i]?=some o:=by exact rfl) (hq:Quiet C R H L o v:=by (apply q_eq; exact rfl; exact rfl; omega)) (g:GWz C L all o d:=by exact ⟨rfl,rfl,rfl⟩) (hin:(ps.all (done.contains ·))=true:=by exact rfl):DJ C D R Hf H L all done ps ls (.q i rest) K:=BR ho hq g.a g.b g.c hin h
theorem B9 {rest:List Oper} (h:JK C D R H ((d,v)::L) (.ops all rest::K)) (hq:Quiet C R H L o v:=by (apply q_eqF; exact rfl; exact rfl; omega)) (g:GWz C L all o d:=by exact ⟨rfl,rfl,rfl⟩):JK C D R H L (.ops all (o::rest)::K):=BB hq g.a g.b g.c h
theorem D7 {rest:Pl} (h:DJ C D R Hf H ((d,v)::L) all (i::done) ps ls rest K) (ho:all[i]?=some o:=by exact rfl) (hq:Quiet C R H L o v:=by (apply q_eqF; exact rfl; exact rfl; omega)) (g:GWz C L all o d:=by exact ⟨rfl,rfl,rfl⟩) (hin:(ps.all (done.contains ·))=true:=by exact rfl):DJ C D R Hf H L all done ps ls (.q i rest) K:=BR ho hq g.a g.b g.c hin h
theorem DU {rest:List Oper} (h:JK C D R H ((d,v)::L) (.ops all rest::K)) (hq:Quiet C R H L o v:=by (apply q_ne; exact rfl; exact rfl; omega)) (g:GWz C L all o d:=by exact ⟨rfl,rfl,rfl⟩):JK C D R H L (.ops all (o::rest)::K):=BB hq g.a g.b g.c h
theorem A5 {rest:List Oper} (h:JK C D R H ((d,v)::L) (.ops all rest::K)) (hq:Quiet C R H L o v:=by (apply q_neF; exact rfl; exact rfl; omega)) (g:GWz C L all o d:=by exact ⟨rfl,rfl,rfl⟩):JK C D R H L (.ops all (o::rest)::K):=BB hq g.a g.b g.c h
theorem EN {rest:Pl} (h:DJ C D R Hf H ((d,v)::L) all (i::done) ps ls rest K) (ho:all[i]?=some o:=by exact rfl) (hq:Quiet C R H L o v:=by (apply q_neF; exact rfl; exact rfl; omega)) (g:GWz C L all o d:=by exact ⟨rfl,rfl,rfl⟩) (hin:(ps.all (done.contains ·))=true:=by exact rfl):DJ C D R Hf H L all done ps ls (.q i rest) K:=BR ho hq g.a g.b g.c hin h
theorem C1 {rest:List Oper} (h:JK C D R H ((d,v)::L) (.ops all rest::K)) (hq:Quiet C R H L o v:=by (apply q_gt; exact rfl; exact rfl; omega)) (g:GWz C L all o d:=by exact ⟨rfl,rfl,rfl⟩):JK C D R H L (.ops all (o::rest)::K):=BB hq g.a g.b g.c h
theorem FJ {rest:Pl} (h:DJ C D R Hf H ((d,v)::L) all (i::done) ps ls rest K) (ho:all[i]?=some o:=by exact rfl) (hq:Quiet C R H L o v:=by (apply q_gt; exact rfl; exact rfl; omega)) (g:GWz C L all o d:=by exact ⟨rfl,rfl,rfl⟩) (hin:(ps.all (done.contains ·))=true:=by exact rfl):DJ C D R Hf H L all done ps ls (.q i rest) K:=BR ho hq g.a g.b g.c hin h
theorem BZ {rest:List Oper} (h:JK C D R H ((d,v)::L) (.ops all rest::K)) (hq:Quiet C R H L o v:=by (apply q_gtF; exact rfl; exact rfl; omega)) (g:GWz C L all o d:=by exact ⟨rfl,rfl,rfl⟩):JK C D R H L (.ops all (o::rest)::K):=BB hq g.a g.b g.c h
theorem EO {rest:Pl} (h:DJ C D R Hf H ((d,v)::L) all (i::done) ps ls rest K) (ho:all[i]?=some o:=by exact rfl) (hq:Quiet C R H L o v:=by (apply q_gtF; exact rfl; exact rfl; omega)) (g:GWz C L all o d:=by exact ⟨rfl,rfl,rfl⟩) (hin:(ps.all (done.contains ·))=true:=by exact rfl):DJ C D R Hf H L all done ps ls (.q i rest) K:=BR ho hq g.a g.b g.c hin h
theorem EY {rest:List Oper} (h:JK C D R H ((d,v)::L) (.ops all rest::K)) (hq:Quiet C R H L o v:=by (apply q_le; exact rfl; exact rfl; omega)) (g:GWz C L all o d:=by exact ⟨rfl,rfl,rfl⟩):JK C D R H L (.ops all (o::rest)::K):=BB hq g.a g.b g.c h
theorem zd_le {rest:Pl} (h:DJ C D R Hf H ((d,v)::L) all (i::done) ps ls rest K) (ho:all[i]?=some o:=by exact rfl) (hq:Quiet C R H L o v:=by (apply q_le; exact rfl; exact rfl; omega)) (g:GWz C L all o d:=by exact ⟨rfl,rfl,rfl⟩) (hin:(ps.all (done.contains ·))=true:=by exact rfl):DJ C D R Hf H L all done ps ls (.q i rest) K:=BR ho hq g.a g.b g.c hin h
theorem D8 {rest:List Oper} (h:JK C D R H ((d,v)::L) (.ops all rest::K)) (hq:Quiet C R H L o v:=by (apply q_leF; exact rfl; exact rfl; omega)) (g:GWz C L all o d:=by exact ⟨rfl,rfl,rfl⟩):JK C D R H L (.ops all (o::rest)::K):=BB hq g.a g.b g.c h
theorem zd_leF {rest:Pl} (h:DJ C D R Hf H ((d,v)::L) all (i::done) ps ls rest K) (ho:all[i]?=some o:=by exact rfl) (hq:Quiet C R H L o v:=by (apply q_leF; exact rfl; exact rfl; omega)) (g:GWz C L all o d:=by exact ⟨rfl,rfl,rfl⟩) (hin:(ps.all (done.contains ·))=true:=by exact rfl):DJ C D R Hf H L all done ps ls (.q i rest) K:=BR ho hq g.a g.b g.c hin h
theorem DO {rest:List Oper} (h:JK C D R H ((d,v)::L) (.ops all rest::K)) (hq:Quiet C R H L o v:=by (apply q_ge; exact rfl; exact rfl; omega)) (g:GWz C L all o d:=by exact ⟨rfl,rfl,rfl⟩):JK C D R H L (.ops all (o::rest)::K):=BB hq g.a g.b g.c h
theorem DA {rest:List Oper} (h:JK C D R H ((d,v)::L) (.ops all rest::K)) (hq:Quiet C R H L o v:=by (apply q_geF; exact rfl; exact rfl; omega)) (g:GWz C L all o d:=by exact ⟨rfl,rfl,rfl⟩):JK C D R H L (.ops all (o::rest)::K):=BB hq g.a g.b g.c h
theorem CL {rest:List Oper} (h:JK C D R H ((d,v)::L) (.ops all rest::K)) (hq:Quiet C R H L o v:=by (apply DR; exact rfl; exact rfl; omega; omega)) (g:GWz C L all o d:=by exact ⟨rfl,rfl,rfl⟩):JK C D R H L (.ops all (o::rest)::K):=BB hq g.a g.b g.c h
theorem CY {rest:Pl} (h:DJ C D R Hf H ((d,v)::L) all (i::done) ps ls rest K) (ho:all[i]?=some o:=by exact rfl) (hq:Quiet C R H L o v:=by (apply DR; exact rfl; exact rfl; omega; omega)) (g:GWz C L all o d:=by exact ⟨rfl,rfl,rfl⟩) (hin:(ps.all (done.contains ·))=true:=by exact rfl):DJ C D R Hf H L all done ps ls (.q i rest) K:=BR ho hq g.a g.b g.c hin h
theorem CG {rest:List Oper} (h:JK C D R H ((d,v)::L) (.ops all rest::K)) (hq:Quiet C R H L o v:=by (apply FB; exact rfl; exact rfl; exact ⟨by omega,by omega⟩)) (g:GWz C L all o d:=by exact ⟨rfl,rfl,rfl⟩):JK C D R H L (.ops all (o::rest)::K):=BB hq g.a g.b g.c h
theorem DB {rest:Pl} (h:DJ C D R Hf H ((d,v)::L) all (i::done) ps ls rest K) (ho:all[i]?=some o:=by exact rfl) (hq:Quiet C R H L o v:=by (apply FB; exact rfl; exact rfl; exact ⟨by omega,by omega⟩)) (g:GWz C L all o d:=by exact ⟨rfl,rfl,rfl⟩) (hin:(ps.all (done.contains ·))=true:=by exact rfl):DJ C D R Hf H L all done ps ls (.q i rest) K:=BR ho hq g.a g.b g.c hin h
theorem CR {rest:List Oper} (h:JK C D R H ((d,v)::L) (.ops all rest::K)) (hq:Quiet C R H L o v:=by (apply FC; exact rfl; exact rfl; exact ⟨by omega,by omega⟩)) (g:GWz C L all o d:=by exact ⟨rfl,rfl,rfl⟩):JK C D R H L (.ops all (o::rest)::K):=BB hq g.a g.b g.c h
theorem zd_sub {rest:Pl} (h:DJ C D R Hf H ((d,v)::L) all (i::done) ps ls rest K) (ho:all[i]?=some o:=by exact rfl) (hq:Quiet C R H L o v:=by (apply FC; exact rfl; exact rfl; exact ⟨by omega,by omega⟩)) (g:GWz C L all o d:=by exact ⟨rfl,rfl,rfl⟩) (hin:(ps.all (done.contains ·))=true:=by exact rfl):DJ C D R Hf H L all done ps ls (.q i rest) K:=BR ho hq g.a g.b g.c hin h
theorem zq_dbl {rest:List Oper} (h:JK C D R H ((d,v)::L) (.ops all rest::K)) (hq:Quiet C R H L o v:=by (apply q_dbl; exact rfl; exact rfl; omega)) (g:GWz C L all o d:=by exact ⟨rfl,rfl,rfl⟩):JK C D R H L (.ops all (o::rest)::K):=BB hq g.a g.b g.c h
theorem E9 {rest:List Oper} (h:JK C D R H ((d,v)::L) (.ops all rest::K)) (hq:Quiet C R H L o v:=by (apply q_rem; exact rfl; exact rfl; omega; omega)) (g:GWz C L all o d:=by exact ⟨rfl,rfl,rfl⟩):JK C D R H L (.ops all (o::rest)::K):=BB hq g.a g.b g.c h
theorem AR {rest:List Oper} (h:JK C D R H ((d,v)::L) (.ops all rest::K)) (hq:Quiet C R H L o v:=by (apply EG; exact rfl; exact rfl; (first|(exact cells_own (by (repeat (first|exact .here|apply Mem.there)); first|done|fail); exact rfl)|(exact cellsR (by assumption) (by (repeat (first|exact .here|apply Mem.there)); first|done|fail); exact rfl)|(exact cellsH (by assumption) (by (repeat (first|exact .here|apply Mem.there)); first|done|fail); exact rfl)|(exact cellsP (by assumption) (by (repeat (first|exact .here|apply Mem.there)); first|done|fail); exact rfl)))) (g:GWz C L all o d:=by exact ⟨rfl,rfl,rfl⟩):JK C D R H L (.ops all (o::rest)::K):=BB hq g.a g.b g.c h
theorem B5 {rest:Pl} (h:DJ C D R Hf H ((d,v)::L) all (i::done) ps ls rest K) (ho:all[i]?=some o:=by exact rfl) (hq:Quiet C R H L o v:=by (apply EG; exact rfl; exact rfl; (first|(exact cells_own (by (repeat (first|exact .here|apply Mem.there)); first|done|fail); exact rfl)|(exact cellsR (by assumption) (by (repeat (first|exact .here|apply Mem.there)); first|done|fail); exact rfl)|(exact cellsH (by assumption) (by (repeat (first|exact .here|apply Mem.there)); first|done|fail); exact rfl)|(exact cellsP (by assumption) (by (repeat (first|exact .here|apply Mem.there)); first|done|fail); exact rfl)))) (g:GWz C L all o d:=by exact ⟨rfl,rfl,rfl⟩) (hin:(ps.all (done.contains ·))=true:=by exact rfl):DJ C D R Hf H L all done ps ls (.q i rest) K:=BR ho hq g.a g.b g.c hin h
theorem CE {rest:List Oper} (h:JK C D R H ((d,v)::L) (.ops all rest::K)) (hq:Quiet C R H L o v:=by (apply EA; exact rfl; exact rfl)) (g:GWz C L all o d:=by exact ⟨rfl,rfl,rfl⟩):JK C D R H L (.ops all (o::rest)::K):=BB hq g.a g.b g.c h
theorem CS {rest:List Oper} (h:JK C D R H ((d,v)::L) (.ops all rest::K)) (hq:Quiet C R H L o v:=by (apply FH; exact rfl; exact rfl; exact rfl; exact ⟨by omega,by omega⟩)) (g:GWz C L all o d:=by exact ⟨rfl,rfl,rfl⟩):JK C D R H L (.ops all (o::rest)::K):=BB hq g.a g.b g.c h
theorem EZ {rest:Pl} (h:DJ C D R Hf H ((d,v)::L) all (i::done) ps ls rest K) (ho:all[i]?=some o:=by exact rfl) (hq:Quiet C R H L o v:=by (apply EI; exact rfl; exact rfl; exact rfl; exact rfl; omega)) (g:GWz C L all o d:=by exact ⟨rfl,rfl,rfl⟩) (hin:(ps.all (done.contains ·))=true:=by exact rfl):DJ C D R Hf H L all done ps ls (.q i rest) K:=BR ho hq g.a g.b g.c hin h
theorem B0 {rest:List Oper} (h:JK C D R H ((d,v)::L) (.ops all rest::K)) (hq:Quiet C R H L o v:=by (apply EE; exact rfl; exact rfl; exact (by (repeat (first|exact Bld.nil|apply Bld.put rfl rfl rfl|apply Bld.keep rfl)); first|done|fail))) (g:GWz C L all o d:=by exact ⟨rfl,rfl,rfl⟩):JK C D R H L (.ops all (o::rest)::K):=BB hq g.a g.b g.c h
theorem D9 {rest:Pl} (h:DJ C D R Hf H ((d,v)::L) all (i::done) ps ls rest K) (ho:all[i]?=some o:=by exact rfl) (hq:Quiet C R H L o v:=by (apply EE; exact rfl; exact rfl; exact (by (repeat (first|exact Bld.nil|apply Bld.put rfl rfl rfl|apply Bld.keep rfl)); first|done|fail))) (g:GWz C L all o d:=by exact ⟨rfl,rfl,rfl⟩) (hin:(ps.all (done.contains ·))=true:=by exact rfl):DJ C D R Hf H L all done ps ls (.q i rest) K:=BR ho hq g.a g.b g.c hin h
theorem BG {rest:List Oper} {post:Value→List PH→Prop} (h:∀ u H',post u H'→JK C D R H' ((d,u)::L) (.ops all rest::K)) (hl:Loud C R H L o post:=by (apply BP; exact rfl)) (g:GWz C L all o d:=by exact ⟨rfl,rfl,rfl⟩):JK C D R H L (.ops all (o::rest)::K):=A9 hl g.a g.b g.c h
theorem BU {rest:Pl} {post:Value→List PH→Prop} (h:∀ v H',post v H'→DJ C D R Hf H' ((d,v)::L) all (i::done) ps (i::ls) rest K) (ho:all[i]?=some o:=by exact rfl) (hl:Loud C R H L o post:=by (apply BP; exact rfl)) (g:GWz C L all o d:=by exact ⟨rfl,rfl,rfl⟩) (hsub:∀ v H',post v H'→∀ w,Sat C.N R H' w→Sat C.N R H w:=by (rintro _ _ ⟨b,rfl,rfl⟩ w hw; exact hw.tail)):ActOK C D R Hf H L all done ps ls i .e rest K:=a_e ho hl g.a g.b g.c hsub h
theorem CI {rest:Pl} {post:Value→List PH→Prop} (h:∀ v H',post v H'→DJ C D R Hf H' ((d,v)::L) all (i::done) ps (i::ls) rest K) (ho:all[i]?=some o:=by exact rfl) (hl:Loud C R H L o post:=by (apply BP; exact rfl)) (g:GWz C L all o d:=by exact ⟨rfl,rfl,rfl⟩) (hsub:∀ v H',post v H'→∀ w,Sat C.N R H' w→Sat C.N R H w:=by (rintro _ _ ⟨b,rfl,rfl⟩ w hw; exact hw.tail)):DJ C D R Hf H L all done ps ls (.l i .e rest) K:=BV (a_e ho hl g.a g.b g.c hsub h)
theorem DC {rest:List Oper} {post:Value→List PH→Prop} (h:∀ u H',post u H'→JK C D R H' ((d,u)::L) (.ops all rest::K)) (hl:Loud C R H L o post:=by (apply EW; exact rfl; exact rfl)) (g:GWz C L all o d:=by exact ⟨rfl,rfl,rfl⟩):JK C D R H L (.ops all (o::rest)::K):=A9 hl g.a g.b g.c h
theorem B7 {rest:List Oper} {post:Value→List PH→Prop} (h:∀ u H',post u H'→JK C D R H' ((d,u)::L) (.ops all rest::K)) (hl:Loud C R H L o post:=by (apply BY; exact rfl; exact rfl; exact rfl; exact rfl; exact rfl; exact (by (repeat (first|exact (fun v hv=>absurd hv List.not_mem_nil)|(refine List.forall_mem_cons.2 ⟨?_,?_⟩; (focus (first|exact rfl|assumption))))); first|done|fail); exact (by (repeat (first|exact Flat.nil|apply Flat.one rfl|apply Flat.agg2|apply Flat.agg3|apply Flat.agg1|apply Flat.agg4|apply Flat.agg5)); first|done|fail); exact rfl)) (g:GWz C L all o d:=by exact ⟨rfl,rfl,rfl⟩):JK C D R H L (.ops all (o::rest)::K):=A9 hl g.a g.b g.c h
theorem BC {rest:Pl} {post:Value→List PH→Prop} (h:∀ v H',post v H'→DJ C D R Hf H' ((d,v)::L) all (i::done) ps (i::ls) rest K) (ho:all[i]?=some o:=by exact rfl) (hl:Loud C R H L o post:=by (apply BY; exact rfl; exact rfl; exact rfl; exact rfl; exact rfl; exact (by (repeat (first|exact (fun v hv=>absurd hv List.not_mem_nil)|(refine List.forall_mem_cons.2 ⟨?_,?_⟩; (focus (first|exact rfl|assumption))))); first|done|fail); exact (by (repeat (first|exact Flat.nil|apply Flat.one rfl|apply Flat.agg2|apply Flat.agg3|apply Flat.agg1|apply Flat.agg4|apply Flat.agg5)); first|done|fail); exact rfl)) (g:GWz C L all o d:=by exact ⟨rfl,rfl,rfl⟩) (hsub:∀ v H',post v H'→∀ w,Sat C.N R H' w→Sat C.N R H w:=by (rintro _ _ ⟨b,rfl,rfl⟩ w hw; exact hw.tail)):ActOK C D R Hf H L all done ps ls i .e rest K:=a_e ho hl g.a g.b g.c hsub h
theorem BN {rest:Pl} {post:Value→List PH→Prop} (h:∀ v H',post v H'→DJ C D R Hf H' ((d,v)::L) all (i::done) ps (i::ls) rest K) (ho:all[i]?=some o:=by exact rfl) (hl:Loud C R H L o post:=by (apply BY; exact rfl; exact rfl; exact rfl; exact rfl; exact rfl; exact (by (repeat (first|exact (fun v hv=>absurd hv List.not_mem_nil)|(refine List.forall_mem_cons.2 ⟨?_,?_⟩; (focus (first|exact rfl|assumption))))); first|done|fail); exact (by (repeat (first|exact Flat.nil|apply Flat.one rfl|apply Flat.agg2|apply Flat.agg3|apply Flat.agg1|apply Flat.agg4|apply Flat.agg5)); first|done|fail); exact rfl)) (g:GWz C L all o d:=by exact ⟨rfl,rfl,rfl⟩) (hsub:∀ v H',post v H'→∀ w,Sat C.N R H' w→Sat C.N R H w:=by (rintro _ _ ⟨b,rfl,rfl⟩ w hw; exact hw.tail)):DJ C D R Hf H L all done ps ls (.l i .e rest) K:=BV (a_e ho hl g.a g.b g.c hsub h)
theorem CJ {rest:List Oper} {post:Value→List PH→Prop} (h:∀ u H',post u H'→JK C D R H' ((d,u)::L) (.ops all rest::K)) (hl:Loud C R H L o post:=by (apply BK; exact rfl)) (g:GWz C L all o d:=by exact ⟨rfl,rfl,rfl⟩):JK C D R H L (.ops all (o::rest)::K):=A9 hl g.a g.b g.c h
theorem FL {rest:Pl} {post:Value→List PH→Prop} (h:∀ v H',post v H'→DJ C D R Hf H' ((d,v)::L) all (i::done) ps (i::ls) rest K) (ho:all[i]?=some o:=by exact rfl) (hl:Loud C R H L o post:=by (apply BK; exact rfl)) (g:GWz C L all o d:=by exact ⟨rfl,rfl,rfl⟩) (hsub:∀ v H',post v H'→∀ w,Sat C.N R H' w→Sat C.N R H w:=by (rintro _ _ ⟨b,rfl,rfl⟩ w hw; exact hw.tail)):ActOK C D R Hf H L all done ps ls i .e rest K:=a_e ho hl g.a g.b g.c hsub h
theorem FM {rest:Pl} {post:Value→List PH→Prop} (h:∀ v H',post v H'→DJ C D R Hf H' ((d,v)::L) all (i::done) ps (i::ls) rest K) (ho:all[i]?=some o:=by exact rfl) (hl:Loud C R H L o post:=by (apply BK; exact rfl)) (g:GWz C L all o d:=by exact ⟨rfl,rfl,rfl⟩) (hsub:∀ v H',post v H'→∀ w,Sat C.N R H' w→Sat C.N R H w:=by (rintro _ _ ⟨b,rfl,rfl⟩ w hw; exact hw.tail)):DJ C D R Hf H L all done ps ls (.l i .e rest) K:=BV (a_e ho hl g.a g.b g.c hsub h)
theorem FN {rest:List Oper} {post:Value→List PH→Prop} (h:∀ u H',post u H'→JK C D R H' ((d,u)::L) (.ops all rest::K)) (hl:Loud C R H L o post:=by (apply DE; exact rfl; exact rfl)) (g:GWz C L all o d:=by exact ⟨rfl,rfl,rfl⟩):JK C D R H L (.ops all (o::rest)::K):=A9 hl g.a g.b g.c h
theorem A4 {all:Array Oper} {o:Oper} {rest:List Oper} {post:Value→List PH→Prop} (h:∀ u H',post u H'→JK C D R H' L (.ops all rest::K)) (hl:Loud C R H L o post:=by (apply BA; exact rfl; exact rfl; exact (by (repeat (first|exact .here|apply Take.there)); first|done|fail); exact (by (repeat (first|exact (fun v hv=>absurd hv List.not_mem_nil)|(refine List.forall_mem_cons.2 ⟨?_,?_⟩; (focus (first|exact rfl|assumption))))); first|done|fail); exact rfl; exact rfl)) (hg:wantE all L o=some true:=by exact rfl) (hd:o.dst=none:=by exact rfl):JK C D R H L (.ops all (o::rest)::K):=B4 hl hg hd h
theorem A6 {all:Array Oper} {o:Oper} {rest:List Oper} {post:Value→List PH→Prop} (h:∀ u H',post u H'→JK C D R H' L (.ops all rest::K)) (hl:Loud C R H L o post:=by (apply D3; exact rfl; exact rfl; (first|exact rfl|assumption); exact rfl; exact (by (repeat (first|exact .here|apply Take.there)); first|done|fail); (focus (repeat (first|exact SetL.here|apply SetL.there)); done))) (hg:wantE all L o=some true:=by exact rfl) (hd:o.dst=none:=by exact rfl):JK C D R H L (.ops all (o::rest)::K):=B4 hl hg hd h
theorem EP {all:Array Oper} {done:List Nat} {i:Nat} {rest:Pl} {o:Oper} {post:Value→List PH→Prop} (h:∀ v H',post v H'→DJ C D R Hf H' L all (i::done) ps (i::ls) rest K) (ho:all[i]?=some o:=by exact rfl) (hl:Loud C R H L o post:=by (apply D3; exact rfl; exact rfl; (first|exact rfl|assumption); exact rfl; exact (by (repeat (first|exact .here|apply Take.there)); first|done|fail); (focus (repeat (first|exact SetL.here|apply SetL.there)); done))) (hg:wantE all L o=some true:=by exact rfl) (hd:o.dst=none:=by exact rfl) (hsub:∀ v H',post v H'→∀ w,Sat C.N R H' w→Sat C.N R Hf w:=by (rintro _ _ ⟨_,rfl⟩ w hw; exact hw.sel (by (repeat (first|exact Sel.nil|(apply Sel.cons; (focus ((repeat (first|exact .here|apply Mem.there|apply Take.there)); first|done|fail))))); first|done|fail))):DJ C D R Hf H L all done ps ls (.l i .b rest) K:=BV (CU ho hl hg hd hsub h)
theorem A2 {P:Program} {fn:Func} {N:Bs} {M t:Nat} {R R0 H H':List PH} {L:Env} {K:List It} {post:Value→List PH→Prop} {v:Value} (hp:post v H') (hr:fn.results = #[.tmp t]:=by exact rfl) (hv:look L t=some v:=by exact rfl) (hR:∀ ρ∈R0,ρ∈R:=by exact rsubZ) (hH:Sel H H':=by exact selZ):JK ⟨none,P,FnQ P fn N R0 post,N,M⟩ [] R H L (.code .ret::K):=AP (res1 hr hv) hR hH hp
abbrev P0Z:Pl:=.q 0 (.q 1 (.q 2 (.q 3 (.q 4 (.q 5 (.q 6 (.q 7 (.q 8 (.q 9 (.q 10 .nil))))))))))
abbrev P1Z:Pl:=.q 0 (.q 1 (.q 2 (.q 3 (.q 4 (.q 5 (.q 6 (.q 7 (.q 8 (.q 9 (.q 10 (.q 11 (.q 12 .nil))))))))))))
theorem rdB (b:Nat) (t:TypeId) (vs:List Value):RdN (sng b (.cells vs.toArray t (0,0))) b 0 vs:=fun j v hv=>by
 rw [rdc_sng,Nat.zero_add]
 simpa using hv
theorem rdQ {ρ:PH} {b:Nat} {xs ys:List Value} (h:RdN ρ b 0 (xs ++ ys)):RdP ρ b 0 xs:=⟨fun j v hv=>h j v (by
 rw [List.getElem?_append_left (List.getElem?_eq_some_iff.1 hv).1]
 exact hv)⟩
theorem rdC {ρ:PH} {b:Nat} {vs:List Value} {v:Value} (h:RdN ρ b 0 vs) (i:Nat) (e:vs[i]?=some v:=by rfl):rdc ρ b i=some v:=by
 have:=h i v e
 rwa [Nat.zero_add] at this
structure Wg (G:Prop):Prop where
  p:G
theorem Aa {J G:Prop} (g:G) (h:Wg G→J:=by intro g;refine AD ?_;refine AA ?_;exact g.1):J:=h ⟨g⟩
theorem Aaa {J G:Prop} (g:G) (h:Wg G→J:=by intro g;refine AC ?_;refine AE ?_;exact g.1):J:=h ⟨g⟩
theorem Aab {J G:Prop} (g:G) (h:Wg G→J:=by intro g;refine Aa ?_;refine AB ?_;exact g.1):J:=h ⟨g⟩
theorem Aac {J G:Prop} (g:G) (h:Wg G→J:=by intro g;refine AF ?_;refine AG ?_;exact g.1):J:=h ⟨g⟩
theorem Aad {J G:Prop} (g:G) (h:Wg G→J:=by intro g;refine AJ rfl ?_;refine AM ?_;exact g.1):J:=h ⟨g⟩
theorem Aae {J G:Prop} (g:G) (h:Wg G→J:=by intro g;refine AN rfl rfl rfl ?_;refine AN rfl rfl rfl ?_;exact g.1):J:=h ⟨g⟩
theorem Aaf {J G:Prop} (g:G) (h:Wg G→J:=by intro g;refine AE ?_;refine Aad ?_;exact g.1):J:=h ⟨g⟩
theorem Aag {J G:Prop} (g:G) (h:Wg G→J:=by intro g;refine Aaa ?_;refine AD ?_;exact g.1):J:=h ⟨g⟩
theorem Aah {J G:Prop} (g:G) (h:Wg G→J:=by intro g;refine AB ?_;refine Aac ?_;exact g.1):J:=h ⟨g⟩
theorem Aai {J G:Prop} (g:G) (h:Wg G→J:=by intro g;refine Aaa ?_;refine Aab ?_;exact g.1):J:=h ⟨g⟩
theorem Aaj {J G:Prop} (g:G) (h:Wg G→J:=by intro g;refine AQ ?_;refine AW ?_;exact g.1):J:=h ⟨g⟩
theorem Aak {J G:Prop} (g:G) (h:Wg G→J:=by intro g;refine Aa ?_;refine Aac ?_;exact g.1):J:=h ⟨g⟩
theorem Aal {J G:Prop} (g:G) (h:Wg G→J:=by intro g;refine AE ?_;refine AD ?_;exact g.1):J:=h ⟨g⟩
theorem Aam {J G:Prop} (g:G) (h:Wg G→J:=by intro g;refine Aag ?_;refine Aab ?_;exact g.1):J:=h ⟨g⟩
theorem Aan {J G:Prop} (g:G) (h:Wg G→J:=by intro g;refine AB ?_;refine AB ?_;exact g.1):J:=h ⟨g⟩
theorem Aao {J G:Prop} (g:G) (h:Wg G→J:=by intro g;refine AK ?_;refine Aaf ?_;exact g.1):J:=h ⟨g⟩
theorem Aap {J G:Prop} (g:G) (h:Wg G→J:=by intro g;refine AI ?_;refine AI ?_;exact g.1):J:=h ⟨g⟩
theorem Aaq {J G:Prop} (g:G) (h:Wg G→J:=by intro g;refine AB ?_;refine Aap ?_;exact g.1):J:=h ⟨g⟩
theorem Aar {J G:Prop} (g:G) (h:Wg G→J:=by intro g;refine AS ?_;refine AT ?_;exact g.1):J:=h ⟨g⟩
theorem Aas {J G:Prop} (g:G) (h:Wg G→J:=by intro g;refine AJ rfl ?_;refine BO rfl ?_;exact g.1):J:=h ⟨g⟩
theorem Aat {J G:Prop} (g:G) (h:Wg G→J:=by intro g;refine Aa ?_;refine AR ?_;exact g.1):J:=h ⟨g⟩
theorem Aau {J G:Prop} (g:G) (h:Wg G→J:=by intro g;refine AE ?_;refine A3 rfl ?_;exact g.1):J:=h ⟨g⟩
theorem Aav {J G:Prop} (g:G) (h:Wg G→J:=by intro g;refine BS rfl rfl rfl rfl rfl ?_;refine BS rfl rfl rfl rfl rfl ?_;exact g.1):J:=h ⟨g⟩
theorem Aaw {J G:Prop} (g:G) (h:Wg G→J:=by intro g;refine Aa ?_;refine Aaa ?_;exact g.1):J:=h ⟨g⟩
theorem Aax {J G:Prop} (g:G) (h:Wg G→J:=by intro g;refine Aaf ?_;refine AD ?_;exact g.1):J:=h ⟨g⟩
theorem Aay {J G:Prop} (g:G) (h:Wg G→J:=by intro g;refine AF ?_;refine Aac ?_;exact g.1):J:=h ⟨g⟩
theorem Aaz {J G:Prop} (g:G) (h:Wg G→J:=by intro g;refine AB ?_;refine AE ?_;exact g.1):J:=h ⟨g⟩
theorem Aa0 {J G:Prop} (g:G) (h:Wg G→J:=by intro g;refine AB ?_;refine Aae ?_;exact g.1):J:=h ⟨g⟩
theorem Aa1 {J G:Prop} (g:G) (h:Wg G→J:=by intro g;refine Aar ?_;refine Aaj ?_;exact g.1):J:=h ⟨g⟩
theorem Aa2 {J G:Prop} (g:G) (h:Wg G→J:=by intro g;refine Aaq ?_;refine AC ?_;exact g.1):J:=h ⟨g⟩
theorem Aa3 {J G:Prop} (g:G) (h:Wg G→J:=by intro g;refine BE ?_;refine AA ?_;exact g.1):J:=h ⟨g⟩
theorem Aa5 {J G:Prop} (g:G) (h:Wg G→J:=by intro g;refine AU ?_;refine Aac ?_;exact g.1):J:=h ⟨g⟩
theorem Aa6 {J G:Prop} (g:G) (h:Wg G→J:=by intro g;refine Aar ?_;refine AQ ?_;exact g.1):J:=h ⟨g⟩
theorem Aa7 {J G:Prop} (g:G) (h:Wg G→J:=by intro g;refine BM ?_;refine Aal ?_;refine Aas ?_;exact g.1):J:=h ⟨g⟩
theorem Aa8 {J G:Prop} (g:G) (h:Wg G→J:=by intro g;refine Aaa ?_;refine AJ rfl ?_;exact g.1):J:=h ⟨g⟩
theorem Aa9 {J G:Prop} (g:G) (h:Wg G→J:=by intro g;refine Aa0 ?_;refine AN rfl rfl rfl ?_;exact g.1):J:=h ⟨g⟩
theorem Ab {J G:Prop} (g:G) (h:Wg G→J:=by intro g;refine AD ?_;refine Aab ?_;exact g.1):J:=h ⟨g⟩
theorem Aba {J G:Prop} (g:G) (h:Wg G→J:=by intro g;refine A5 ?_;refine Aax ?_;exact g.1):J:=h ⟨g⟩
theorem Abb {J G:Prop} (g:G) (h:Wg G→J:=by intro g;refine AE ?_;refine Aab ?_;exact g.1):J:=h ⟨g⟩
theorem Abc {J G:Prop} (g:G) (h:Wg G→J:=by intro g;refine Aaz ?_;refine AV ?_;exact g.1):J:=h ⟨g⟩
theorem Abd {J G:Prop} (g:G) (h:Wg G→J:=by intro g;refine Aa ?_;refine Aa7 ?_;exact g.1):J:=h ⟨g⟩
theorem Abe {J G:Prop} (g:G) (h:Wg G→J:=by intro g;refine AY ?_;refine Aah ?_;exact g.1):J:=h ⟨g⟩
theorem Abf {J G:Prop} (g:G) (h:Wg G→J:=by intro g;refine AC ?_;refine Aaa ?_;exact g.1):J:=h ⟨g⟩
theorem Abg {J G:Prop} (g:G) (h:Wg G→J:=by intro g;refine AK ?_;refine Aah ?_;exact g.1):J:=h ⟨g⟩
theorem Abh {J G:Prop} (g:G) (h:Wg G→J:=by intro g;refine A3 rfl ?_;refine AM ?_;exact g.1):J:=h ⟨g⟩
theorem Abi {J G:Prop} (g:G) (h:Wg G→J:=by intro g;refine Aa ?_;refine AC ?_;exact g.1):J:=h ⟨g⟩
theorem Abj {J G:Prop} (g:G) (h:Wg G→J:=by intro g;refine AU ?_;refine AF ?_;exact g.1):J:=h ⟨g⟩
theorem Abl {J G:Prop} (g:G) (h:Wg G→J:=by intro g;refine Aa3 ?_;refine B6 ?_;refine Aaz ?_;exact g.1):J:=h ⟨g⟩
theorem Abm {J G:Prop} (g:G) (h:Wg G→J:=by intro g;refine AD ?_;refine AV ?_;exact g.1):J:=h ⟨g⟩
theorem Abn {J G:Prop} (g:G) (h:Wg G→J:=by intro g;refine BD ?_;refine A7 ?_;exact g.1):J:=h ⟨g⟩
theorem Abo {J G:Prop} (g:G) (h:Wg G→J:=by intro g;refine AK ?_;refine AB ?_;exact g.1):J:=h ⟨g⟩
theorem Abp {J G:Prop} (g:G) (h:Wg G→J:=by intro g;refine A7 ?_;refine Aad ?_;exact g.1):J:=h ⟨g⟩
theorem Abq {J G:Prop} (g:G) (h:Wg G→J:=by intro g;refine AY ?_;refine Abg ?_;exact g.1):J:=h ⟨g⟩
theorem Abr {J G:Prop} (g:G) (h:Wg G→J:=by intro g;refine Aa ?_;refine Aay ?_;exact g.1):J:=h ⟨g⟩
theorem Abs {J G:Prop} (g:G) (h:Wg G→J:=by intro g;refine A5 ?_;refine Aao ?_;exact g.1):J:=h ⟨g⟩
theorem Abt {J G:Prop} (g:G) (h:Wg G→J:=by intro g;refine Aag ?_;refine Aat ?_;exact g.1):J:=h ⟨g⟩
theorem Abu {J G:Prop} (g:G) (h:Wg G→J:=by intro g;refine Aa ?_;refine Aai ?_;exact g.1):J:=h ⟨g⟩
theorem Abv {J G:Prop} (g:G) (h:Wg G→J:=by intro g;refine AX ?_;refine Aaa ?_;exact g.1):J:=h ⟨g⟩
theorem Abw {J G:Prop} (g:G) (h:Wg G→J:=by intro g;refine Aan ?_;refine AB ?_;exact g.1):J:=h ⟨g⟩
theorem Abx {J G:Prop} (g:G) (h:Wg G→J:=by intro g;refine Aal ?_;refine Aab ?_;exact g.1):J:=h ⟨g⟩
theorem Aby {J G:Prop} (g:G) (h:Wg G→J:=by intro g;refine Aa2 ?_;refine Aai ?_;exact g.1):J:=h ⟨g⟩
theorem Ab1 {J G:Prop} (g:G) (h:Wg G→J:=by intro g;refine Aa0 ?_;refine Aae ?_;exact g.1):J:=h ⟨g⟩
theorem Ab2 {J G:Prop} (g:G) (h:Wg G→J:=by intro g;refine Aa1 ?_;refine Aa1 ?_;exact g.1):J:=h ⟨g⟩
theorem Ab3 {J G:Prop} (g:G) (h:Wg G→J:=by intro g;refine Aa ?_;refine Aam ?_;exact g.1):J:=h ⟨g⟩
theorem Ab4 {J G:Prop} (g:G) (h:Wg G→J:=by intro g;refine Aag ?_;refine AV ?_;exact g.1):J:=h ⟨g⟩
theorem Ab5 {J G:Prop} (g:G) (h:Wg G→J:=by intro g;refine AY ?_;refine Aao ?_;exact g.1):J:=h ⟨g⟩
theorem Ab6 {J G:Prop} (g:G) (h:Wg G→J:=by intro g;refine CM ?_;refine Aal ?_;refine Abh ?_;refine Abm ?_;exact g.1):J:=h ⟨g⟩
theorem Ab7 {J G:Prop} (g:G) (h:Wg G→J:=by intro g;refine AA ?_;refine AB ?_;exact g.1):J:=h ⟨g⟩
theorem Ab8 {J G:Prop} (g:G) (h:Wg G→J:=by intro g;refine Aa ?_;refine AF ?_;exact g.1):J:=h ⟨g⟩
theorem Ab9 {J G:Prop} (g:G) (h:Wg G→J:=by intro g;refine A5 ?_;refine Aaf ?_;exact g.1):J:=h ⟨g⟩
theorem Ac {J G:Prop} (g:G) (h:Wg G→J:=by intro g;refine Aa ?_;refine Ab6 ?_;exact g.1):J:=h ⟨g⟩
theorem Aca {J G:Prop} (g:G) (h:Wg G→J:=by intro g;refine Aab ?_;refine AB ?_;exact g.1):J:=h ⟨g⟩
theorem Acd {J G:Prop} (g:G) (h:Wg G→J:=by intro g;refine Aaq ?_;refine AI ?_;refine AC ?_;refine AC ?_;exact g.1):J:=h ⟨g⟩
theorem Ace {J G:Prop} (g:G) (h:Wg G→J:=by intro g;refine AD ?_;refine Aak ?_;exact g.1):J:=h ⟨g⟩
theorem Acf {J G:Prop} (g:G) (h:Wg G→J:=by intro g;refine BT ?_;refine Abc ?_;exact g.1):J:=h ⟨g⟩
theorem Acg {J G:Prop} (g:G) (h:Wg G→J:=by intro g;refine Aam ?_;refine AY ?_;exact g.1):J:=h ⟨g⟩
theorem Ach {J G:Prop} (g:G) (h:Wg G→J:=by intro g;refine Aa6 ?_;refine Aaj ?_;exact g.1):J:=h ⟨g⟩
theorem Aci {J G:Prop} (g:G) (h:Wg G→J:=by intro g;refine Aal ?_;refine Aak ?_;exact g.1):J:=h ⟨g⟩
end Go.Eng
namespace Go.Eng
variable {C:Cx} {D:List Deferred} {R H:List PH} {L:Env} {K:List It}
variable {dst:Option Tmp} {ty:TypeId} {pos:String} {aft:Array Edge} {g:Option (Nat × Bool)}
theorem OwnS.cells_at {e:TypeId} {s n b cap:Nat} {xs:List Value} {ρ:PH} (h:OwnS e s (.slice (some ⟨b,0,none⟩) n cap) n xs ρ):∃ cur,ρ=sng b (.cells cur e (0,0))∧n≤cap∧cap≤maxLen∧cur.size=cap*s∧cur.toList.take (n*s)=xs:=by
  obtain ⟨_,⟨h1,_⟩|⟨b',cap',cur,h1,rfl,h2,h3,h4,h5⟩⟩:=h
  · simp at h1
  · simp only [Value.slice.injEq,Option.some.injEq,Addr.mk.injEq,and_true,true_and] at h1
    obtain ⟨rfl,rfl⟩:=h1
    exact ⟨cur,rfl,h2,h3,h4,h5⟩
end Go.Eng
namespace Go.Eng
variable {C:Cx} {D:List Deferred} {R H:List PH} {L:Env} {K:List It}
variable {dst:Option Tmp} {ty:TypeId} {pos:String} {aft:Array Edge} {g:Option (Nat × Bool)}
end Go.Eng
namespace Go.Eng
theorem rdN_sng {b:Nat} {vs:List Value} {t:TypeId} {fr:Nat × Nat}:RdN (sng b (.cells vs.toArray t fr)) b 0 vs:=fun j v hv=>by
  rw [rdc_sng,Nat.zero_add]
  simpa using hv
end Go.Eng
namespace Go.Eng
variable {C:Cx} {R H:List PH} {L:Env} {dst:Option Tmp} {ty:TypeId} {pos:String} {aft:Array Edge} {g:Option (Nat × Bool)}
abbrev str (l:List UInt8):Value:=.string ⟨⟨l⟩⟩
theorem str_size (l:List UInt8):(⟨⟨l⟩⟩:ByteArray).size=l.length:=rfl
theorem str_extract (l:List UInt8) (i j:Nat):(⟨⟨l⟩⟩:ByteArray).extract i j=⟨⟨(l.drop i).take (j-i)⟩⟩:=by
  apply ByteArray.ext
  rw [ByteArray.data_extract]
  apply Array.ext'
  simp
theorem BW {x:Operand} {t:TypeId} {l:List UInt8} (h:evalE L x=some (str l)) (ht:C.P.underlying t=some .string):Quiet C R H L ⟨dst,.call ⟨.builtin .len,#[x],#[t]⟩,ty,pos,aft,g⟩ (.int .i64 (l.length:Int)):=
  ⟨by intro c; simp,fun a w hx _=>by
    have e:=hx x (by simp [Op.operands,Call.operands]) _ h
    simp [execOp,resolve,e,invoke,builtin,Builtin.len_,run_underlying ht,goInt]
    rfl⟩
theorem D4 {x y z:Operand} {t:TypeId} {l:List UInt8} {k k':IntKind} {i j:Nat} (h:evalE L x=some (str l)) (hy:evalE L y=some (.int k (i:Int))) (hz:evalE L z=some (.int k' (j:Int))) (ht:C.P.underlying t=some .string) (hij:i≤j) (hj:j≤l.length) :
    Quiet C R H L ⟨dst,.slice t x (some y) (some z) none,ty,pos,aft,g⟩ (str ((l.drop i).take (j-i))):=
  ⟨by intro c; simp,fun a w hx _=>by
    have e:=hx x (by simp [Op.operands]) _ h
    have e2:=hx y (by simp [Op.operands]) _ hy
    have e3:=hx z (by simp [Op.operands]) _ hz
    have hr:=run_slice_string (P:=C.P) w t ⟨⟨l⟩⟩ k k' (i:Int) (j:Int) ht (by omega) (by omega) (by rw [str_size]; omega)
    rw [str_extract] at hr
    simp [execOp,e,e2,e3,run_sliceAt_string w t _ _ _ _ ht,hr]⟩
theorem EJ {x y:Operand} {t:TypeId} {l:List UInt8} {k:IntKind} {i:Nat} (h:evalE L x=some (str l)) (hy:evalE L y=some (.int k (i:Int))) (ht:C.P.underlying t=some .string) (hi:i≤l.length) :
    Quiet C R H L ⟨dst,.slice t x (some y) none none,ty,pos,aft,g⟩ (str (l.drop i)):=
  ⟨by intro c; simp,fun a w hx _=>by
    have e:=hx x (by simp [Op.operands]) _ h
    have e2:=hx y (by simp [Op.operands]) _ hy
    have hr:=run_slice_string_l (P:=C.P) w t ⟨⟨l⟩⟩ ht k (i:Int) (by omega) (by rw [str_size]; omega)
    rw [str_extract,str_size] at hr
    rw [List.take_of_length_le (by simp)] at hr
    simp [execOp,e,e2,run_sliceAt_string w t _ _ _ _ ht,hr]⟩
theorem q_cutH {x z:Operand} {t:TypeId} {l:List UInt8} {k:IntKind} {j:Nat} (h:evalE L x=some (str l)) (hz:evalE L z=some (.int k (j:Int))) (ht:C.P.underlying t=some .string) (hj:j≤l.length) :
    Quiet C R H L ⟨dst,.slice t x none (some z) none,ty,pos,aft,g⟩ (str (l.take j)):=
  ⟨by intro c; simp,fun a w hx _=>by
    have e:=hx x (by simp [Op.operands]) _ h
    have e3:=hx z (by simp [Op.operands]) _ hz
    have hr:=run_slice_string_h (P:=C.P) w t ⟨⟨l⟩⟩ ht k (j:Int) (by omega) (by rw [str_size]; omega)
    rw [str_extract] at hr
    simp [execOp,e,e3,run_sliceAt_string w t _ _ _ _ ht,hr]⟩
theorem DF {x y:Operand} {t:TypeId} {l:List UInt8} {k:IntKind} {i:Nat} {b:UInt8} (h:evalE L x=some (str l)) (hy:evalE L y=some (.int k (i:Int))) (ht:C.P.underlying t=some .string) (hb:l[i]?=some b) :
    Quiet C R H L ⟨dst,.index t x y,ty,pos,aft,g⟩ (.int .u8 (b.toNat:Int)):=
  ⟨by intro c; simp,fun a w hx _=>by
    have e:=hx x (by simp [Op.operands]) _ h
    have e2:=hx y (by simp [Op.operands]) _ hy
    obtain ⟨hi,hb⟩:=List.getElem?_eq_some_iff.1 hb
    have hr:=run_index_string (P:=C.P) w t ⟨⟨l⟩⟩ k (i:Int) ht
    rw [dif_pos ⟨by omega,by rw [str_size]; omega⟩] at hr
    have hb2:(⟨⟨l⟩⟩:ByteArray)[(i:Int).toNat]'(by rw [str_size]; omega)=b:=hb
    rw [hb2] at hr
    simp [execOp,e,e2,hr]⟩
theorem FI {x y:Operand} {t:TypeId} {l:List UInt8} {k:IntKind} {i:Nat} (h:evalE L x=some (str l)) (hy:evalE L y=some (.int k (i:Int))) (ht:C.P.underlying t=some .string) (hb:l[i]?=some 0) :
    Quiet C R H L ⟨dst,.index t x y,ty,pos,aft,g⟩ (.int .u8 0):=DF h hy ht hb
theorem q_eqT {x y:Operand} {xT yT:TypeId} {l m:List UInt8} (h:evalE L x=some (str l)) (h2:evalE L y=some (str m)):Quiet C R H L ⟨dst,.binOp .eql xT x y yT,ty,pos,aft,g⟩ (.bool (l == m)):=
  ⟨by intro c; simp,fun a w hxx _=>by
    have e1:=hxx x (by simp [Op.operands]) _ h
    have e2:=hxx y (by simp [Op.operands]) _ h2
    simp [execOp,e1,e2,eqGuard,binOp,Op.stringOp]⟩
theorem EB {x y:Operand} {xT yT:TypeId} {l m:List UInt8} (h:evalE L x=some (str l)) (h2:evalE L y=some (str m)):Quiet C R H L ⟨dst,.binOp .neq xT x y yT,ty,pos,aft,g⟩ (.bool (!(l == m))):=
  ⟨by intro c; simp,fun a w hxx _=>by
    have e1:=hxx x (by simp [Op.operands]) _ h
    have e2:=hxx y (by simp [Op.operands]) _ h2
    simp [execOp,e1,e2,eqGuard,binOp,Op.stringOp]⟩
def rowS (l:List UInt8):List Value:=l.map fun b=>.int .u8 (b.toNat:Int)
theorem rowS_len (l:List UInt8):(rowS l).length=l.length:=by simp [rowS]
theorem ones_rowS (l:List UInt8):∀ u∈rowS l,u.oneCell'=true:=by
  intro u hu
  simp only [rowS,List.mem_map] at hu
  obtain ⟨b,_,rfl⟩:=hu
  rfl
theorem rowS_append (l m:List UInt8):rowS (l ++ m)=rowS l ++ rowS m:=by simp [rowS]
theorem rowS_take (l:List UInt8) (n:Nat):(rowS l).take n=rowS (l.take n):=by simp [rowS,List.map_take]
theorem rowS_drop (l:List UInt8) (n:Nat):(rowS l).drop n=rowS (l.drop n):=by simp [rowS,List.map_drop]
theorem foldl_push (l:List UInt8):∀ r:ByteArray,(l.map fun b=>(b.toNat:Int)).foldl (fun r n=>r.push (UInt8.ofNat n.toNat)) r=⟨⟨r.data.toList ++ l⟩⟩:=by
  induction l with
  | nil=>intro r; simp
  | cons b l ih=>intro r; rw [List.map_cons,List.foldl_cons,ih]; simp [ByteArray.push]
theorem CW {sT dT e:TypeId} {x:Operand} {b o c:Nat} {l:List UInt8} (hx:evalE L x=some (.slice (some ⟨b,o,none⟩) l.length c)) (hc:Cells C.N R H b o (rowS l)) (h1:C.P.underlying sT=some (.slice e)) (h2:C.P.underlying e=some (.int .u8)) (h3:C.P.underlying dT=some .string) :
    Quiet C R H L ⟨dst,.convert sT dT x,ty,pos,aft,g⟩ (str l):=
  ⟨by intro c; simp,fun a w hxx hsat=>by
    have e1:=hxx x (by simp [Op.operands]) _ hx
    have hl:=run_loadCells_list (P:=C.P) (w:=w) ⟨b,o,none⟩ (rowS l) (fun j v hv=>by rw [Addr.add_lit]; exact hc w hsat j v hv)
    rw [rowS_len] at hl
    have hrow:(rowS l).toArray=((l.map fun b=>(b.toNat:Int)).map (Value.int .u8)).toArray:=by simp [rowS]
    rw [hrow] at hl;simp only [execOp,e1]
    have hb:=run_bytesToString (P:=C.P) w ⟨b,o,none⟩ l.length c _ hl
    rw [foldl_push] at hb
    simp [run_convert_bytes_string w sT dT e _ l.length c h1 h2 h3,hb]⟩
end Go.Eng
namespace Go.Step
open Go.Eng
def topF:Nat→Nat→Nat
  | 0,_=>0
  | f+1,m=>if m<128 then 0 else topF f (m / 128)+1
def vTop (m:Nat):Nat:=topF 9 m
theorem topF_le:∀ (f m:Nat),topF f m≤f
  | 0,_=>Nat.le_refl _
  | f+1,m=>by
    unfold topF
    split
    · omega
    · have:=topF_le f (m / 128)
      omega
theorem div_pow (m k:Nat):m / 128 / 128 ^ k=m / 128 ^ (k+1):=by
  rw [Nat.div_div_eq_div_mul,Nat.pow_succ,Nat.mul_comm]
theorem topF_lt:∀ (f m:Nat),m<128 ^ (f+1)→m / 128 ^ (topF f m)<128∧∀ j,j<topF f m→128≤m / 128 ^ j
  | 0,m,h=>⟨by simpa [topF] using h,fun j hj=>absurd hj (by simp [topF])⟩
  | f+1,m,h=>by
    unfold topF
    split
    · rename_i hm
      exact ⟨by simpa using hm,fun j hj=>absurd hj (by omega)⟩
    · rename_i hm
      obtain ⟨h1,h2⟩:=topF_lt f (m / 128) (by
        rw [Nat.div_lt_iff_lt_mul (by omega)]
        rw [Nat.pow_succ] at h
        exact h)
      refine ⟨by rw [← div_pow]; exact h1,fun j hj=>?_⟩
      cases j with
      | zero=>simpa using hm
      | succ j =>
        rw [← div_pow]
        exact h2 j (by omega)
theorem topF_eq:∀ (f k m:Nat),k≤f→(∀ j,j<k→128≤m / 128 ^ j)→m / 128 ^ k<128→topF f m=k
  | 0,k,m,hk,_,_=>by
    have:k=0:=by omega
    subst this
    rfl
  | f+1,k,m,hk,h1,h2=>by
    unfold topF
    cases k with
    | zero=>exact if_pos (by simpa using h2)
    | succ k =>
      have h0:=h1 0 (by omega)
      rw [if_neg (by simpa using h0),topF_eq f k (m / 128) (by omega) (fun j hj=>by rw [div_pow]; exact h1 (j+1) (by omega)) (by rw [div_pow]; exact h2)]
def vY (m:Nat):Nat→List (Nat × Bool)
  | 0=>[(m % 128,true)]
  | k+1=>(m / 128 ^ (k+1) % 128,false)::vY m k
def vBy (x:Nat × Bool):UInt8:=UInt8.ofNat (if x.2=true then x.1 else x.1+128)
def vEnc (m:Nat):List UInt8:=(vY m (vTop m)).map vBy
def vInt (n:Nat):List UInt8:=vEnc (2*n)
theorem vY_len (m:Nat):∀ k,(vY m k).length=k+1
  | 0=>rfl
  | k+1=>by
    show (vY m k).length+1=_
    rw [vY_len m k]
theorem vY_get (m:Nat):∀ (k i:Nat),i≤k→(vY m k)[i]?=some (m / 128 ^ (k-i) % 128,decide (i=k))
  | 0,i,h=>by
    have:i=0:=by omega
    subst this
    simp [vY]
  | k+1,0,h=>by simp [vY]
  | k+1,i+1,h=>by
    show (vY m k)[i]?=_
    rw [vY_get m k i (by omega)]
    congr 3
    · congr 2
      omega
    · simp
theorem vEnc_len (m:Nat):(vEnc m).length=vTop m+1:=by
  unfold vEnc;rw [List.length_map,vY_len]
theorem vEnc_get {m i:Nat} (h:i≤vTop m):(vEnc m)[i]?=some (vBy (m / 128 ^ (vTop m-i) % 128,decide (i=vTop m))):=by
  unfold vEnc;rw [List.getElem?_map,vY_get m _ i h]
  rfl
theorem vBy_nat (d:Nat) (b:Bool) (h:d<128):(vBy (d,b)).toNat=if b=true then d else d+128:=by
  unfold vBy
  dsimp only
  split
  · rw [UInt8.toNat_ofNat']
    exact Nat.mod_eq_of_lt (by omega)
  · rw [UInt8.toNat_ofNat']
    exact Nat.mod_eq_of_lt (by omega)
theorem v_next (m k:Nat):m / 128 ^ (k+1)*128+m / 128 ^ k % 128=m / 128 ^ k:=by
  have:m / 128 ^ (k+1)=m / 128 ^ k / 128:=by rw [Nat.pow_succ,Nat.div_div_eq_div_mul]
  rw [this];omega
theorem vTop_le (m:Nat):vTop m≤9:=topF_le 9 m
theorem vTop_lt {m:Nat} (h:m<9223372036854775808):m / 128 ^ vTop m<128∧(∀ j,j<vTop m→128≤m / 128 ^ j)∧vTop m≤8:=by
  obtain ⟨h1,h2⟩:=topF_lt 9 m (Nat.lt_of_lt_of_le h (by decide))
  refine ⟨h1,h2,?_⟩
  have h9:=topF_le 9 m
  rcases Nat.lt_or_ge (vTop m) 9 with hl|hl
  · omega
  · have:=h2 8 (by unfold vTop at hl; omega)
    have h3:m / 128 ^ 8<128:=by
      rw [Nat.div_lt_iff_lt_mul (by decide)]
      exact Nat.lt_of_lt_of_le h (by decide)
    omega
theorem v_first {m:Nat} (h:m<9223372036854775808):(vBy (m / 128 ^ (vTop m-0) % 128,decide (0=vTop m))).toNat≠128:=by
  obtain ⟨h1,h2,h3⟩:=vTop_lt h
  rw [Nat.sub_zero,vBy_nat _ _ (Nat.mod_lt _ (by decide))]
  by_cases h0:vTop m=0
  · rw [h0]
    simp
    omega
  · have h4:=h2 (vTop m-1) (by omega)
    have h5:1≤m / 128 ^ vTop m:=by
      have e:vTop m=vTop m-1+1:=by omega
      rw [e,Nat.pow_succ,← Nat.div_div_eq_div_mul];omega
    rw [if_neg (by simp; omega)]
    rw [Nat.mod_eq_of_lt h1];omega
def vText (t:List UInt8):List UInt8:=vInt t.length ++ t
theorem vInt_len (n:Nat):(vInt n).length≤10:=by
  have:=vEnc_len (2*n)
  have:=vTop_le (2*n)
  unfold vInt;omega
theorem vText_len (t:List UInt8):(vText t).length=(vInt t.length).length+t.length:=List.length_append
end Go.Step
namespace Go.Eng
variable {C:Cx} {D:List Deferred} {R H:List PH} {L:Env} {K:List It}
section
variable {dst:Option Tmp} {ty:TypeId} {pos:String} {aft:Array Edge} {g:Option (Nat × Bool)}
theorem q_shr {x y:Operand} {xT yT:TypeId} {k k2:IntKind} {m:Int} {s:Nat} (h1:evalE L x=some (.int k m)) (h2:evalE L y=some (.int k2 (s:Int))) (hs:s≤k.bits):Quiet C R H L ⟨dst,.binOp .shr xT x y yT,ty,pos,aft,g⟩ (.int k (m.fdiv (2 ^ s))):=
  ⟨by intro c; simp,fun a w hx _=>by
    have e1:=hx x (by simp [Op.operands]) _ h1
    have e2:=hx y (by simp [Op.operands]) _ h2
    have h0:¬ ((s:Int)<0):=by omega
    have hm:min s k.bits=s:=by omega
    simp [execOp,e1,e2,eqGuard,binOp,Op.shift,h0,hm]⟩
end
end Go.Eng
namespace Go.Eng
variable {C:Cx} {D:List Deferred} {R H:List PH} {L:Env} {K:List It}
section
variable {dst:Option Tmp} {ty:TypeId} {pos:String} {aft:Array Edge} {g:Option (Nat × Bool)}
end
end Go.Eng
namespace Go.Eng
variable {C:Cx} {R H:List PH} {L:Env}
section
variable {dst:Option Tmp} {ty:TypeId} {pos:String} {aft:Array Edge} {g:Option (Nat × Bool)}
theorem E8 {x y:Operand} {xT yT:TypeId} {k2:IntKind} {m:Int} {s:Nat} (h1:evalE L x=some (.int .i64 m)) (h2:evalE L y=some (.int k2 (s:Int))) (hs:s≤64) (hr:In64 (m*2 ^ s)) :
    Quiet C R H L ⟨dst,.binOp .shl xT x y yT,ty,pos,aft,g⟩ (.int .i64 (m*2 ^ s)):=
  ⟨by intro c; simp,fun a w hx _=>by
    have e1:=hx x (by simp [Op.operands]) _ h1
    have e2:=hx y (by simp [Op.operands]) _ h2
    have h0:¬ ((s:Int)<0):=by omega
    have hm:min s IntKind.i64.bits=s:=by show min s 64=s; omega
    have hw:=wrap_in hr
    simp [execOp,e1,e2,eqGuard,binOp,Op.shift,h0,hm,hw]⟩
end
end Go.Eng
namespace Go.Eng
variable {C:Cx} {R H:List PH} {L:Env}
section
variable {dst:Option Tmp} {ty:TypeId} {pos:String} {aft:Array Edge} {g:Option (Nat × Bool)}
theorem bv_nat {n a:Nat} (h:a<2 ^ n):(BitVec.ofInt n (a:Int)).toNat=a:=by
  rw [BitVec.ofInt_natCast,BitVec.toNat_ofNat,Nat.mod_eq_of_lt h]
theorem wrap_u8 {n:Int} (h:0≤n∧n≤255):IntKind.u8.wrap n=n:=by
  have e:IntKind.u8.wrap n=n % 256:=by
    show (let m:=n % (2 ^ IntKind.u8.bits:Int); if IntKind.u8.signed && m≥(2 ^ (IntKind.u8.bits-1):Int) then m-(2 ^ IntKind.u8.bits:Int) else m)=_
    rfl
  rw [e]; omega
theorem wrap_u8m (n:Int):IntKind.u8.wrap n=n % 256:=by
  show (let m:=n % (2 ^ IntKind.u8.bits:Int); if IntKind.u8.signed && m≥(2 ^ (IntKind.u8.bits-1):Int) then m-(2 ^ IntKind.u8.bits:Int) else m)=_
  rfl
theorem wrap_u32 {n:Int} (h:0≤n∧n≤4294967295):IntKind.u32.wrap n=n:=by
  have e:IntKind.u32.wrap n=n % 4294967296:=by
    show (let m:=n % (2 ^ IntKind.u32.bits:Int); if IntKind.u32.signed && m≥(2 ^ (IntKind.u32.bits-1):Int) then m-(2 ^ IntKind.u32.bits:Int) else m)=_
    rfl
  rw [e]; omega
theorem CA {x y:Operand} {xT yT:TypeId} {k:IntKind} {a b c:Nat} (h1:evalE L x=some (.int k (a:Int))) (h2:evalE L y=some (.int k (b:Int))) (ha:a<2 ^ k.bits) (hb:b<2 ^ k.bits) (hc:a &&& b=c) (hw:k.wrap (c:Int)=c) :
    Quiet C R H L ⟨dst,.binOp .and xT x y yT,ty,pos,aft,g⟩ (.int k (c:Int)):=
  ⟨by intro c; simp,fun w' w hx _=>by
    have e1:=hx x (by simp [Op.operands]) _ h1
    have e2:=hx y (by simp [Op.operands]) _ h2
    have hb':(BitVec.ofInt k.bits (a:Int) &&& BitVec.ofInt k.bits (b:Int)).toNat=c:=by rw [BitVec.toNat_and,bv_nat ha,bv_nat hb,hc]
    simp only [execOp,e1,e2,eqGuard];simp only [binOp,Op.intBits,hb',hw]
    simp⟩
theorem q_orN {x y:Operand} {xT yT:TypeId} {k:IntKind} {a b c:Nat} (h1:evalE L x=some (.int k (a:Int))) (h2:evalE L y=some (.int k (b:Int))) (ha:a<2 ^ k.bits) (hb:b<2 ^ k.bits) (hc:a ||| b=c) (hw:k.wrap (c:Int)=c) :
    Quiet C R H L ⟨dst,.binOp .or xT x y yT,ty,pos,aft,g⟩ (.int k (c:Int)):=
  ⟨by intro c; simp,fun w' w hx _=>by
    have e1:=hx x (by simp [Op.operands]) _ h1
    have e2:=hx y (by simp [Op.operands]) _ h2
    have hb':(BitVec.ofInt k.bits (a:Int) ||| BitVec.ofInt k.bits (b:Int)).toNat=c:=by rw [BitVec.toNat_or,bv_nat ha,bv_nat hb,hc]
    simp only [execOp,e1,e2,eqGuard];simp only [binOp,Op.intBits,hb',hw]
    simp⟩
theorem EL {x y:Operand} {xT yT:TypeId} {k:IntKind} {a b c:Nat} (h1:evalE L x=some (.int k (a:Int))) (h2:evalE L y=some (.int k (b:Int))) (ha:a<2 ^ k.bits) (hb:b<2 ^ k.bits) (hc:a ^^^ b=c) (hw:k.wrap (c:Int)=c) :
    Quiet C R H L ⟨dst,.binOp .xor xT x y yT,ty,pos,aft,g⟩ (.int k (c:Int)):=
  ⟨by intro c; simp,fun w' w hx _=>by
    have e1:=hx x (by simp [Op.operands]) _ h1
    have e2:=hx y (by simp [Op.operands]) _ h2
    have hb':(BitVec.ofInt k.bits (a:Int) ^^^ BitVec.ofInt k.bits (b:Int)).toNat=c:=by rw [BitVec.toNat_xor,bv_nat ha,bv_nat hb,hc]
    simp only [execOp,e1,e2,eqGuard];simp only [binOp,Op.intBits,hb',hw]
    simp⟩
theorem D5 {x y:Operand} {xT yT:TypeId} {a:Nat} (h1:evalE L x=some (.int .u8 (a:Int))) (h2:evalE L y=some (.int .u8 127)) (ha:a≤255) :
    Quiet C R H L ⟨dst,.binOp .and xT x y yT,ty,pos,aft,g⟩ (.int .u8 ((a % 128:Nat):Int)):=
  CA (k:=.u8) (b:=127) h1 h2 (by show a<2 ^ 8; omega) (by decide) (Nat.and_two_pow_sub_one_eq_mod a 7) (wrap_u8 ⟨by omega,by omega⟩)
theorem q_or7 {x y:Operand} {xT yT:TypeId} {a d:Nat} (h1:evalE L x=some (.int .i64 ((a*128:Nat):Int))) (h2:evalE L y=some (.int .i64 (d:Int))) (hd:d<128) (ha:a*128+d≤9223372036854775807) :
    Quiet C R H L ⟨dst,.binOp .or xT x y yT,ty,pos,aft,g⟩ (.int .i64 ((a*128+d:Nat):Int)):=
  q_orN (k:=.i64) h1 h2 (by show a*128<2 ^ 64; omega) (by show d<2 ^ 64; omega) (by
    have:=Nat.two_pow_add_eq_or_of_lt (i:=7) (b:=d) (by simpa using hd) a
    rw [show (2:Nat) ^ 7=128 from rfl,Nat.mul_comm] at this
    exact this.symm) (wrap_in ⟨by omega,by omega⟩)
theorem q_addB {x y:Operand} {xT yT:TypeId} {m n:Nat} (h1:evalE L x=some (.int .u8 (m:Int))) (h2:evalE L y=some (.int .u8 (n:Int))) (hr:m+n≤255):Quiet C R H L ⟨dst,.binOp .add xT x y yT,ty,pos,aft,g⟩ (.int .u8 ((m+n:Nat):Int)):=by
  have:=DG (C:=C) (R:=R) (H:=H) (dst:=dst) (ty:=ty) (pos:=pos) (aft:=aft) (g:=g) (xT:=xT) (yT:=yT) (.inl ⟨rfl,rfl⟩) h1 h2
  rwa [show IntKind.u8.wrap ((m:Int)+(n:Int))=((m+n:Nat):Int) by rw [wrap_u8 ⟨by omega,by omega⟩]; omega] at this
theorem CD {s d:TypeId} {x:Operand} {k:IntKind} {n:Nat} (h:evalE L x=some (.int k (n:Int))) (hs:(C.P.underlying s).isSome=true) (hd:kindP C.P d=some .u8) :
    Quiet C R H L ⟨dst,.convert s d x,ty,pos,aft,g⟩ (.int .u8 ((n % 256:Nat):Int)):=E2 h hs hd (by rw [wrap_u8m]; omega)
theorem CP {x y:Operand} {xT yT:TypeId} {k k2:IntKind} {n s p:Nat} (h1:evalE L x=some (.int k (n:Int))) (h2:evalE L y=some (.int k2 (s:Int))) (hs:s≤k.bits) (hp:2 ^ s=p):Quiet C R H L ⟨dst,.binOp .shr xT x y yT,ty,pos,aft,g⟩ (.int k ((n / p:Nat):Int)):=by
  have:=q_shr (C:=C) (R:=R) (H:=H) (dst:=dst) (ty:=ty) (pos:=pos) (aft:=aft) (g:=g) (xT:=xT) (yT:=yT) (s:=s) h1 h2 hs
  have e:(n:Int).fdiv (2 ^ s)=((n / p:Nat):Int):=by
    subst hp
    rw [Int.fdiv_eq_ediv_of_nonneg _ (by have:=Nat.two_pow_pos s; exact_mod_cast Nat.zero_le _)]
    norm_cast
  rwa [e] at this
theorem DS {x y:Operand} {xT yT:TypeId} {l m:List UInt8} (h1:evalE L x=some (str l)) (h2:evalE L y=some (str m)) (hl:l.length+m.length≤9223372036854775807):Quiet C R H L ⟨dst,.binOp .add xT x y yT,ty,pos,aft,g⟩ (str (l ++ m)):=
  ⟨by intro c; simp,fun a w hxx _=>by
    have e1:=hxx x (by simp [Op.operands]) _ h1
    have e2:=hxx y (by simp [Op.operands]) _ h2
    have e3:(⟨⟨l⟩⟩:ByteArray) ++ ⟨⟨m⟩⟩=⟨⟨l ++ m⟩⟩:=by
      rw [ByteArray.ext_iff,ByteArray.data_append]
      simp
    have e4:=run_string_add_sum (P:=C.P) (w:=w) ⟨⟨l⟩⟩ ⟨⟨m⟩⟩ (by rw [str_size,str_size]; exact hl)
    simp [execOp,e1,e2,eqGuard,binOp,e4,e3]⟩
end
end Go.Eng
namespace Go.Proofs.YtjopknnkcnehmaaGreatDoor
open Go.Eng Go.Step
set_option maxRecDepth 100000
set_option maxHeartbeats 64000000
theorem vaIn_spec {n:Int} (h:0≤n∧n≤1152921504606846976):Ans Tryz.prog (fv 51) [int n] [] (fun r=>r=.bool true):=by
 obtain ⟨h1,h2⟩:=h
 refine spec_in (cap:=[]) Tryz.func51 rfl rfl Tryz.ntmps51 rfl envZ (fun N β=>?_)
 refine Abu ?_;refine DO ?_;refine Aan ?_;refine EY ?_;refine Abv ?_;exact A2 ⟨rfl,rfl⟩
theorem vaZig_spec {n:Nat} (h:n≤1152921504606846976):Ans Tryz.prog (fv 53) [int (n:Int)] [] (fun r=>r=int ((2*n:Nat):Int)):=by
 have e:(2:Int)*(n:Int)=((2*n:Nat):Int):=by omega
 refine spec_in (cap:=[]) Tryz.func53 rfl rfl Tryz.ntmps53 rfl envZ (fun N β=>?_)
 refine Ab3 ?_;refine BM ?_;refine Aaf ?_;refine Aab ?_;refine zq_dbl ?_;refine Aaa ?_;exact A2 ⟨rfl,rfl⟩
theorem vaGroups_spec (m:Nat):Eng.Spec Tryz.prog (fv 52) [int (m:Int)] [] [] (fun r H'=>∃ c1,r=.func (.func 93) #[] #[.pointer (some ⟨c1,0,none⟩)]∧H'=[sng c1 (.cells #[int (m:Int)] 3 (0,0))]):=by
 refine spec_in (cap:=[]) Tryz.func52 rfl rfl Tryz.ntmps52 rfl envZ (fun N β=>?_)
 refine Aa ?_;refine A9 (DE rfl rfl) rfl rfl rfl ?_;rintro _ _ ⟨c1,rfl,rfl⟩;refine Aaa ?_;refine Aa ?_;refine CE ?_;refine Aaa ?_;exact AP (res1 rfl rfl) rsubZ selZ ⟨c1,rfl,rfl⟩
theorem pow7 (k:Nat):2 ^ (7*k)=128 ^ k:=by rw [Nat.pow_mul]
theorem vaGroups_iter (c1:Nat) {m:Nat} (hm:m<9223372036854775808) :
  Iter Tryz.prog (.func (.func 93) #[] #[.pointer (some ⟨c1,0,none⟩)]) [sng c1 (.cells #[int (m:Int)] 3 (0,0))] ((vY m (vTop m)).map (fun x=>[.int .u8 (x.1:Int),.bool x.2])):=by
 intro y S Own Inv Stop Ry hy hyl σ0 hI0
 obtain ⟨yl,rfl⟩:=hyl
 have bx74_3:=rdB c1 3 [int (m:Int)]
 have v1:=rdC bx74_3 0
 simp only [List.cons_append,List.nil_append]
 refine spec_in (cap:=[.pointer (some ⟨c1,0,none⟩)]) Tryz.func93 rfl rfl Tryz.ntmps93 rfl envZ (fun N β=>?_)
 refine Aa ?_;refine Ab4 ?_
 refine BQ [0,1] (X:=Nat) 0 (fun k=>k≤9∧∀ j,j<k→128≤m / 128 ^ j) (fun k=>[(3,int ((7*k:Nat):Int))]) (fun _=>Own σ0) (fun k=>9-k) pickZ ⟨by omega,fun j hj=>by omega⟩ covZ Sel.refl ?_
 rintro k ⟨hk,hj⟩
 by_cases hg:128≤m / 128 ^ k
 ·have hk9:k<9:=by
   rcases Nat.lt_or_ge k 9 with h|h
   ·exact h
   ·have e9:k=9:=by omega
    subst e9
    have:m / 128 ^ 9<128:=by
     rw [Nat.div_lt_iff_lt_mul (by decide)]
     exact Nat.lt_of_lt_of_le hm (by decide)
    omega
  have e7:((7*k:Nat):Int)+7=((7*(k+1):Nat):Int):=by omega
  refine AD ?_;refine Aa ?_;refine AG ?_;refine AB ?_
  focus ((refine BB (CP (s:=7*k) (p:=128 ^ k) rfl rfl (by show 7*k≤64; omega) (pow7 k)) rfl rfl rfl ?_))
  refine DO ?_;refine Aau ?_;refine AM ?_;refine AV ?_;refine Ab7 ?_;refine CG ?_;refine Aaa ?_;refine BE ?_
  focus ((rw [e7]))
  exact BJ (k+1) ⟨by omega,fun j hj2=>by
   rcases Nat.lt_or_ge j k with h|h
   ·exact hj j h
   ·have:j=k:=by omega
    subst this
    exact hg⟩ (by omega) covZ Sel.refl
 have hkt:vTop m=k:=topF_eq 9 k m hk hj (by omega)
 rw [← hkt];rw [← hkt] at hg
 obtain ⟨_,_,ht8⟩:=vTop_lt hm
 have hlen:=vY_len m (vTop m)
 have hget:=vY_get m (vTop m)
 generalize vTop m=K at *
 generalize hG:vY m K=G at *
 have e0:((7*K:Nat):Int)=7*((K:Int)-((0:Nat):Int)):=by omega
 refine AD ?_;refine Aa ?_;refine AG ?_;refine AB ?_
 focus ((refine BB (CP (s:=7*K) (p:=128 ^ K) rfl rfl (by show 7*K≤64; omega) (pow7 K)) rfl rfl rfl ?_))
 refine DA ?_;refine AE ?_;refine Aas ?_;refine AV ?_;rw [e0]
 refine BQ [0,1] (X:=Nat × S) (0,σ0) (fun z=>z.1≤K+1∧Inv z.1 z.2) (fun z=>[(3,int (7*((K:Int)-(z.1:Int))))]) (fun z=>Own z.2) (fun z=>K+1-z.1) pickZ ⟨by dsimp only; omega,hI0⟩ covZ Sel.refl ?_
 rintro ⟨i,σ1⟩ ⟨hi,hI⟩
 dsimp only at hi hI ⊢
 by_cases hlt:i≤K
 rotate_left
 ·have hke:i=K+1:=by omega
  refine Ab ?_;refine DA ?_;refine AE ?_;refine Aas ?_
  refine CC (res0 rfl) (fun _ h=>h) Sel.refl ⟨σ1,rfl,.inl ?_⟩
  rw [List.length_map,hlen,← hke];exact hI
 have hx:=hget i hlt
 have hya:=hy i σ1 _ (by rw [List.getElem?_map,hx]; rfl) hI
 have e1:7*((K:Int)-(i:Int))=((7*(K-i):Nat):Int):=by omega
 have e2:((7*(K-i):Nat):Int)-7=7*((K:Int)-((i+1:Nat):Int)):=by omega
 have e3:m / 128 ^ (K-i) % 256 % 128=m / 128 ^ (K-i) % 128:=by omega
 have hm2:m / 128 ^ (K-i) % 256≤255:=by omega
 dsimp only at hya
 rw [e1]
 by_cases hlast:i=K
 ·rw [decide_eq_true hlast] at hya
  refine Ab ?_;refine DO ?_;refine Aau ?_;refine AM ?_;refine Abm ?_;refine Aab ?_;refine AG ?_;refine AB ?_
  focus ((refine BB (CP (s:=7*(K-i)) (p:=128 ^ (K-i)) rfl rfl (by show 7*(K-i)≤64; omega) (pow7 (K-i))) rfl rfl rfl ?_))
  focus ((refine BB (CD rfl rfl rfl) rfl rfl rfl ?_))
  focus ((refine BB (D5 rfl rfl hm2) rfl rfl rfl ?_))
  refine AB ?_;refine CN ?_
  focus ((rw [e3]))
  refine BF hya rfl rfl Takes.all (fun τ hτ=>.inl (by simp [hτ])) rfl rfl ?_
  rintro _ H' ⟨σ2,rfl,⟨rfl,hI2⟩|⟨rfl,hSt⟩⟩
  ·rw [List.append_nil]
   refine AY ?_;refine Aaf ?_;refine Aa3 ?_;refine AB ?_;refine CR ?_;refine Aaa ?_
   focus ((rw [e2]))
   exact BJ (i+1,σ2) ⟨by dsimp only; omega,hI2⟩ (by dsimp only; omega) covZ Sel.refl
  ·rw [List.append_nil]
   refine AY ?_;refine Aau ?_
   exact AP (res0 rfl) (fun _ h=>h) Sel.refl ⟨σ2,rfl,.inr hSt⟩
 ·rw [decide_eq_false hlast] at hya
  refine Ab ?_;refine DO ?_;refine Aau ?_;refine AM ?_;refine Abm ?_;refine Aab ?_;refine AG ?_;refine AB ?_
  focus ((refine BB (CP (s:=7*(K-i)) (p:=128 ^ (K-i)) rfl rfl (by show 7*(K-i)≤64; omega) (pow7 (K-i))) rfl rfl rfl ?_))
  focus ((refine BB (CD rfl rfl rfl) rfl rfl rfl ?_))
  focus ((refine BB (D5 rfl rfl hm2) rfl rfl rfl ?_))
  refine AB ?_;refine B9 ?_
  focus ((rw [e3]))
  refine BF hya rfl rfl Takes.all (fun τ hτ=>.inl (by simp [hτ])) rfl rfl ?_
  rintro _ H' ⟨σ2,rfl,⟨rfl,hI2⟩|⟨rfl,hSt⟩⟩
  ·rw [List.append_nil]
   refine AY ?_;refine Aaf ?_;refine Aa3 ?_;refine AB ?_;refine CR ?_;refine Aaa ?_
   focus ((rw [e2]))
   exact BJ (i+1,σ2) ⟨by dsimp only; omega,hI2⟩ (by dsimp only; omega) covZ Sel.refl
  ·rw [List.append_nil]
   refine AY ?_;refine Aau ?_
   exact AP (res0 rfl) (fun _ h=>h) Sel.refl ⟨σ2,rfl,.inr hSt⟩
end Go.Proofs.YtjopknnkcnehmaaGreatDoor
namespace Go.Step
structure Ct where
  f:Int
  t:Int
  s:Int
  e:Int
  r:Int
  g:Int
  l:Int
def okCt (c:Ct):Prop:=(0≤c.f∧c.f≤15)∧(0≤c.t∧c.t≤15)∧(1≤c.r∧c.r≤1000)∧(1≤c.g∧c.g≤1048576)∧(0≤c.l∧c.l≤16)
instance (c:Ct):Decidable (okCt c):=inferInstanceAs (Decidable (_∧_))
def firstE (e:Nat→Int):Nat→Int
  | 0=>0
  | n+1=>if firstE e n≠0 then firstE e n else e n
theorem firstE_ok {e:Nat→Int} {k:Nat} (h:firstE e k=0) (h2:e k=0):firstE e (k+1)=0:=by simp [firstE,h,h2]
theorem firstE_hit {e:Nat→Int} {k:Nat} (h:firstE e k=0) (h2:e k≠0):∀ n,k<n→firstE e n=e k
  | 0,hn=>by omega
  | n+1,hn=>by
    by_cases hk:k=n
    · subst hk; simp [firstE,h]
    · have ih:=firstE_hit h h2 n (by omega)
      simp [firstE,ih,h2]
theorem firstE_zero {e:Nat→Int}:∀ {n:Nat},firstE e n=0→∀ k,k<n→e k=0
  | 0,_,k,hk=>by omega
  | n+1,h,k,hk=>by
    unfold firstE at h
    split at h
    · contradiction
    · rename_i hc
      have hc':firstE e n=0:=Decidable.not_not.1 hc
      by_cases e':k=n
      · subst e'; exact h
      · exact firstE_zero hc' k (by omega)
theorem firstE_all {e:Nat→Int}:∀ {n:Nat},(∀ k,k<n→e k=0)→firstE e n=0
  | 0,_=>rfl
  | n+1,h=>firstE_ok (firstE_all (fun k hk=>h k (by omega))) (h n (by omega))
end Go.Step
namespace Go.Eng
variable {C:Cx} {D:List Deferred} {R H:List PH} {L:Env} {K:List It}
variable {dst:Option Tmp} {ty:TypeId} {pos:String} {aft:Array Edge} {g:Option (Nat × Bool)}
def midx (k:Int):List (Int × Int)→Option (Nat × Int)
  | []=>none
  | (a,v)::m=>if k=a then some (0,v) else (midx k m).map (fun p=>(p.1+1,p.2))
def mget (k:Int) (m:List (Int × Int)):Option Int:=(midx k m).map (·.2)
def mset (k v:Int):List (Int × Int)→List (Int × Int)
  | []=>[(k,v)]
  | (a,w)::m=>if k=a then (a,v)::m else (a,w)::mset k v m
theorem run_checkKey {P:Program} {w:World} {kt:TypeId} {k:Int} (e:Bool) (n:Nat) (hkt:P.underlying kt=some (.int .i64)):(Instr.checkKey e (n+1) kt (int k)).run P w=.ok () w:=by
  simp [Instr.checkKey,Go.underlying,Sem.run,hkt,int]
end Go.Eng
