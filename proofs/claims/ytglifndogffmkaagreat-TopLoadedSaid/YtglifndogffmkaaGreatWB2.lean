/- Texts of this proof, one after the other; no conditions. -/
import Derived.Laws.StructEq
import Derived.ProofKit
import Derived.Deep.Slices
import Derived.Lib.SmallJoins
import Derived.Test.YtglifndogffmkaaGreatProg
import Derived.Test.YtglifndogffmkaaGreatWB1
set_option linter.all false
/- What grows a slice: zeros appended, any slice appended, a slice's own end appended to its beginning; cells cleared. No conditions. -/
namespace Go.Eng
variable {C:Cx} {D:List Deferred} {R H:List PH} {L:Env} {K:List It}
variable {dst:Option Tmp} {ty:TypeId} {pos:String} {aft:Array Edge} {g:Option (Nat × Bool)}
theorem OwnS.room {e:TypeId} {s b cap:Nat} {cur:Array Value} (h1:cap≤maxLen) (h2:cur.size=cap*s):OwnS e s (.slice (some ⟨b,0,none⟩) 0 cap) 0 [] (sng b (.cells cur e (0,0))):=
  ⟨by simp,.inr ⟨b,cap,cur,rfl,rfl,Nat.zero_le _,h1,h2,by simp⟩⟩
theorem cutP_zero (b cap s:Nat):cutP (some ⟨b,0,none⟩) cap 0 s=some ⟨b,0,none⟩:=by
  unfold cutP
  split
  · rfl
  · simp [addr_add]
theorem DY {x y:Operand} {t e:TypeId} {s by_:Nat} {z:Value} {v w0:Value} {n m:Nat} {xs news:List Value} {ρ σ:PH} {H':List PH}
    (hx:evalE L x=some v) (hy:evalE L y=some w0) (ht:elemP C.P t=some e) (hs:szP C.P e=some s) (hz:zeroP C.P e=some z) (hb:bytesP C.P e=some by_)
    (hzs:z.cells.size=s) (hown:OwnS e s v n xs ρ) (htk:Take ρ H H') (hw:SlAt σ s w0 m news) (hc:∀ b o,RdN σ b o news→Cells C.N R H' b o news) (h1:∀ u∈news,u.oneCell'=true) (hmax:n+m≤maxLen) (hby:(n+m)*by_≤140737488355328) :
    Loud C R H L ⟨dst,.call ⟨.builtin .append,#[x,y],#[t,t]⟩,ty,pos,aft,g⟩ (fun u H2=>∃ ρ',OwnS e s u (n+m) (xs ++ news) ρ'∧H2=ρ'::H'):=by
  rcases Nat.eq_zero_or_pos m with h0|h0
  · subst h0
    have hnews:news=[]:=List.eq_nil_of_length_eq_zero (by have:=hw.1; simpa using this)
    subst hnews
    obtain ⟨p,c2,rfl⟩:=hw.cap
    obtain ⟨i,hi,rfl,hiz,rfl⟩:=info_of hs hz hb
    have htu:=und_elem ht
    refine ⟨fun a w hxx hsat next Q hnx=>?_⟩
    have e1:=hxx x (by simp [Op.operands,Call.operands]) _ hx
    have e2:=hxx y (by simp [Op.operands,Call.operands]) _ hy
    have hf:(Builtin.firstCells i.size 0 (.slice p 0 c2)).run C.P w=.ok #[] w:=by
      cases p with
      | none=>simp [Builtin.firstCells]
      | some ad=>exact run_firstCells_some (P:=C.P) w i.size 0 ad 0 c2 [] (by simp) (by simp)
    have hr:(Builtin.append_ #[t,t] ty #[v,.slice p 0 c2]).run C.P w=.ok v w:=by
      obtain ⟨_,⟨rfl,rfl,_⟩|⟨b,cap,cur,rfl,_,hle,_⟩⟩:=hown
      · simp [Builtin.append_,run_underlying htu,sizeOf,typeInfo,hi,Builtin.lenOf,hf]
      · simp [Builtin.append_,run_underlying htu,sizeOf,typeInfo,hi,Builtin.lenOf,hle,hf,storeCells]
    refine wpIn_value (by intro c; simp) ?_ (hnx v _ w ⟨ρ,by simpa using hown,rfl⟩ (hsat.take htk))
    simp [execOp,resolve,e1,e2,invoke,builtin,hr]
  · obtain ⟨b2,o2,c2,rfl,hr⟩:=hw.some h0
    exact CG hx hy ht hs hz hb hzs hown htk (hc b2 o2 (fun j v hv=>hr j v hv)) hw.1 h1 h0 hmax hby
end Go.Eng
namespace Go.Eng
variable {C : Cx} {D : List Deferred} {R H : List PH} {L : Env} {K : List It}
section
variable {dst : Option Tmp} {ty : TypeId} {pos : String} {aft : Array Edge} {g : Option (Nat × Bool)}
variable {t yT : TypeId} {x y : Operand}
def fldI (P : Program) (k : Nat) (f : Field) : Bool := f.name != "_" && f.offset == k && (match P.underlying f.type with | some (.int .i64) => true | _ => false)
def fldsI (P : Program) : Nat → List Field → Bool
  | _, [] => true
  | k, f :: fs => fldI P k f && fldsI P (k + 1) fs
def intsP (P : Program) (t : TypeId) (n : Nat) : Bool := match P.underlying t with
  | some (.struct fs) => fs.size == n && fldsI P 0 fs.toList
  | _ => false
theorem eqFields_ints {P : Program} (w : World) (d : Nat) (l m : List Int) : ∀ (fs : List Field) (k : Nat), fldsI P k fs = true → k + fs.length = l.length → l.length = m.length →
    (Op.eqFields (d + 1) (l.map int).toArray (m.map int).toArray fs).run P w = .ok (decide (l.drop k = m.drop k)) w
  | [], k, _, h, h2 => by
    rw [List.drop_of_length_le (by simp at h; omega), List.drop_of_length_le (by simp at h; omega)]
    simp [Op.eqFields]
  | f :: fs, k, hf, h, h2 => by
    simp only [fldsI, fldI, Bool.and_eq_true, bne_iff_ne, ne_eq, beq_iff_eq] at hf
    obtain ⟨⟨⟨h3, h4⟩, h5⟩, h6⟩ := hf
    have hu : P.underlying f.type = some (.int .i64) := by
      split at h5
      · assumption
      · simp at h5
    have ih := eqFields_ints w d l m fs (k + 1) h6 (by simp at h; omega) h2
    have hk : k < l.length := by simp at h; omega
    have hk2 : k < m.length := by omega
    have hp : ∀ (q : List Int) (hq : k < q.length), (part f.type (q.map int).toArray f.offset).run P w = .ok (int q[k]) w := fun q hq => by
      have hag : aggP P f.type = some false := by simp [aggP, hu]
      simp [part, run_isAgg hag, h4, hq]
    have hd : decide (l.drop k = m.drop k) = (decide (l[k] = m[k]) && decide (l.drop (k + 1) = m.drop (k + 1))) := by
      rw [List.drop_eq_getElem_cons hk, List.drop_eq_getElem_cons hk2, Bool.eq_iff_iff];simp only [List.cons.injEq, decide_eq_true_eq, Bool.and_eq_true]
    rw [hd]
    have he := run_equalIn_int (P := P) w d f.type .i64 .i64 l[k] m[k] hu
    simp only [Op.eqFields, h3, not_false_eq_true, if_true, Sem.run_bind, hp l hk, hp m hk2, Result.andThen_ok, he, ne_eq]
    by_cases hkm : l[k] = m[k]
    · simp only [hkm, beq_self_eq_true, Bool.not_true, Bool.false_eq_true, if_false, ih, decide_true, Bool.true_and]
    · have : (l[k] == m[k]) = false := by simpa using hkm
      simp only [this, hkm, Bool.not_false, if_true, Sem.run_pure, decide_false, Bool.false_and]
theorem intsP_of {P : Program} {n : Nat} (h : intsP P t n = true) : ∃ fs : Array Field, P.underlying t = some (.struct fs) ∧ fs.size = n ∧ fldsI P 0 fs.toList = true := by
  unfold intsP at h
  split at h
  · rename_i fs hu
    simp only [Bool.and_eq_true, beq_iff_eq] at h;exact ⟨fs, hu, h.1, h.2⟩
  · simp at h
theorem run_eqInts {P : Program} (w : World) {l m : List Int} {n : Nat} (hi : intsP P t n = true) (hp : P.stoodInHeld t = false) (hl : l.length = n) (hm : m.length = n) : (Op.equalIn 10000 t (.agg (l.map int).toArray) (.agg (m.map int).toArray)).run P w = .ok (decide (l = m)) w := by
  obtain ⟨fs, hu, hs, hf⟩ := intsP_of hi
  have hfo : P.fieldsOf t = fs := by simp [Program.fieldsOf, hu]
  have h1 := run_equalIn_struct (P := P) w 9999 t (l.map int).toArray (m.map int).toArray (by rw [hfo]; exact hu) hp
  have h2 := eqFields_ints (P := P) w 9998 l m fs.toList 0 hf (by simp [hs, hl]) (by omega)
  rw [hfo] at h1;simp only [Nat.reduceAdd] at h1 h2;rw [h1, h2]; simp
theorem q_neS (l m : List Int) {n : Nat} (h1 : evalE L x = some (.agg (l.map int).toArray)) (h2 : evalE L y = some (.agg (m.map int).toArray)) (hi : intsP C.P t n = true) (hp : C.P.stoodInHeld t = false) (hg : C.P.eqGuardType C.P.depth t = false) (hl : l.length = n) (hm : m.length = n) :
    Quiet C R H L ⟨dst, .binOp .neq t x y yT, ty, pos, aft, g⟩ (.bool (!decide (l = m))) :=
  ⟨by intro c; simp, fun ac w hx _ => by
    have e1 := hx x (by simp [Op.operands]) _ h1
    have e2 := hx y (by simp [Op.operands]) _ h2
    have h3 := run_neq_struct (P := C.P) w t (l.map int).toArray (m.map int).toArray
    rw [run_eqInts w hi hp hl hm] at h3
    have h4 := run_eqGuard_agg (P := C.P) w .neq t x y (l.map int).toArray (m.map int).toArray hg
    simp [execOp, e1, e2, h3, h4]⟩
end
end Go.Eng
namespace Go.Eng
open Go.ChangeShapes Go.WideShapes Go.RowKit
def heapPH (w : World) : PH := fun b => w.heap[b]?
theorem sat_heap (w : World) : Sat (Bs.of w) [heapPH w] [] w :=
  ⟨⟨Nat.le_refl _, rfl, rfl, rfl, Nat.le_refl _⟩, by intro ρ hρ; simp at hρ; subst hρ; exact fun b o h => h, by simp, List.Pairwise.nil, by simp⟩
theorem rdc_heap {w : World} {b o : Nat} {v : Value} (h : w.cell? ⟨b, o, none⟩ = some v) : rdc (heapPH w) b o = some v := by
  unfold World.cell? at h;unfold rdc heapPH
  cases e : w.heap[b]? with
  | none => simp [e] at h
  | some ob => cases ob <;> simp_all
theorem cell_spot {w : World} {a : Addr} {v : Value} (h : w.cell? a = some v) : a.spot = none := by
  unfold World.cell? at h
  split at h
  · split at h
    · simp at h
    · rename_i hs; simpa using hs
  · simp at h
theorem law_calls {P : Program} {f : FuncId} {fn : Func} {c : Code} {args : List Value} {W : World} (hf : P.funcs[f]? = some fn) (hb : fn.body = some c) (hname : (fn.name == "runtime.NumGoroutine") = false)
    (hs : Ans P (fv f) args [heapPH W] (fun v => v = .bool true)) : Calls P f args.toArray W (fun e W' => e = .returned (.bool true) ∧ Below W.heap.size W W') := by
  have h := hs (Bs.of W) W (sat_heap W)
  unfold CallsV at h
  have hrun : ((do let d ← Deferred.ofValue (fv f) args.toArray; invoke d.target d.args : Sem Next).run P W) = .ok (.enter f args.toArray) W := by
    have hname' : ¬ fn.name = "runtime.NumGoroutine" := by simpa using hname
    simp [Deferred.ofValue, invoke, callFunc, program, Sem.run, bind, Sem.bind, pure, hf, hb, hname']
  rw [hrun] at h;refine callsIn_wide.1 (CallsIn.mono h ?_);rintro e W' ⟨v, rfl, H', ⟨rfl, rfl⟩, hu⟩
  exact ⟨rfl, hu.size.2.1, hu.size.2.2.2.1, hu.size.2.2.1, hu.size.1, fun k hk => hu.keep k hk (by simp)⟩
def RdT (P : Program) (W : World) (t : TypeId) (cs : List Value) : Prop := ∃ (H : Type) (enc : TypeId × Value → H) (fuel : Nat) (x : DataW H × List MemPlace), DataW.trod enc P W 0 (fun _ => true) true fuel t cs = some x
section
variable {P : Program} {W : World} {t : TypeId} {cs : List Value}
theorem RdT.of {H : Type} {enc : TypeId × Value → H} {v : Value} {d : DataW H} {p : List MemPlace} (h : DataW.Trod enc P W 0 (fun _ => true) true t v d p) : RdT P W t v.cells.toList := by
  obtain ⟨fuel, hf⟩ := h
  exact ⟨H, enc, fuel, _, hf⟩
theorem RdT.num {k : IntKind} (ht : P.underlying t = some (.int k)) (h : RdT P W t cs) : ∃ n, cs = [.int k n] ∧ (Lit.int k n).wf = true := by
  obtain ⟨H, enc, fuel, x, h⟩ := h
  obtain ⟨n, h1, _, h2⟩ := DataW.trod_int ht h
  exact ⟨n, h1, h2⟩
theorem wf_i64 {n : Int} (h : (Lit.int .i64 n).wf = true) : In64 n := by
  simp only [Lit.wf, Bool.and_eq_true, decide_eq_true_eq] at h;exact ⟨h.1, h.2⟩
theorem RdT.i64 (ht : P.underlying t = some (.int .i64)) (h : RdT P W t cs) : ∃ n, cs = [int n] ∧ In64 n := by
  obtain ⟨n, h1, h2⟩ := h.num ht
  exact ⟨n, h1, wf_i64 h2⟩
theorem RdT.bool (ht : P.underlying t = some .bool) (h : RdT P W t cs) : ∃ b, cs = [.bool b] := by
  obtain ⟨H, enc, fuel, x, h⟩ := h
  cases fuel with
  | zero => simp [DataW.trod] at h
  | succ n =>
    unfold DataW.trod at h;rw [ht] at h
    split at h <;> simp_all
theorem RdT.struct {fs : Array Field} (ht : P.underlying t = some (.struct fs)) (h : RdT P W t cs) : cs.length = P.cellsOf t ∧ ∀ (i : Nat) (f : Field), fs[i]? = some f → RdT P W f.type ((cs.drop f.offset).take (P.cellsOf f.type)) := by
  obtain ⟨H, enc, fuel, x, h⟩ := h
  obtain ⟨xs, n, _, _, hl, hlen, hf⟩ := DataW.trod_struct ht h
  refine ⟨hl, fun i f hi => ?_⟩
  have hif : i < xs.length := by rw [hlen]; exact (Array.getElem?_eq_some_iff.1 hi).1
  have := hf i f hi
  rw [List.getElem?_eq_getElem hif] at this;exact ⟨H, enc, n, _, this⟩
theorem RdT.fld1 {fs : Array Field} (ht : P.underlying t = some (.struct fs)) (h : RdT P W t cs) (i : Nat) {f : Field} (hi : fs[i]? = some f) {ty : TypeId} {o : Nat} {c : Value} (hty : f.type = ty) (ho : f.offset = o) (hc : P.cellsOf ty = 1) (hcs : cs[o]? = some c) : RdT P W ty [c] := by
  have := (h.struct ht).2 i f hi
  rw [hty, ho, hc] at this
  obtain ⟨hlt, he⟩ := List.getElem?_eq_some_iff.1 hcs
  rw [List.drop_eq_getElem_cons hlt, he] at this
  simpa using this
theorem choose_list {α : Type} (q : Nat → α → Prop) : ∀ n, (∀ i, i < n → ∃ a, q i a) → ∃ l : List α, l.length = n ∧ ∀ i a, l[i]? = some a → q i a
  | 0, _ => ⟨[], rfl, by simp⟩
  | n + 1, h => by
    obtain ⟨l, hl, hq⟩ := choose_list q n (fun i hi => h i (by omega))
    obtain ⟨a, ha⟩ := h n (by omega)
    refine ⟨l ++ [a], by simp [hl], fun i b hb => ?_⟩
    by_cases e : i < n
    · rw [List.getElem?_append_left (by omega)] at hb; exact hq i b hb
    · rw [List.getElem?_append_right (by omega)] at hb
      have hi : i - l.length = 0 := by
        have := (List.getElem?_eq_some_iff.1 hb).1
        simp at this; omega
      rw [hi] at hb
      simp at hb
      subst hb
      have : i = n := by omega
      subst this; exact ha
theorem RdT.slice {e : TypeId} {s : Nat} (ht : P.underlying t = some (.slice e)) (hs : P.cellsOf e = s) (h0 : 0 < s) (h : RdT P W t cs) :
    ∃ v p c, cs = [v] ∧ ∃ els : List (List Value), v = .slice p els.length c ∧ els.length ≤ maxLen ∧ ∀ i x, els[i]? = some x → x.length = s ∧ RdT P W e x ∧ ∃ b o, p = some ⟨b, o, none⟩ ∧ RdN (heapPH W) b (o + i * s) x := by
  obtain ⟨H, enc, fuel, x, h⟩ := h
  rcases Deep.open_slice ht h with ⟨rfl, _⟩ | ⟨a, len, cap, m, n, D, Pl, rfl, _, hlc, hcm, hm, _, hx⟩
  · exact ⟨_, none, 0, rfl, [], rfl, by simp, by simp⟩
  · have hm' : m = cap := by rw [hm]; simp
    obtain ⟨els, hl, hq⟩ := choose_list (fun i cs' => W.cells? 0 (a.add (i * P.cellsOf e)) (P.cellsOf e) = some cs' ∧ DataW.trod enc P W 0 (fun _ => true) true n e cs' = some (D i, Pl i)) len (fun i hi => hx i (by omega))
    refine ⟨_, some a, cap, rfl, els, by rw [hl], by omega, fun i y hy => ?_⟩
    obtain ⟨q1, q2⟩ := hq i y hy
    obtain ⟨_, k1, k2⟩ := World.cells?_some q1
    rw [hs] at k1 k2
    have hsp : a.spot = none := by
      have hi : i < els.length := (List.getElem?_eq_some_iff.1 hy).1
      obtain ⟨r1, _⟩ := hq 0 els[0] (List.getElem?_eq_getElem (by omega))
      obtain ⟨_, g1, g2⟩ := World.cells?_some r1
      rw [hs] at g1 g2
      have hv0 : els[0][0]? = some (els[0][0]'(by omega)) := List.getElem?_eq_getElem (by omega)
      have := cell_spot ((g2 0 h0).trans hv0)
      simpa [Addr.add] using this
    obtain ⟨b, o, sp⟩ := a
    simp only at hsp;subst hsp
    have hadd : ∀ m : Nat, (⟨b, o, none⟩ : Addr).add m = ⟨b, o + m, none⟩ := fun m => by
      unfold Addr.add
      split
      · rename_i e; rw [e]; rfl
      · rfl
    have hadd2 : ∀ m k : Nat, (⟨b, o + m, none⟩ : Addr).add k = ⟨b, o + m + k, none⟩ := fun m k => by
      unfold Addr.add
      split
      · rename_i e; rw [e]; rfl
      · rfl
    refine ⟨k1, ⟨H, enc, n, _, q2⟩, b, o, rfl, fun j v hv => ?_⟩
    have hj : j < s := by
      have := (List.getElem?_eq_some_iff.1 hv).1
      omega
    have := (k2 j hj).trans hv
    rw [hadd, hadd2] at this;exact rdc_heap this
theorem RdT.sliceE {α : Type} {enc : α → List Value} {Q : α → Prop} {e : TypeId} {s : Nat} (ht : P.underlying t = some (.slice e)) (hs : P.cellsOf e = s) (h0 : 0 < s) (hel : ∀ x, RdT P W e x → ∃ a, x = enc a ∧ Q a) (h : RdT P W t cs) :
    ∃ v, cs = [v] ∧ ∃ l : List α, SlE enc s (heapPH W) v l ∧ (∀ a ∈ l, Q a) ∧ l.length ≤ maxLen := by
  obtain ⟨v, p, c, rfl, els, rfl, hle, hx⟩ := h.slice ht hs h0
  obtain ⟨l, hl, hq⟩ := choose_list (fun i (a : α) => ∀ x, els[i]? = some x → x = enc a ∧ Q a) els.length (fun i hi => by
    obtain ⟨a, h1, h2⟩ := hel els[i] (hx i _ (List.getElem?_eq_getElem hi)).2.1
    exact ⟨a, fun x hx => by rw [List.getElem?_eq_getElem hi] at hx; obtain rfl := Option.some.inj hx; exact ⟨h1, h2⟩⟩)
  have hlen : ∀ i a, l[i]? = some a → (enc a).length = s ∧ Q a ∧ ∃ b o, p = some ⟨b, o, none⟩ ∧ RdN (heapPH W) b (o + i * s) (enc a) := fun i a ha => by
    have hi : i < els.length := by rw [← hl]; exact (List.getElem?_eq_some_iff.1 ha).1
    obtain ⟨e1, e2⟩ := hq i a ha _ (List.getElem?_eq_getElem hi)
    obtain ⟨k1, _, k3⟩ := hx i _ (List.getElem?_eq_getElem hi)
    rw [e1] at k1 k3;exact ⟨k1, e2, k3⟩
  refine ⟨_, rfl, l, ⟨?_, ?_⟩, fun a ha => ?_, by omega⟩
  · clear hq hx hle
    have : ∀ (l : List α), (∀ a ∈ l, (enc a).length = s) → (l.flatMap enc).length = l.length * s := by
      intro l
      induction l with
      | nil => simp
      | cons a l ih =>
        intro hall
        rw [List.flatMap_cons, List.length_append, ih (fun b hb => hall b (by simp [hb])), hall a (by simp), List.length_cons, Nat.add_mul]; omega
    exact this l (fun a ha => by
      obtain ⟨i, hi, e⟩ := List.getElem_of_mem ha
      exact (hlen i a (by rw [List.getElem?_eq_getElem hi, e])).1)
  · rcases Nat.eq_zero_or_pos l.length with hz | hz
    · left; refine ⟨hz, p, c, by rw [← hl, hz]⟩
    · right
      obtain ⟨_, _, b, o, rfl, _⟩ := hlen 0 l[0] (List.getElem?_eq_getElem hz)
      refine ⟨b, o, c, by rw [hl], fun j u hu => ?_⟩
      have hfl : ∀ (l' : List α) (k : Nat), (∀ i a, l'[i]? = some a → (enc a).length = s ∧ RdN (heapPH W) b (o + (k + i) * s) (enc a)) → ∀ j u, (l'.flatMap enc)[j]? = some u → rdc (heapPH W) b (o + k * s + j) = some u := by
        intro l'
        induction l' with
        | nil => intro k _ j u hu; simp at hu
        | cons a l' ih =>
          intro k hall j u hu
          have h1 := hall 0 a rfl
          rw [List.flatMap_cons] at hu
          by_cases hj : j < (enc a).length
          · rw [List.getElem?_append_left hj] at hu
            have := h1.2 j u hu
            rwa [Nat.add_zero] at this
          · rw [List.getElem?_append_right (by omega)] at hu
            have := ih (k + 1) (fun i b' hb => by
              have := hall (i + 1) b' (by simpa using hb)
              rwa [show k + (i + 1) = k + 1 + i from by omega] at this) (j - (enc a).length) u hu
            rw [h1.1] at this hj
            rwa [show o + (k + 1) * s + (j - s) = o + k * s + j from by rw [Nat.add_mul]; omega] at this
      have := hfl l 0 (fun i a ha => by
        obtain ⟨k1, _, b', o', e, k3⟩ := hlen i a ha
        simp only [Option.some.injEq, Addr.mk.injEq, and_true] at e
        obtain ⟨rfl, rfl⟩ := e
        rw [Nat.zero_add]; exact ⟨k1, k3⟩) j u hu
      rwa [Nat.zero_mul, Nat.add_zero] at this
  · obtain ⟨i, hi, e⟩ := List.getElem_of_mem ha
    exact (hlen i a (by rw [List.getElem?_eq_getElem hi, e])).2.1
theorem RdT.ints {e : TypeId} (ht : P.underlying t = some (.slice e)) (he : P.underlying e = some (.int .i64)) (hs : P.cellsOf e = 1) (h : RdT P W t cs) :
    ∃ v, cs = [v] ∧ ∃ l : List Int, IntsAt (heapPH W) v l ∧ (∀ a ∈ l, In64 a) ∧ l.length ≤ maxLen :=
  h.sliceE ht hs (by omega) (fun x hx => hx.i64 he)
end
theorem okWide_agg {P : Program} {w : World} {r : Reach} {base : Nat} {t : TypeId} {v : Value} {fs : Array Field} (ht : P.underlying t = some (.struct fs)) (h : Value.okWide P w r base t v) : ∃ cs, v = .agg cs := by
  simp only [Value.okWide, ht] at h
  obtain ⟨cs, h1, _⟩ := h
  exact ⟨cs, h1⟩
end Go.Eng
namespace Go.Eng
variable {C:Cx} {D:List Deferred} {R H:List PH} {L:Env} {K:List It}
structure RdP (ρ:PH) (b o:Nat) (vs:List Value):Prop where
  rd:RdN ρ b o vs
theorem cellsP {N:Bs} {σ:PH} {b o:Nat} {vs:List Value} (h:RdP σ b o vs) (m:Mem σ R):Cells N R H b o vs:=cellsR h.rd m
theorem rdP_sng {b k:Nat} {xs vs:List Value} {t:TypeId} {fr:Nat × Nat} (h:(xs.drop k).take vs.length=vs):RdP (sng b (.cells xs.toArray t fr)) b k vs:=⟨fun j v hv=>by
  rw [rdc_sng];rw [← h] at hv
  have hlt:=(List.getElem?_eq_some_iff.1 hv).1
  rw [List.length_take] at hlt
  rw [List.getElem?_take_of_lt (by omega),List.getElem?_drop] at hv
  simpa using hv⟩
end Go.Eng
namespace Go.Eng
variable {C:Cx} {D:List Deferred} {R H Hf:List PH} {L:Env} {K:List It} {ps ls:List Nat}
variable {all:Array Oper} {o:Oper} {d i:Nat} {v:Value} {done:List Nat}
structure GWz (C:Cx) (L:Env) (all:Array Oper) (o:Oper) (d:Nat):Prop where
  a:wantE all L o=some true
  b:o.dst=some d
  c:Nat.blt d C.M=true
theorem rsubZ {R0 R:List PH} (h:∀ ρ∈R0,ρ∈R:=by (repeat (first|exact rs_nil|(refine rs_cons ?_ ?_; (focus ((repeat (first|exact .here|apply Mem.there|apply Take.there)); first|done|fail)))|exact fun ρ hρ=>hρ|(intro ρ hρ; repeat (first|exact hρ|refine List.mem_cons_of_mem _ ?_)))); first|done|fail):∀ ρ∈R0,ρ∈R:=h
theorem envZ {k:Nat} {vs cap:List Value} {L:Env} (h:EnvA k vs cap L:=by (repeat (first|exact EnvA.nil EnvI.nil|apply EnvA.cons|apply EnvA.nil|exact EnvI.nil|apply EnvI.cons)); first|done|fail):EnvA k vs cap L:=h
theorem takesZ {H T H':List PH} (h:Takes H T H':=by (repeat (first|exact Takes.nil|(apply Takes.cons; exact (by (repeat (first|exact .here|apply Take.there)); first|done|fail)))); first|done|fail):Takes H T H':=h
theorem putiZ {ps:List Nat} {vs:List Value} {L L':Env} (h:PutI ps vs L L':=by (repeat (first|exact PutI.nil|apply PutI.cons)); first|done|fail):PutI ps vs L L':=h
theorem oneZ {vs:List Value} {p:Value→Prop} (h:∀ v∈vs,p v:=by (repeat (first|exact (fun v hv=>absurd hv List.not_mem_nil)|(refine List.forall_mem_cons.2 ⟨?_,?_⟩; (focus (first|exact rfl|assumption))))); first|done|fail):∀ v∈vs,p v:=h
theorem selZ {H H':List PH} (h:Sel H H':=by (repeat (first|exact Sel.nil|(apply Sel.cons; (focus ((repeat (first|exact .here|apply Mem.there|apply Take.there)); first|done|fail))))); first|done|fail):Sel H H':=h
theorem covZ {L L':Env} (h:Cover L L':=by (repeat (first|exact trivial|refine And.intro rfl ?_)); first|done|fail):Cover L L':=h
theorem pickZ {L L':Env} {ks:List Nat} (h:Pick L ks L':=by (repeat (first|exact Pick.nil|apply Pick.cons rfl)); first|done|fail):Pick L ks L':=h
theorem rdZ {R1 R H:List PH} (h:RdOK R1 R H:=by (repeat (first|exact RdOK.nil|(refine RdOK.consR ?_ ?_; (focus ((repeat (first|exact .here|apply Mem.there|apply Take.there)); first|done|fail)))|(refine RdOK.consH ?_ ?_; (focus ((repeat (first|exact .here|apply Mem.there|apply Take.there)); first|done|fail)))|exact (fun τ hτ=>.inl (by simp [hτ])))); first|done|fail):RdOK R1 R H:=h
theorem memZ {ρ:PH} {H:List PH} (h:Mem ρ H:=by (repeat (first|exact .here|apply Mem.there)); first|done|fail):Mem ρ H:=h
theorem takeZ {ρ:PH} {H H':List PH} (h:Take ρ H H':=by (repeat (first|exact .here|apply Take.there)); first|done|fail):Take ρ H H':=h
theorem AB {rest:List Oper} (h:JK C D R H ((d,v)::L) (.ops all rest::K)) (hq:Quiet C R H L o v:=by (apply DT; exact rfl)) (g:GWz C L all o d:=by exact ⟨rfl,rfl,rfl⟩):JK C D R H L (.ops all (o::rest)::K):=CK hq g.a g.b g.c h
theorem AM {rest:Pl} (h:DJ C D R Hf H ((d,v)::L) all (i::done) ps ls rest K) (ho:all[i]?=some o:=by exact rfl) (hq:Quiet C R H L o v:=by (apply DT; exact rfl)) (g:GWz C L all o d:=by exact ⟨rfl,rfl,rfl⟩) (hin:(ps.all (done.contains ·))=true:=by exact rfl):DJ C D R Hf H L all done ps ls (.q i rest) K:=CQ ho hq g.a g.b g.c hin h
theorem CD {rest:Pl} (h:DJ C D R Hf H ((d,v)::L) all (i::done) (i::ps) ls rest K) (ho:all[i]?=some o:=by exact rfl) (hq:Quiet C R Hf L o v:=by (apply DT; exact rfl)) (g:GWz C L all o d:=by exact ⟨rfl,rfl,rfl⟩):DJ C D R Hf H L all done ps ls (.p i rest) K:=EM ho hq g.a g.b g.c h
theorem AD {rest:List Oper} (h:JK C D R H ((d,v)::L) (.ops all rest::K)) (hq:Quiet C R H L o v:=by (apply CL; exact rfl)) (g:GWz C L all o d:=by exact ⟨rfl,rfl,rfl⟩):JK C D R H L (.ops all (o::rest)::K):=CK hq g.a g.b g.c h
theorem BV {rest:Pl} (h:DJ C D R Hf H ((d,v)::L) all (i::done) ps ls rest K) (ho:all[i]?=some o:=by exact rfl) (hq:Quiet C R H L o v:=by (apply CL; exact rfl)) (g:GWz C L all o d:=by exact ⟨rfl,rfl,rfl⟩) (hin:(ps.all (done.contains ·))=true:=by exact rfl):DJ C D R Hf H L all done ps ls (.q i rest) K:=CQ ho hq g.a g.b g.c hin h
theorem AX {rest:List Oper} (h:JK C D R H ((d,v)::L) (.ops all rest::K)) (hq:Quiet C R H L o v:=by (apply CP; exact rfl; exact rfl)) (g:GWz C L all o d:=by exact ⟨rfl,rfl,rfl⟩):JK C D R H L (.ops all (o::rest)::K):=CK hq g.a g.b g.c h
theorem E0 {rest:Pl} (h:DJ C D R Hf H ((d,v)::L) all (i::done) ps ls rest K) (ho:all[i]?=some o:=by exact rfl) (hq:Quiet C R H L o v:=by (apply CP; exact rfl; exact rfl)) (g:GWz C L all o d:=by exact ⟨rfl,rfl,rfl⟩) (hin:(ps.all (done.contains ·))=true:=by exact rfl):DJ C D R Hf H L all done ps ls (.q i rest) K:=CQ ho hq g.a g.b g.c hin h
theorem E1 {rest:Pl} (h:DJ C D R Hf H ((d,v)::L) all (i::done) (i::ps) ls rest K) (ho:all[i]?=some o:=by exact rfl) (hq:Quiet C R Hf L o v:=by (apply CP; exact rfl; exact rfl)) (g:GWz C L all o d:=by exact ⟨rfl,rfl,rfl⟩):DJ C D R Hf H L all done ps ls (.p i rest) K:=EM ho hq g.a g.b g.c h
theorem AF {rest:List Oper} (h:JK C D R H ((d,v)::L) (.ops all rest::K)) (hq:Quiet C R H L o v:=by (apply E4; exact rfl; exact rfl; (first|exact cell_own (by (repeat (first|exact .here|apply Mem.there)); first|done|fail) rfl|exact cellR (by assumption) (by (repeat (first|exact .here|apply Mem.there)); first|done|fail)|exact cellH (by assumption) (by (repeat (first|exact .here|apply Mem.there)); first|done|fail)|exact cell_ints (by (repeat (first|exact .here|apply Mem.there)); first|done|fail) (by omega)|exact cell_bools (by assumption) (by (repeat (first|exact .here|apply Mem.there)); first|done|fail)|exact cell_intsR (by (repeat (first|exact .here|apply Mem.there)); first|done|fail) (by omega)|exact cell_boolsR (by assumption) (by (repeat (first|exact .here|apply Mem.there)); first|done|fail)))) (g:GWz C L all o d:=by exact ⟨rfl,rfl,rfl⟩):JK C D R H L (.ops all (o::rest)::K):=CK hq g.a g.b g.c h
theorem AP {rest:Pl} (h:DJ C D R Hf H ((d,v)::L) all (i::done) ps ls rest K) (ho:all[i]?=some o:=by exact rfl) (hq:Quiet C R H L o v:=by (apply E4; exact rfl; exact rfl; (first|exact cell_own (by (repeat (first|exact .here|apply Mem.there)); first|done|fail) rfl|exact cellR (by assumption) (by (repeat (first|exact .here|apply Mem.there)); first|done|fail)|exact cellH (by assumption) (by (repeat (first|exact .here|apply Mem.there)); first|done|fail)|exact cell_ints (by (repeat (first|exact .here|apply Mem.there)); first|done|fail) (by omega)|exact cell_bools (by assumption) (by (repeat (first|exact .here|apply Mem.there)); first|done|fail)|exact cell_intsR (by (repeat (first|exact .here|apply Mem.there)); first|done|fail) (by omega)|exact cell_boolsR (by assumption) (by (repeat (first|exact .here|apply Mem.there)); first|done|fail)))) (g:GWz C L all o d:=by exact ⟨rfl,rfl,rfl⟩) (hin:(ps.all (done.contains ·))=true:=by exact rfl):DJ C D R Hf H L all done ps ls (.q i rest) K:=CQ ho hq g.a g.b g.c hin h
theorem EQ {rest:Pl} (h:DJ C D R Hf H ((d,v)::L) all (i::done) (i::ps) ls rest K) (ho:all[i]?=some o:=by exact rfl) (hq:Quiet C R Hf L o v:=by (apply E4; exact rfl; exact rfl; (first|exact cell_own (by (repeat (first|exact .here|apply Mem.there)); first|done|fail) rfl|exact cellR (by assumption) (by (repeat (first|exact .here|apply Mem.there)); first|done|fail)|exact cellH (by assumption) (by (repeat (first|exact .here|apply Mem.there)); first|done|fail)|exact cell_ints (by (repeat (first|exact .here|apply Mem.there)); first|done|fail) (by omega)|exact cell_bools (by assumption) (by (repeat (first|exact .here|apply Mem.there)); first|done|fail)|exact cell_intsR (by (repeat (first|exact .here|apply Mem.there)); first|done|fail) (by omega)|exact cell_boolsR (by assumption) (by (repeat (first|exact .here|apply Mem.there)); first|done|fail)))) (g:GWz C L all o d:=by exact ⟨rfl,rfl,rfl⟩):DJ C D R Hf H L all done ps ls (.p i rest) K:=EM ho hq g.a g.b g.c h
theorem AG {rest:List Oper} (h:JK C D R H ((d,v)::L) (.ops all rest::K)) (hq:Quiet C R H L o v:=by (apply E5; exact rfl; exact rfl)) (g:GWz C L all o d:=by exact ⟨rfl,rfl,rfl⟩):JK C D R H L (.ops all (o::rest)::K):=CK hq g.a g.b g.c h
theorem AS {rest:Pl} (h:DJ C D R Hf H ((d,v)::L) all (i::done) ps ls rest K) (ho:all[i]?=some o:=by exact rfl) (hq:Quiet C R H L o v:=by (apply E5; exact rfl; exact rfl)) (g:GWz C L all o d:=by exact ⟨rfl,rfl,rfl⟩) (hin:(ps.all (done.contains ·))=true:=by exact rfl):DJ C D R Hf H L all done ps ls (.q i rest) K:=CQ ho hq g.a g.b g.c hin h
theorem EB {rest:Pl} (h:DJ C D R Hf H ((d,v)::L) all (i::done) (i::ps) ls rest K) (ho:all[i]?=some o:=by exact rfl) (hq:Quiet C R Hf L o v:=by (apply E5; exact rfl; exact rfl)) (g:GWz C L all o d:=by exact ⟨rfl,rfl,rfl⟩):DJ C D R Hf H L all done ps ls (.p i rest) K:=EM ho hq g.a g.b g.c h
theorem GC {rest:List Oper} (h:JK C D R H ((d,v)::L) (.ops all rest::K)) (hq:Quiet C R H L o v:=by (apply FS; exact rfl; exact rfl)) (g:GWz C L all o d:=by exact ⟨rfl,rfl,rfl⟩):JK C D R H L (.ops all (o::rest)::K):=CK hq g.a g.b g.c h
theorem DN {rest:Pl} (h:DJ C D R Hf H ((d,v)::L) all (i::done) ps ls rest K) (ho:all[i]?=some o:=by exact rfl) (hq:Quiet C R H L o v:=by (apply FS; exact rfl; exact rfl)) (g:GWz C L all o d:=by exact ⟨rfl,rfl,rfl⟩) (hin:(ps.all (done.contains ·))=true:=by exact rfl):DJ C D R Hf H L all done ps ls (.q i rest) K:=CQ ho hq g.a g.b g.c hin h
theorem EG {rest:List Oper} (h:JK C D R H ((d,v)::L) (.ops all rest::K)) (hq:Quiet C R H L o v:=by (apply FH; exact rfl; exact rfl)) (g:GWz C L all o d:=by exact ⟨rfl,rfl,rfl⟩):JK C D R H L (.ops all (o::rest)::K):=CK hq g.a g.b g.c h
theorem CF {rest:Pl} (h:DJ C D R Hf H ((d,v)::L) all (i::done) ps ls rest K) (ho:all[i]?=some o:=by exact rfl) (hq:Quiet C R H L o v:=by (apply FH; exact rfl; exact rfl)) (g:GWz C L all o d:=by exact ⟨rfl,rfl,rfl⟩) (hin:(ps.all (done.contains ·))=true:=by exact rfl):DJ C D R Hf H L all done ps ls (.q i rest) K:=CQ ho hq g.a g.b g.c hin h
theorem CV {rest:List Oper} (h:JK C D R H ((d,v)::L) (.ops all rest::K)) (hq:Quiet C R H L o v:=by (apply FP; exact rfl; exact rfl; exact rfl; exact rfl; omega)) (g:GWz C L all o d:=by exact ⟨rfl,rfl,rfl⟩):JK C D R H L (.ops all (o::rest)::K):=CK hq g.a g.b g.c h
theorem EC {rest:Pl} (h:DJ C D R Hf H ((d,v)::L) all (i::done) ps ls rest K) (ho:all[i]?=some o:=by exact rfl) (hq:Quiet C R H L o v:=by (apply FP; exact rfl; exact rfl; exact rfl; exact rfl; omega)) (g:GWz C L all o d:=by exact ⟨rfl,rfl,rfl⟩) (hin:(ps.all (done.contains ·))=true:=by exact rfl):DJ C D R Hf H L all done ps ls (.q i rest) K:=CQ ho hq g.a g.b g.c hin h
theorem BL {rest:List Oper} (h:JK C D R H ((d,v)::L) (.ops all rest::K)) (hq:Quiet C R H L o v:=by (apply FQ; exact rfl; exact rfl; exact rfl; exact rfl; omega)) (g:GWz C L all o d:=by exact ⟨rfl,rfl,rfl⟩):JK C D R H L (.ops all (o::rest)::K):=CK hq g.a g.b g.c h
theorem BB {rest:Pl} (h:DJ C D R Hf H ((d,v)::L) all (i::done) ps ls rest K) (ho:all[i]?=some o:=by exact rfl) (hq:Quiet C R H L o v:=by (apply FQ; exact rfl; exact rfl; exact rfl; exact rfl; omega)) (g:GWz C L all o d:=by exact ⟨rfl,rfl,rfl⟩) (hin:(ps.all (done.contains ·))=true:=by exact rfl):DJ C D R Hf H L all done ps ls (.q i rest) K:=CQ ho hq g.a g.b g.c hin h
theorem A2 {rest:List Oper} (h:JK C D R H ((d,v)::L) (.ops all rest::K)) (hq:Quiet C R H L o v:=by (apply ET; exact rfl; exact rfl)) (g:GWz C L all o d:=by exact ⟨rfl,rfl,rfl⟩):JK C D R H L (.ops all (o::rest)::K):=CK hq g.a g.b g.c h
theorem BN {rest:Pl} (h:DJ C D R Hf H ((d,v)::L) all (i::done) ps ls rest K) (ho:all[i]?=some o:=by exact rfl) (hq:Quiet C R H L o v:=by (apply ET; exact rfl; exact rfl)) (g:GWz C L all o d:=by exact ⟨rfl,rfl,rfl⟩) (hin:(ps.all (done.contains ·))=true:=by exact rfl):DJ C D R Hf H L all done ps ls (.q i rest) K:=CQ ho hq g.a g.b g.c hin h
theorem AV {rest:List Oper} (h:JK C D R H ((d,v)::L) (.ops all rest::K)) (hq:Quiet C R H L o v:=by (apply EU; exact rfl; exact rfl)) (g:GWz C L all o d:=by exact ⟨rfl,rfl,rfl⟩):JK C D R H L (.ops all (o::rest)::K):=CK hq g.a g.b g.c h
theorem BR {rest:Pl} (h:DJ C D R Hf H ((d,v)::L) all (i::done) ps ls rest K) (ho:all[i]?=some o:=by exact rfl) (hq:Quiet C R H L o v:=by (apply EU; exact rfl; exact rfl)) (g:GWz C L all o d:=by exact ⟨rfl,rfl,rfl⟩) (hin:(ps.all (done.contains ·))=true:=by exact rfl):DJ C D R Hf H L all done ps ls (.q i rest) K:=CQ ho hq g.a g.b g.c hin h
theorem BC {rest:List Oper} (h:JK C D R H ((d,v)::L) (.ops all rest::K)) (hq:Quiet C R H L o v:=by (apply q_len; exact rfl; exact rfl)) (g:GWz C L all o d:=by exact ⟨rfl,rfl,rfl⟩):JK C D R H L (.ops all (o::rest)::K):=CK hq g.a g.b g.c h
theorem FU {rest:Pl} (h:DJ C D R Hf H ((d,v)::L) all (i::done) ps ls rest K) (ho:all[i]?=some o:=by exact rfl) (hq:Quiet C R H L o v:=by (apply q_len; exact rfl; exact rfl)) (g:GWz C L all o d:=by exact ⟨rfl,rfl,rfl⟩) (hin:(ps.all (done.contains ·))=true:=by exact rfl):DJ C D R Hf H L all done ps ls (.q i rest) K:=CQ ho hq g.a g.b g.c hin h
theorem B6 {rest:List Oper} (h:JK C D R H ((d,v)::L) (.ops all rest::K)) (hq:Quiet C R H L o v:=by (apply q_not; exact rfl)) (g:GWz C L all o d:=by exact ⟨rfl,rfl,rfl⟩):JK C D R H L (.ops all (o::rest)::K):=CK hq g.a g.b g.c h
theorem CW {rest:Pl} (h:DJ C D R Hf H ((d,v)::L) all (i::done) ps ls rest K) (ho:all[i]?=some o:=by exact rfl) (hq:Quiet C R H L o v:=by (apply q_not; exact rfl)) (g:GWz C L all o d:=by exact ⟨rfl,rfl,rfl⟩) (hin:(ps.all (done.contains ·))=true:=by exact rfl):DJ C D R Hf H L all done ps ls (.q i rest) K:=CQ ho hq g.a g.b g.c hin h
theorem BT {rest:List Oper} (h:JK C D R H ((d,v)::L) (.ops all rest::K)) (hq:Quiet C R H L o v:=by (apply DI; exact rfl)) (g:GWz C L all o d:=by exact ⟨rfl,rfl,rfl⟩):JK C D R H L (.ops all (o::rest)::K):=CK hq g.a g.b g.c h
theorem BG {rest:Pl} (h:DJ C D R Hf H ((d,v)::L) all (i::done) ps ls rest K) (ho:all[i]?=some o:=by exact rfl) (hq:Quiet C R H L o v:=by (apply DI; exact rfl)) (g:GWz C L all o d:=by exact ⟨rfl,rfl,rfl⟩) (hin:(ps.all (done.contains ·))=true:=by exact rfl):DJ C D R Hf H L all done ps ls (.q i rest) K:=CQ ho hq g.a g.b g.c hin h
theorem ER {rest:Pl} (h:DJ C D R Hf H ((d,v)::L) all (i::done) (i::ps) ls rest K) (ho:all[i]?=some o:=by exact rfl) (hq:Quiet C R Hf L o v:=by (apply DI; exact rfl)) (g:GWz C L all o d:=by exact ⟨rfl,rfl,rfl⟩):DJ C D R Hf H L all done ps ls (.p i rest) K:=EM ho hq g.a g.b g.c h
theorem BJ {rest:List Oper} (h:JK C D R H ((d,v)::L) (.ops all rest::K)) (hq:Quiet C R H L o v:=by (apply F4; exact rfl; exact rfl; omega)) (g:GWz C L all o d:=by exact ⟨rfl,rfl,rfl⟩):JK C D R H L (.ops all (o::rest)::K):=CK hq g.a g.b g.c h
theorem FB {rest:Pl} (h:DJ C D R Hf H ((d,v)::L) all (i::done) ps ls rest K) (ho:all[i]?=some o:=by exact rfl) (hq:Quiet C R H L o v:=by (apply F4; exact rfl; exact rfl; omega)) (g:GWz C L all o d:=by exact ⟨rfl,rfl,rfl⟩) (hin:(ps.all (done.contains ·))=true:=by exact rfl):DJ C D R Hf H L all done ps ls (.q i rest) K:=CQ ho hq g.a g.b g.c hin h
theorem FV {rest:Pl} (h:DJ C D R Hf H ((d,v)::L) all (i::done) (i::ps) ls rest K) (ho:all[i]?=some o:=by exact rfl) (hq:Quiet C R Hf L o v:=by (apply F4; exact rfl; exact rfl; omega)) (g:GWz C L all o d:=by exact ⟨rfl,rfl,rfl⟩):DJ C D R Hf H L all done ps ls (.p i rest) K:=EM ho hq g.a g.b g.c h
theorem BK {rest:List Oper} (h:JK C D R H ((d,v)::L) (.ops all rest::K)) (hq:Quiet C R H L o v:=by (apply q_lt; exact rfl; exact rfl; omega)) (g:GWz C L all o d:=by exact ⟨rfl,rfl,rfl⟩):JK C D R H L (.ops all (o::rest)::K):=CK hq g.a g.b g.c h
theorem DO {rest:Pl} (h:DJ C D R Hf H ((d,v)::L) all (i::done) ps ls rest K) (ho:all[i]?=some o:=by exact rfl) (hq:Quiet C R H L o v:=by (apply q_lt; exact rfl; exact rfl; omega)) (g:GWz C L all o d:=by exact ⟨rfl,rfl,rfl⟩) (hin:(ps.all (done.contains ·))=true:=by exact rfl):DJ C D R Hf H L all done ps ls (.q i rest) K:=CQ ho hq g.a g.b g.c hin h
theorem A7 {rest:List Oper} (h:JK C D R H ((d,v)::L) (.ops all rest::K)) (hq:Quiet C R H L o v:=by (apply q_ltF; exact rfl; exact rfl; omega)) (g:GWz C L all o d:=by exact ⟨rfl,rfl,rfl⟩):JK C D R H L (.ops all (o::rest)::K):=CK hq g.a g.b g.c h
theorem CX {rest:Pl} (h:DJ C D R Hf H ((d,v)::L) all (i::done) ps ls rest K) (ho:all[i]?=some o:=by exact rfl) (hq:Quiet C R H L o v:=by (apply q_ltF; exact rfl; exact rfl; omega)) (g:GWz C L all o d:=by exact ⟨rfl,rfl,rfl⟩) (hin:(ps.all (done.contains ·))=true:=by exact rfl):DJ C D R Hf H L all done ps ls (.q i rest) K:=CQ ho hq g.a g.b g.c hin h
theorem CO {rest:List Oper} (h:JK C D R H ((d,v)::L) (.ops all rest::K)) (hq:Quiet C R H L o v:=by (apply q_eq; exact rfl; exact rfl; omega)) (g:GWz C L all o d:=by exact ⟨rfl,rfl,rfl⟩):JK C D R H L (.ops all (o::rest)::K):=CK hq g.a g.b g.c h
theorem FC {rest:Pl} (h:DJ C D R Hf H ((d,v)::L) all (i::done) ps ls rest K) (ho:all[i]?=some o:=by exact rfl) (hq:Quiet C R H L o v:=by (apply q_eq; exact rfl; exact rfl; omega)) (g:GWz C L all o d:=by exact ⟨rfl,rfl,rfl⟩) (hin:(ps.all (done.contains ·))=true:=by exact rfl):DJ C D R Hf H L all done ps ls (.q i rest) K:=CQ ho hq g.a g.b g.c hin h
theorem CA {rest:List Oper} (h:JK C D R H ((d,v)::L) (.ops all rest::K)) (hq:Quiet C R H L o v:=by (apply q_eqF; exact rfl; exact rfl; omega)) (g:GWz C L all o d:=by exact ⟨rfl,rfl,rfl⟩):JK C D R H L (.ops all (o::rest)::K):=CK hq g.a g.b g.c h
theorem FW {rest:Pl} (h:DJ C D R Hf H ((d,v)::L) all (i::done) ps ls rest K) (ho:all[i]?=some o:=by exact rfl) (hq:Quiet C R H L o v:=by (apply q_eqF; exact rfl; exact rfl; omega)) (g:GWz C L all o d:=by exact ⟨rfl,rfl,rfl⟩) (hin:(ps.all (done.contains ·))=true:=by exact rfl):DJ C D R Hf H L all done ps ls (.q i rest) K:=CQ ho hq g.a g.b g.c hin h
theorem C3 {rest:List Oper} (h:JK C D R H ((d,v)::L) (.ops all rest::K)) (hq:Quiet C R H L o v:=by (apply q_ne; exact rfl; exact rfl; omega)) (g:GWz C L all o d:=by exact ⟨rfl,rfl,rfl⟩):JK C D R H L (.ops all (o::rest)::K):=CK hq g.a g.b g.c h
theorem FJ {rest:Pl} (h:DJ C D R Hf H ((d,v)::L) all (i::done) ps ls rest K) (ho:all[i]?=some o:=by exact rfl) (hq:Quiet C R H L o v:=by (apply q_ne; exact rfl; exact rfl; omega)) (g:GWz C L all o d:=by exact ⟨rfl,rfl,rfl⟩) (hin:(ps.all (done.contains ·))=true:=by exact rfl):DJ C D R Hf H L all done ps ls (.q i rest) K:=CQ ho hq g.a g.b g.c hin h
theorem BO {rest:List Oper} (h:JK C D R H ((d,v)::L) (.ops all rest::K)) (hq:Quiet C R H L o v:=by (apply q_neF; exact rfl; exact rfl; omega)) (g:GWz C L all o d:=by exact ⟨rfl,rfl,rfl⟩):JK C D R H L (.ops all (o::rest)::K):=CK hq g.a g.b g.c h
theorem FD {rest:Pl} (h:DJ C D R Hf H ((d,v)::L) all (i::done) ps ls rest K) (ho:all[i]?=some o:=by exact rfl) (hq:Quiet C R H L o v:=by (apply q_neF; exact rfl; exact rfl; omega)) (g:GWz C L all o d:=by exact ⟨rfl,rfl,rfl⟩) (hin:(ps.all (done.contains ·))=true:=by exact rfl):DJ C D R Hf H L all done ps ls (.q i rest) K:=CQ ho hq g.a g.b g.c hin h
theorem CS {rest:List Oper} (h:JK C D R H ((d,v)::L) (.ops all rest::K)) (hq:Quiet C R H L o v:=by (apply q_gt; exact rfl; exact rfl; omega)) (g:GWz C L all o d:=by exact ⟨rfl,rfl,rfl⟩):JK C D R H L (.ops all (o::rest)::K):=CK hq g.a g.b g.c h
theorem E2 {rest:Pl} (h:DJ C D R Hf H ((d,v)::L) all (i::done) ps ls rest K) (ho:all[i]?=some o:=by exact rfl) (hq:Quiet C R H L o v:=by (apply q_gt; exact rfl; exact rfl; omega)) (g:GWz C L all o d:=by exact ⟨rfl,rfl,rfl⟩) (hin:(ps.all (done.contains ·))=true:=by exact rfl):DJ C D R Hf H L all done ps ls (.q i rest) K:=CQ ho hq g.a g.b g.c hin h
theorem BW {rest:List Oper} (h:JK C D R H ((d,v)::L) (.ops all rest::K)) (hq:Quiet C R H L o v:=by (apply q_gtF; exact rfl; exact rfl; omega)) (g:GWz C L all o d:=by exact ⟨rfl,rfl,rfl⟩):JK C D R H L (.ops all (o::rest)::K):=CK hq g.a g.b g.c h
theorem C6 {rest:Pl} (h:DJ C D R Hf H ((d,v)::L) all (i::done) ps ls rest K) (ho:all[i]?=some o:=by exact rfl) (hq:Quiet C R H L o v:=by (apply q_gtF; exact rfl; exact rfl; omega)) (g:GWz C L all o d:=by exact ⟨rfl,rfl,rfl⟩) (hin:(ps.all (done.contains ·))=true:=by exact rfl):DJ C D R Hf H L all done ps ls (.q i rest) K:=CQ ho hq g.a g.b g.c hin h
theorem ES {rest:List Oper} (h:JK C D R H ((d,v)::L) (.ops all rest::K)) (hq:Quiet C R H L o v:=by (apply q_le; exact rfl; exact rfl; omega)) (g:GWz C L all o d:=by exact ⟨rfl,rfl,rfl⟩):JK C D R H L (.ops all (o::rest)::K):=CK hq g.a g.b g.c h
theorem GD {rest:Pl} (h:DJ C D R Hf H ((d,v)::L) all (i::done) ps ls rest K) (ho:all[i]?=some o:=by exact rfl) (hq:Quiet C R H L o v:=by (apply q_le; exact rfl; exact rfl; omega)) (g:GWz C L all o d:=by exact ⟨rfl,rfl,rfl⟩) (hin:(ps.all (done.contains ·))=true:=by exact rfl):DJ C D R Hf H L all done ps ls (.q i rest) K:=CQ ho hq g.a g.b g.c hin h
theorem DA {rest:List Oper} (h:JK C D R H ((d,v)::L) (.ops all rest::K)) (hq:Quiet C R H L o v:=by (apply q_leF; exact rfl; exact rfl; omega)) (g:GWz C L all o d:=by exact ⟨rfl,rfl,rfl⟩):JK C D R H L (.ops all (o::rest)::K):=CK hq g.a g.b g.c h
theorem zd_leF {rest:Pl} (h:DJ C D R Hf H ((d,v)::L) all (i::done) ps ls rest K) (ho:all[i]?=some o:=by exact rfl) (hq:Quiet C R H L o v:=by (apply q_leF; exact rfl; exact rfl; omega)) (g:GWz C L all o d:=by exact ⟨rfl,rfl,rfl⟩) (hin:(ps.all (done.contains ·))=true:=by exact rfl):DJ C D R Hf H L all done ps ls (.q i rest) K:=CQ ho hq g.a g.b g.c hin h
theorem DH {rest:List Oper} (h:JK C D R H ((d,v)::L) (.ops all rest::K)) (hq:Quiet C R H L o v:=by (apply q_ge; exact rfl; exact rfl; omega)) (g:GWz C L all o d:=by exact ⟨rfl,rfl,rfl⟩):JK C D R H L (.ops all (o::rest)::K):=CK hq g.a g.b g.c h
theorem GE {rest:Pl} (h:DJ C D R Hf H ((d,v)::L) all (i::done) ps ls rest K) (ho:all[i]?=some o:=by exact rfl) (hq:Quiet C R H L o v:=by (apply q_ge; exact rfl; exact rfl; omega)) (g:GWz C L all o d:=by exact ⟨rfl,rfl,rfl⟩) (hin:(ps.all (done.contains ·))=true:=by exact rfl):DJ C D R Hf H L all done ps ls (.q i rest) K:=CQ ho hq g.a g.b g.c hin h
theorem CM {rest:List Oper} (h:JK C D R H ((d,v)::L) (.ops all rest::K)) (hq:Quiet C R H L o v:=by (apply q_geF; exact rfl; exact rfl; omega)) (g:GWz C L all o d:=by exact ⟨rfl,rfl,rfl⟩):JK C D R H L (.ops all (o::rest)::K):=CK hq g.a g.b g.c h
theorem FX {rest:Pl} (h:DJ C D R Hf H ((d,v)::L) all (i::done) ps ls rest K) (ho:all[i]?=some o:=by exact rfl) (hq:Quiet C R H L o v:=by (apply q_geF; exact rfl; exact rfl; omega)) (g:GWz C L all o d:=by exact ⟨rfl,rfl,rfl⟩) (hin:(ps.all (done.contains ·))=true:=by exact rfl):DJ C D R Hf H L all done ps ls (.q i rest) K:=CQ ho hq g.a g.b g.c hin h
theorem B7 {rest:List Oper} (h:JK C D R H ((d,v)::L) (.ops all rest::K)) (hq:Quiet C R H L o v:=by (apply DU; exact rfl; exact rfl; omega; omega)) (g:GWz C L all o d:=by exact ⟨rfl,rfl,rfl⟩):JK C D R H L (.ops all (o::rest)::K):=CK hq g.a g.b g.c h
theorem BX {rest:Pl} (h:DJ C D R Hf H ((d,v)::L) all (i::done) ps ls rest K) (ho:all[i]?=some o:=by exact rfl) (hq:Quiet C R H L o v:=by (apply DU; exact rfl; exact rfl; omega; omega)) (g:GWz C L all o d:=by exact ⟨rfl,rfl,rfl⟩) (hin:(ps.all (done.contains ·))=true:=by exact rfl):DJ C D R Hf H L all done ps ls (.q i rest) K:=CQ ho hq g.a g.b g.c hin h
theorem C8 {rest:Pl} (h:DJ C D R Hf H ((d,v)::L) all (i::done) (i::ps) ls rest K) (ho:all[i]?=some o:=by exact rfl) (hq:Quiet C R Hf L o v:=by (apply DU; exact rfl; exact rfl; omega; omega)) (g:GWz C L all o d:=by exact ⟨rfl,rfl,rfl⟩):DJ C D R Hf H L all done ps ls (.p i rest) K:=EM ho hq g.a g.b g.c h
theorem BY {rest:List Oper} (h:JK C D R H ((d,v)::L) (.ops all rest::K)) (hq:Quiet C R H L o v:=by (apply FG; exact rfl; exact rfl; exact ⟨by omega,by omega⟩)) (g:GWz C L all o d:=by exact ⟨rfl,rfl,rfl⟩):JK C D R H L (.ops all (o::rest)::K):=CK hq g.a g.b g.c h
theorem C1 {rest:Pl} (h:DJ C D R Hf H ((d,v)::L) all (i::done) ps ls rest K) (ho:all[i]?=some o:=by exact rfl) (hq:Quiet C R H L o v:=by (apply FG; exact rfl; exact rfl; exact ⟨by omega,by omega⟩)) (g:GWz C L all o d:=by exact ⟨rfl,rfl,rfl⟩) (hin:(ps.all (done.contains ·))=true:=by exact rfl):DJ C D R Hf H L all done ps ls (.q i rest) K:=CQ ho hq g.a g.b g.c hin h
theorem FY {rest:Pl} (h:DJ C D R Hf H ((d,v)::L) all (i::done) (i::ps) ls rest K) (ho:all[i]?=some o:=by exact rfl) (hq:Quiet C R Hf L o v:=by (apply FG; exact rfl; exact rfl; exact ⟨by omega,by omega⟩)) (g:GWz C L all o d:=by exact ⟨rfl,rfl,rfl⟩):DJ C D R Hf H L all done ps ls (.p i rest) K:=EM ho hq g.a g.b g.c h
theorem BZ {rest:List Oper} (h:JK C D R H ((d,v)::L) (.ops all rest::K)) (hq:Quiet C R H L o v:=by (apply F0; exact rfl; exact rfl; exact ⟨by omega,by omega⟩)) (g:GWz C L all o d:=by exact ⟨rfl,rfl,rfl⟩):JK C D R H L (.ops all (o::rest)::K):=CK hq g.a g.b g.c h
theorem D5 {rest:Pl} (h:DJ C D R Hf H ((d,v)::L) all (i::done) ps ls rest K) (ho:all[i]?=some o:=by exact rfl) (hq:Quiet C R H L o v:=by (apply F0; exact rfl; exact rfl; exact ⟨by omega,by omega⟩)) (g:GWz C L all o d:=by exact ⟨rfl,rfl,rfl⟩) (hin:(ps.all (done.contains ·))=true:=by exact rfl):DJ C D R Hf H L all done ps ls (.q i rest) K:=CQ ho hq g.a g.b g.c hin h
theorem EW {rest:List Oper} (h:JK C D R H ((d,v)::L) (.ops all rest::K)) (hq:Quiet C R H L o v:=by (apply q_dbl; exact rfl; exact rfl; omega)) (g:GWz C L all o d:=by exact ⟨rfl,rfl,rfl⟩):JK C D R H L (.ops all (o::rest)::K):=CK hq g.a g.b g.c h
theorem EH {rest:List Oper} (h:JK C D R H ((d,v)::L) (.ops all rest::K)) (hq:Quiet C R H L o v:=by (apply F3; exact rfl; exact rfl; exact ⟨by omega,by omega⟩)) (g:GWz C L all o d:=by exact ⟨rfl,rfl,rfl⟩):JK C D R H L (.ops all (o::rest)::K):=CK hq g.a g.b g.c h
theorem EX {rest:Pl} (h:DJ C D R Hf H ((d,v)::L) all (i::done) ps ls rest K) (ho:all[i]?=some o:=by exact rfl) (hq:Quiet C R H L o v:=by (apply F3; exact rfl; exact rfl; exact ⟨by omega,by omega⟩)) (g:GWz C L all o d:=by exact ⟨rfl,rfl,rfl⟩) (hin:(ps.all (done.contains ·))=true:=by exact rfl):DJ C D R Hf H L all done ps ls (.q i rest) K:=CQ ho hq g.a g.b g.c hin h
theorem zq_quo {rest:List Oper} (h:JK C D R H ((d,v)::L) (.ops all rest::K)) (hq:Quiet C R H L o v:=by (apply q_quo; exact rfl; exact rfl; omega; omega; omega)) (g:GWz C L all o d:=by exact ⟨rfl,rfl,rfl⟩):JK C D R H L (.ops all (o::rest)::K):=CK hq g.a g.b g.c h
theorem AK {rest:List Oper} (h:JK C D R H ((d,v)::L) (.ops all rest::K)) (hq:Quiet C R H L o v:=by (apply D6; exact rfl; exact rfl; (first|(exact cells_own (by (repeat (first|exact .here|apply Mem.there)); first|done|fail); exact rfl)|(exact cellsR (by assumption) (by (repeat (first|exact .here|apply Mem.there)); first|done|fail); exact rfl)|(exact cellsH (by assumption) (by (repeat (first|exact .here|apply Mem.there)); first|done|fail); exact rfl)|(exact cellsP (by assumption) (by (repeat (first|exact .here|apply Mem.there)); first|done|fail); exact rfl)))) (g:GWz C L all o d:=by exact ⟨rfl,rfl,rfl⟩):JK C D R H L (.ops all (o::rest)::K):=CK hq g.a g.b g.c h
theorem A8 {rest:Pl} (h:DJ C D R Hf H ((d,v)::L) all (i::done) ps ls rest K) (ho:all[i]?=some o:=by exact rfl) (hq:Quiet C R H L o v:=by (apply D6; exact rfl; exact rfl; (first|(exact cells_own (by (repeat (first|exact .here|apply Mem.there)); first|done|fail); exact rfl)|(exact cellsR (by assumption) (by (repeat (first|exact .here|apply Mem.there)); first|done|fail); exact rfl)|(exact cellsH (by assumption) (by (repeat (first|exact .here|apply Mem.there)); first|done|fail); exact rfl)|(exact cellsP (by assumption) (by (repeat (first|exact .here|apply Mem.there)); first|done|fail); exact rfl)))) (g:GWz C L all o d:=by exact ⟨rfl,rfl,rfl⟩) (hin:(ps.all (done.contains ·))=true:=by exact rfl):DJ C D R Hf H L all done ps ls (.q i rest) K:=CQ ho hq g.a g.b g.c hin h
theorem FL {rest:Pl} (h:DJ C D R Hf H ((d,v)::L) all (i::done) (i::ps) ls rest K) (ho:all[i]?=some o:=by exact rfl) (hq:Quiet C R Hf L o v:=by (apply D6; exact rfl; exact rfl; (first|(exact cells_own (by (repeat (first|exact .here|apply Mem.there)); first|done|fail); exact rfl)|(exact cellsR (by assumption) (by (repeat (first|exact .here|apply Mem.there)); first|done|fail); exact rfl)|(exact cellsH (by assumption) (by (repeat (first|exact .here|apply Mem.there)); first|done|fail); exact rfl)|(exact cellsP (by assumption) (by (repeat (first|exact .here|apply Mem.there)); first|done|fail); exact rfl)))) (g:GWz C L all o d:=by exact ⟨rfl,rfl,rfl⟩):DJ C D R Hf H L all done ps ls (.p i rest) K:=EM ho hq g.a g.b g.c h
theorem FZ {rest:List Oper} (h:JK C D R H ((d,v)::L) (.ops all rest::K)) (hq:Quiet C R H L o v:=by (apply q_min; exact rfl; exact rfl)) (g:GWz C L all o d:=by exact ⟨rfl,rfl,rfl⟩):JK C D R H L (.ops all (o::rest)::K):=CK hq g.a g.b g.c h
theorem DB {rest:List Oper} (h:JK C D R H ((d,v)::L) (.ops all rest::K)) (hq:Quiet C R H L o v:=by (apply q_max; exact rfl; exact rfl)) (g:GWz C L all o d:=by exact ⟨rfl,rfl,rfl⟩):JK C D R H L (.ops all (o::rest)::K):=CK hq g.a g.b g.c h
theorem B3 {rest:List Oper} (h:JK C D R H ((d,v)::L) (.ops all rest::K)) (hq:Quiet C R H L o v:=by (apply D3; exact rfl; exact rfl)) (g:GWz C L all o d:=by exact ⟨rfl,rfl,rfl⟩):JK C D R H L (.ops all (o::rest)::K):=CK hq g.a g.b g.c h
theorem DZ {rest:Pl} (h:DJ C D R Hf H ((d,v)::L) all (i::done) ps ls rest K) (ho:all[i]?=some o:=by exact rfl) (hq:Quiet C R H L o v:=by (apply D3; exact rfl; exact rfl)) (g:GWz C L all o d:=by exact ⟨rfl,rfl,rfl⟩) (hin:(ps.all (done.contains ·))=true:=by exact rfl):DJ C D R Hf H L all done ps ls (.q i rest) K:=CQ ho hq g.a g.b g.c hin h
theorem CY {rest:List Oper} (h:JK C D R H ((d,v)::L) (.ops all rest::K)) (hq:Quiet C R H L o v:=by (apply F9; exact rfl; exact rfl; exact rfl; exact ⟨by omega,by omega⟩)) (g:GWz C L all o d:=by exact ⟨rfl,rfl,rfl⟩):JK C D R H L (.ops all (o::rest)::K):=CK hq g.a g.b g.c h
theorem EY {rest:List Oper} (h:JK C D R H ((d,v)::L) (.ops all rest::K)) (hq:Quiet C R H L o v:=by (apply F7; exact rfl; exact rfl; exact rfl; exact rfl; omega)) (g:GWz C L all o d:=by exact ⟨rfl,rfl,rfl⟩):JK C D R H L (.ops all (o::rest)::K):=CK hq g.a g.b g.c h
theorem FM {rest:List Oper} (h:JK C D R H ((d,v)::L) (.ops all rest::K)) (hq:Quiet C R H L o v:=by (apply F8; exact rfl; exact rfl; exact rfl; exact rfl; omega)) (g:GWz C L all o d:=by exact ⟨rfl,rfl,rfl⟩):JK C D R H L (.ops all (o::rest)::K):=CK hq g.a g.b g.c h
theorem B0 {rest:List Oper} (h:JK C D R H ((d,v)::L) (.ops all rest::K)) (hq:Quiet C R H L o v:=by (apply E7; exact rfl; exact rfl; exact (by (repeat (first|exact Bld.nil|apply Bld.put rfl rfl rfl|apply Bld.keep rfl)); first|done|fail))) (g:GWz C L all o d:=by exact ⟨rfl,rfl,rfl⟩):JK C D R H L (.ops all (o::rest)::K):=CK hq g.a g.b g.c h
theorem EZ {rest:Pl} (h:DJ C D R Hf H ((d,v)::L) all (i::done) ps ls rest K) (ho:all[i]?=some o:=by exact rfl) (hq:Quiet C R H L o v:=by (apply E7; exact rfl; exact rfl; exact (by (repeat (first|exact Bld.nil|apply Bld.put rfl rfl rfl|apply Bld.keep rfl)); first|done|fail))) (g:GWz C L all o d:=by exact ⟨rfl,rfl,rfl⟩) (hin:(ps.all (done.contains ·))=true:=by exact rfl):DJ C D R Hf H L all done ps ls (.q i rest) K:=CQ ho hq g.a g.b g.c hin h
theorem zq_neg {rest:List Oper} (h:JK C D R H ((d,v)::L) (.ops all rest::K)) (hq:Quiet C R H L o v:=by (apply q_neg; exact rfl; exact ⟨by omega,by omega⟩)) (g:GWz C L all o d:=by exact ⟨rfl,rfl,rfl⟩):JK C D R H L (.ops all (o::rest)::K):=CK hq g.a g.b g.c h
theorem A4 {rest:List Oper} {post:Value→List PH→Prop} (h:∀ u H',post u H'→JK C D R H' ((d,u)::L) (.ops all rest::K)) (hl:Loud C R H L o post:=by (apply CH; exact rfl)) (g:GWz C L all o d:=by exact ⟨rfl,rfl,rfl⟩):JK C D R H L (.ops all (o::rest)::K):=BH hl g.a g.b g.c h
theorem EI {rest:Pl} {post:Value→List PH→Prop} (h:∀ v H',post v H'→DJ C D R Hf H' ((d,v)::L) all (i::done) ps (i::ls) rest K) (ho:all[i]?=some o:=by exact rfl) (hl:Loud C R H L o post:=by (apply CH; exact rfl)) (g:GWz C L all o d:=by exact ⟨rfl,rfl,rfl⟩) (hsub:∀ v H',post v H'→∀ w,Sat C.N R H' w→Sat C.N R H w:=by (rintro _ _ ⟨b,rfl,rfl⟩ w hw; exact hw.tail)):ActOK C D R Hf H L all done ps ls i .e rest K:=a_e ho hl g.a g.b g.c hsub h
theorem EJ {rest:Pl} {post:Value→List PH→Prop} (h:∀ v H',post v H'→DJ C D R Hf H' ((d,v)::L) all (i::done) ps (i::ls) rest K) (ho:all[i]?=some o:=by exact rfl) (hl:Loud C R H L o post:=by (apply CH; exact rfl)) (g:GWz C L all o d:=by exact ⟨rfl,rfl,rfl⟩) (hsub:∀ v H',post v H'→∀ w,Sat C.N R H' w→Sat C.N R H w:=by (rintro _ _ ⟨b,rfl,rfl⟩ w hw; exact hw.tail)):DJ C D R Hf H L all done ps ls (.l i .e rest) K:=B4 (a_e ho hl g.a g.b g.c hsub h)
theorem CB {rest:List Oper} {post:Value→List PH→Prop} (h:∀ u H',post u H'→JK C D R H' ((d,u)::L) (.ops all rest::K)) (hl:Loud C R H L o post:=by (apply DD; exact rfl; exact rfl)) (g:GWz C L all o d:=by exact ⟨rfl,rfl,rfl⟩):JK C D R H L (.ops all (o::rest)::K):=BH hl g.a g.b g.c h
theorem FE {rest:Pl} {post:Value→List PH→Prop} (h:∀ v H',post v H'→DJ C D R Hf H' ((d,v)::L) all (i::done) ps (i::ls) rest K) (ho:all[i]?=some o:=by exact rfl) (hl:Loud C R H L o post:=by (apply DD; exact rfl; exact rfl)) (g:GWz C L all o d:=by exact ⟨rfl,rfl,rfl⟩) (hsub:∀ v H',post v H'→∀ w,Sat C.N R H' w→Sat C.N R H w:=by (rintro _ _ ⟨b,rfl,rfl⟩ w hw; exact hw.tail)):ActOK C D R Hf H L all done ps ls i .e rest K:=a_e ho hl g.a g.b g.c hsub h
theorem FF {rest:Pl} {post:Value→List PH→Prop} (h:∀ v H',post v H'→DJ C D R Hf H' ((d,v)::L) all (i::done) ps (i::ls) rest K) (ho:all[i]?=some o:=by exact rfl) (hl:Loud C R H L o post:=by (apply DD; exact rfl; exact rfl)) (g:GWz C L all o d:=by exact ⟨rfl,rfl,rfl⟩) (hsub:∀ v H',post v H'→∀ w,Sat C.N R H' w→Sat C.N R H w:=by (rintro _ _ ⟨b,rfl,rfl⟩ w hw; exact hw.tail)):DJ C D R Hf H L all done ps ls (.l i .e rest) K:=B4 (a_e ho hl g.a g.b g.c hsub h)
theorem BQ {rest:List Oper} {post:Value→List PH→Prop} (h:∀ u H',post u H'→JK C D R H' ((d,u)::L) (.ops all rest::K)) (hl:Loud C R H L o post:=by (apply CE; exact rfl; exact rfl; exact rfl; exact rfl; exact rfl; exact (by (repeat (first|exact (fun v hv=>absurd hv List.not_mem_nil)|(refine List.forall_mem_cons.2 ⟨?_,?_⟩; (focus (first|exact rfl|assumption))))); first|done|fail); exact (by (repeat (first|exact Flat.nil|apply Flat.one rfl|apply Flat.agg2|apply Flat.agg3|apply Flat.agg1|apply Flat.agg4|apply Flat.agg5)); first|done|fail); exact rfl)) (g:GWz C L all o d:=by exact ⟨rfl,rfl,rfl⟩):JK C D R H L (.ops all (o::rest)::K):=BH hl g.a g.b g.c h
theorem ED {rest:Pl} {post:Value→List PH→Prop} (h:∀ v H',post v H'→DJ C D R Hf H' ((d,v)::L) all (i::done) ps (i::ls) rest K) (ho:all[i]?=some o:=by exact rfl) (hl:Loud C R H L o post:=by (apply CE; exact rfl; exact rfl; exact rfl; exact rfl; exact rfl; exact (by (repeat (first|exact (fun v hv=>absurd hv List.not_mem_nil)|(refine List.forall_mem_cons.2 ⟨?_,?_⟩; (focus (first|exact rfl|assumption))))); first|done|fail); exact (by (repeat (first|exact Flat.nil|apply Flat.one rfl|apply Flat.agg2|apply Flat.agg3|apply Flat.agg1|apply Flat.agg4|apply Flat.agg5)); first|done|fail); exact rfl)) (g:GWz C L all o d:=by exact ⟨rfl,rfl,rfl⟩) (hsub:∀ v H',post v H'→∀ w,Sat C.N R H' w→Sat C.N R H w:=by (rintro _ _ ⟨b,rfl,rfl⟩ w hw; exact hw.tail)):ActOK C D R Hf H L all done ps ls i .e rest K:=a_e ho hl g.a g.b g.c hsub h
theorem B5 {rest:Pl} {post:Value→List PH→Prop} (h:∀ v H',post v H'→DJ C D R Hf H' ((d,v)::L) all (i::done) ps (i::ls) rest K) (ho:all[i]?=some o:=by exact rfl) (hl:Loud C R H L o post:=by (apply CE; exact rfl; exact rfl; exact rfl; exact rfl; exact rfl; exact (by (repeat (first|exact (fun v hv=>absurd hv List.not_mem_nil)|(refine List.forall_mem_cons.2 ⟨?_,?_⟩; (focus (first|exact rfl|assumption))))); first|done|fail); exact (by (repeat (first|exact Flat.nil|apply Flat.one rfl|apply Flat.agg2|apply Flat.agg3|apply Flat.agg1|apply Flat.agg4|apply Flat.agg5)); first|done|fail); exact rfl)) (g:GWz C L all o d:=by exact ⟨rfl,rfl,rfl⟩) (hsub:∀ v H',post v H'→∀ w,Sat C.N R H' w→Sat C.N R H w:=by (rintro _ _ ⟨b,rfl,rfl⟩ w hw; exact hw.tail)):DJ C D R Hf H L all done ps ls (.l i .e rest) K:=B4 (a_e ho hl g.a g.b g.c hsub h)
theorem BU {rest:List Oper} {post:Value→List PH→Prop} (h:∀ u H',post u H'→JK C D R H' ((d,u)::L) (.ops all rest::K)) (hl:Loud C R H L o post:=by (apply BI; exact rfl)) (g:GWz C L all o d:=by exact ⟨rfl,rfl,rfl⟩):JK C D R H L (.ops all (o::rest)::K):=BH hl g.a g.b g.c h
theorem AW {all:Array Oper} {o:Oper} {rest:List Oper} {post:Value→List PH→Prop} (h:∀ u H',post u H'→JK C D R H' L (.ops all rest::K)) (hl:Loud C R H L o post:=by (apply C7; exact rfl; exact rfl; exact (by (repeat (first|exact .here|apply Take.there)); first|done|fail); exact (by (repeat (first|exact (fun v hv=>absurd hv List.not_mem_nil)|(refine List.forall_mem_cons.2 ⟨?_,?_⟩; (focus (first|exact rfl|assumption))))); first|done|fail); exact rfl; exact rfl)) (hg:wantE all L o=some true:=by exact rfl) (hd:o.dst=none:=by exact rfl):JK C D R H L (.ops all (o::rest)::K):=CU hl hg hd h
theorem BM {all:Array Oper} {o:Oper} {rest:List Oper} {post:Value→List PH→Prop} (h:∀ u H',post u H'→JK C D R H' L (.ops all rest::K)) (hl:Loud C R H L o post:=by (apply D7; exact rfl; exact rfl; (first|exact rfl|assumption); exact rfl; exact (by (repeat (first|exact .here|apply Take.there)); first|done|fail); (focus (repeat (first|exact SetL.here|apply SetL.there)); done))) (hg:wantE all L o=some true:=by exact rfl) (hd:o.dst=none:=by exact rfl):JK C D R H L (.ops all (o::rest)::K):=CU hl hg hd h
theorem CN {all:Array Oper} {done:List Nat} {i:Nat} {rest:Pl} {o:Oper} {post:Value→List PH→Prop} (h:∀ v H',post v H'→DJ C D R Hf H' L all (i::done) ps (i::ls) rest K) (ho:all[i]?=some o:=by exact rfl) (hl:Loud C R H L o post:=by (apply D7; exact rfl; exact rfl; (first|exact rfl|assumption); exact rfl; exact (by (repeat (first|exact .here|apply Take.there)); first|done|fail); (focus (repeat (first|exact SetL.here|apply SetL.there)); done))) (hg:wantE all L o=some true:=by exact rfl) (hd:o.dst=none:=by exact rfl) (hsub:∀ v H',post v H'→∀ w,Sat C.N R H' w→Sat C.N R Hf w:=by (rintro _ _ ⟨_,rfl⟩ w hw; exact hw.sel (by (repeat (first|exact Sel.nil|(apply Sel.cons; (focus ((repeat (first|exact .here|apply Mem.there|apply Take.there)); first|done|fail))))); first|done|fail))):DJ C D R Hf H L all done ps ls (.l i .b rest) K:=B4 (DQ ho hl hg hd hsub h)
theorem A3 {P:Program} {fn:Func} {N:Bs} {M t:Nat} {R R0 H H':List PH} {L:Env} {K:List It} {post:Value→List PH→Prop} {v:Value} (hp:post v H') (hr:fn.results = #[.tmp t]:=by exact rfl) (hv:look L t=some v:=by exact rfl) (hR:∀ ρ∈R0,ρ∈R:=by exact rsubZ) (hH:Sel H H':=by exact selZ):JK ⟨none,P,FnQ P fn N R0 post,N,M⟩ [] R H L (.code .ret::K):=AT (res1 hr hv) hR hH hp
theorem lzZ {α:Type} {x:Option α} {a b:α} (h:x=some a) (e:a=b:=by kernel_rfl):x=some b:=h.trans (congrArg some e)
abbrev P0Z:Pl:=.q 0 (.q 1 (.q 2 (.q 3 (.q 4 (.q 5 (.q 6 (.q 7 (.q 8 (.q 9 (.q 10 (.q 11 .nil)))))))))))
abbrev P1Z:Pl:=.q 0 (.q 1 (.q 2 (.q 3 (.q 4 (.q 5 (.q 6 (.q 7 (.q 8 (.q 9 (.q 10 (.q 11 (.q 12 (.q 13 (.q 14 (.q 15 (.q 16 (.q 17 (.q 18 (.q 19 .nil)))))))))))))))))))
abbrev P2Z:Pl:=.q 0 (.q 1 (.q 2 (.q 3 (.q 4 (.q 5 (.q 6 (.q 7 (.q 8 (.q 9 (.q 10 (.q 11 (.q 12 (.q 13 (.q 14 (.q 15 (.q 16 (.q 17 .nil)))))))))))))))))
abbrev P3Z:Pl:=.q 0 (.q 1 (.q 2 (.q 3 (.q 4 (.q 5 (.q 6 (.q 7 (.q 8 (.q 9 (.q 10 (.q 11 (.q 12 (.q 13 (.q 14 (.q 15 (.q 16 .nil))))))))))))))))
theorem rdB (b:Nat) (t:TypeId) (vs:List Value):RdN (sng b (.cells vs.toArray t (0,0))) b 0 vs:=fun j v hv=>by
 rw [rdc_sng,Nat.zero_add]
 simpa using hv
theorem rdQ {ρ:PH} {b:Nat} {xs ys:List Value} (h:RdN ρ b 0 (xs ++ ys)):RdP ρ b 0 xs:=⟨fun j v hv=>h j v (by
 rw [List.getElem?_append_left (List.getElem?_eq_some_iff.1 hv).1]
 exact hv)⟩
theorem rdC {ρ:PH} {b:Nat} {vs:List Value} {v:Value} (h:RdN ρ b 0 vs) (i:Nat) (e:vs[i]?=some v:=by rfl):rdc ρ b i=some v:=by
 have:=h i v e
 rwa [Nat.zero_add] at this
structure Wg (G:Prop):Prop where
  p:G
theorem Aa {J G:Prop} (g:G) (h:Wg G→J:=by intro g;refine AC ?_;refine AA ?_;exact g.1):J:=h ⟨g⟩
theorem Aaa {J G:Prop} (g:G) (h:Wg G→J:=by intro g;refine AD ?_;refine AE ?_;exact g.1):J:=h ⟨g⟩
theorem Aab {J G:Prop} (g:G) (h:Wg G→J:=by intro g;refine Aa ?_;refine AB ?_;exact g.1):J:=h ⟨g⟩
theorem Aac {J G:Prop} (g:G) (h:Wg G→J:=by intro g;refine AU rfl rfl rfl rfl rfl ?_;refine AU rfl rfl rfl rfl rfl ?_;exact g.1):J:=h ⟨g⟩
theorem Aad {J G:Prop} (g:G) (h:Wg G→J:=by intro g;refine AE ?_;refine AI rfl ?_;exact g.1):J:=h ⟨g⟩
theorem Aae {J G:Prop} (g:G) (h:Wg G→J:=by intro g;refine AG ?_;refine AF ?_;exact g.1):J:=h ⟨g⟩
theorem Aaf {J G:Prop} (g:G) (h:Wg G→J:=by intro g;refine AR rfl rfl rfl ?_;refine AR rfl rfl rfl ?_;exact g.1):J:=h ⟨g⟩
theorem Aag {J G:Prop} (g:G) (h:Wg G→J:=by intro g;refine Aab ?_;refine AB ?_;exact g.1):J:=h ⟨g⟩
theorem Aah {J G:Prop} (g:G) (h:Wg G→J:=by intro g;refine AE ?_;refine AN rfl ?_;exact g.1):J:=h ⟨g⟩
theorem Aai {J G:Prop} (g:G) (h:Wg G→J:=by intro g;refine Aad ?_;refine AJ ?_;exact g.1):J:=h ⟨g⟩
theorem Aaj {J G:Prop} (g:G) (h:Wg G→J:=by intro g;refine Aaa ?_;refine AC ?_;exact g.1):J:=h ⟨g⟩
theorem Aak {J G:Prop} (g:G) (h:Wg G→J:=by intro g;refine AS ?_;refine AP ?_;exact g.1):J:=h ⟨g⟩
theorem Aal {J G:Prop} (g:G) (h:Wg G→J:=by intro g;refine AB ?_;refine AB ?_;exact g.1):J:=h ⟨g⟩
theorem Aam {J G:Prop} (g:G) (h:Wg G→J:=by intro g;refine AE ?_;refine AC ?_;exact g.1):J:=h ⟨g⟩
theorem Aan {J G:Prop} (g:G) (h:Wg G→J:=by intro g;refine Aa ?_;refine Aae ?_;exact g.1):J:=h ⟨g⟩
theorem Aao {J G:Prop} (g:G) (h:Wg G→J:=by intro g;refine AB ?_;refine AE ?_;exact g.1):J:=h ⟨g⟩
theorem Aap {J G:Prop} (g:G) (h:Wg G→J:=by intro g;refine AC ?_;refine Aag ?_;exact g.1):J:=h ⟨g⟩
theorem Aaq {J G:Prop} (g:G) (h:Wg G→J:=by intro g;refine Aa ?_;refine Aaa ?_;exact g.1):J:=h ⟨g⟩
theorem Aar {J G:Prop} (g:G) (h:Wg G→J:=by intro g;refine AM ?_;refine AM ?_;exact g.1):J:=h ⟨g⟩
theorem Aas {J G:Prop} (g:G) (h:Wg G→J:=by intro g;refine Aa ?_;refine AK ?_;exact g.1):J:=h ⟨g⟩
theorem Aat {J G:Prop} (g:G) (h:Wg G→J:=by intro g;refine AJ ?_;refine AC ?_;exact g.1):J:=h ⟨g⟩
theorem Aau {J G:Prop} (g:G) (h:Wg G→J:=by intro g;refine Aat ?_;refine AL ?_;exact g.1):J:=h ⟨g⟩
theorem Aav {J G:Prop} (g:G) (h:Wg G→J:=by intro g;refine AN rfl ?_;refine Aau ?_;exact g.1):J:=h ⟨g⟩
theorem Aaw {J G:Prop} (g:G) (h:Wg G→J:=by intro g;refine A6 ?_;refine AA ?_;exact g.1):J:=h ⟨g⟩
theorem Aax {J G:Prop} (g:G) (h:Wg G→J:=by intro g;refine AI rfl ?_;refine A5 rfl ?_;exact g.1):J:=h ⟨g⟩
theorem Aay {J G:Prop} (g:G) (h:Wg G→J:=by intro g;refine AB ?_;refine Aae ?_;exact g.1):J:=h ⟨g⟩
theorem Aaz {J G:Prop} (g:G) (h:Wg G→J:=by intro g;refine BJ ?_;refine Aao ?_;exact g.1):J:=h ⟨g⟩
theorem Aa0 {J G:Prop} (g:G) (h:Wg G→J:=by intro g;refine AB ?_;refine Aaf ?_;exact g.1):J:=h ⟨g⟩
theorem Aa1 {J G:Prop} (g:G) (h:Wg G→J:=by intro g;refine Aad ?_;refine A5 rfl ?_;exact g.1):J:=h ⟨g⟩
theorem Aa3 {J G:Prop} (g:G) (h:Wg G→J:=by intro g;refine Aaw ?_;refine Aaz ?_;exact g.1):J:=h ⟨g⟩
theorem Aa4 {J G:Prop} (g:G) (h:Wg G→J:=by intro g;refine Aaj ?_;refine Aab ?_;exact g.1):J:=h ⟨g⟩
theorem Aa5 {J G:Prop} (g:G) (h:Wg G→J:=by intro g;refine BK ?_;refine Aam ?_;refine Aav ?_;exact g.1):J:=h ⟨g⟩
theorem Aa6 {J G:Prop} (g:G) (h:Wg G→J:=by intro g;refine Aai ?_;refine AC ?_;exact g.1):J:=h ⟨g⟩
theorem Aa7 {J G:Prop} (g:G) (h:Wg G→J:=by intro g;refine Aa ?_;refine Aa5 ?_;exact g.1):J:=h ⟨g⟩
theorem Aa8 {J G:Prop} (g:G) (h:Wg G→J:=by intro g;refine Aa ?_;refine AF ?_;exact g.1):J:=h ⟨g⟩
theorem Aa9 {J G:Prop} (g:G) (h:Wg G→J:=by intro g;refine Aab ?_;refine Aaa ?_;exact g.1):J:=h ⟨g⟩
theorem Ab {J G:Prop} (g:G) (h:Wg G→J:=by intro g;refine AD ?_;refine Aaa ?_;exact g.1):J:=h ⟨g⟩
theorem Aba {J G:Prop} (g:G) (h:Wg G→J:=by intro g;refine AA ?_;refine Aal ?_;exact g.1):J:=h ⟨g⟩
theorem Abb {J G:Prop} (g:G) (h:Wg G→J:=by intro g;refine BL ?_;refine AK ?_;exact g.1):J:=h ⟨g⟩
theorem Abc {J G:Prop} (g:G) (h:Wg G→J:=by intro g;refine BB ?_;refine A8 ?_;exact g.1):J:=h ⟨g⟩
theorem Abd {J G:Prop} (g:G) (h:Wg G→J:=by intro g;refine Aa0 ?_;refine AR rfl rfl rfl ?_;exact g.1):J:=h ⟨g⟩
theorem Abf {J G:Prop} (g:G) (h:Wg G→J:=by intro g;refine Aak ?_;refine Aak ?_;exact g.1):J:=h ⟨g⟩
theorem Abg {J G:Prop} (g:G) (h:Wg G→J:=by intro g;refine Aac ?_;refine Aac ?_;exact g.1):J:=h ⟨g⟩
theorem Abh {J G:Prop} (g:G) (h:Wg G→J:=by intro g;refine A7 ?_;refine Aam ?_;refine Aax ?_;exact g.1):J:=h ⟨g⟩
theorem Abi {J G:Prop} (g:G) (h:Wg G→J:=by intro g;refine Aal ?_;refine AB ?_;exact g.1):J:=h ⟨g⟩
theorem Abk {J G:Prop} (g:G) (h:Wg G→J:=by intro g;refine BC ?_;refine Aao ?_;refine AL ?_;exact g.1):J:=h ⟨g⟩
theorem Abl {J G:Prop} (g:G) (h:Wg G→J:=by intro g;refine Aa ?_;refine Abh ?_;exact g.1):J:=h ⟨g⟩
theorem Abm {J G:Prop} (g:G) (h:Wg G→J:=by intro g;refine AX ?_;refine AX ?_;exact g.1):J:=h ⟨g⟩
theorem Abn {J G:Prop} (g:G) (h:Wg G→J:=by intro g;refine BE ?_;refine AI rfl ?_;exact g.1):J:=h ⟨g⟩
theorem Abo {J G:Prop} (g:G) (h:Wg G→J:=by intro g;refine Aaa ?_;refine Aab ?_;exact g.1):J:=h ⟨g⟩
theorem Abp {J G:Prop} (g:G) (h:Wg G→J:=by intro g;refine BK ?_;refine Aah ?_;exact g.1):J:=h ⟨g⟩
theorem Abq {J G:Prop} (g:G) (h:Wg G→J:=by intro g;refine Aa7 ?_;refine Aa ?_;exact g.1):J:=h ⟨g⟩
theorem Abr {J G:Prop} (g:G) (h:Wg G→J:=by intro g;refine CF ?_;refine AP ?_;exact g.1):J:=h ⟨g⟩
theorem Abs {J G:Prop} (g:G) (h:Wg G→J:=by intro g;refine BG ?_;refine AS ?_;exact g.1):J:=h ⟨g⟩
theorem Abt {J G:Prop} (g:G) (h:Wg G→J:=by intro g;refine Aah ?_;refine Aaq ?_;exact g.1):J:=h ⟨g⟩
theorem Abu {J G:Prop} (g:G) (h:Wg G→J:=by intro g;refine Aay ?_;refine Aae ?_;exact g.1):J:=h ⟨g⟩
theorem Abv {J G:Prop} (g:G) (h:Wg G→J:=by intro g;refine AB ?_;refine Abm ?_;exact g.1):J:=h ⟨g⟩
theorem Abw {J G:Prop} (g:G) (h:Wg G→J:=by intro g;refine BJ ?_;refine Aaa ?_;exact g.1):J:=h ⟨g⟩
theorem Abx {J G:Prop} (g:G) (h:Wg G→J:=by intro g;refine Aaa ?_;refine Aan ?_;exact g.1):J:=h ⟨g⟩
theorem Aby {J G:Prop} (g:G) (h:Wg G→J:=by intro g;refine AA ?_;refine AB ?_;exact g.1):J:=h ⟨g⟩
theorem Abz {J G:Prop} (g:G) (h:Wg G→J:=by intro g;refine BE ?_;refine AN rfl ?_;exact g.1):J:=h ⟨g⟩
theorem Ab0 {J G:Prop} (g:G) (h:Wg G→J:=by intro g;refine Aak ?_;refine AP ?_;exact g.1):J:=h ⟨g⟩
theorem Ab1 {J G:Prop} (g:G) (h:Wg G→J:=by intro g;refine A7 ?_;refine Aa1 ?_;exact g.1):J:=h ⟨g⟩
theorem Ab2 {J G:Prop} (g:G) (h:Wg G→J:=by intro g;refine Abq ?_;refine Abb ?_;exact g.1):J:=h ⟨g⟩
theorem Ab3 {J G:Prop} (g:G) (h:Wg G→J:=by intro g;refine AV ?_;refine Aai ?_;exact g.1):J:=h ⟨g⟩
theorem Ab4 {J G:Prop} (g:G) (h:Wg G→J:=by intro g;refine Abs ?_;refine Abr ?_;exact g.1):J:=h ⟨g⟩
theorem Ab5 {J G:Prop} (g:G) (h:Wg G→J:=by intro g;refine Aa0 ?_;refine Aaf ?_;exact g.1):J:=h ⟨g⟩
theorem Ab6 {J G:Prop} (g:G) (h:Wg G→J:=by intro g;refine Aa6 ?_;refine Aab ?_;exact g.1):J:=h ⟨g⟩
theorem Ab7 {J G:Prop} (g:G) (h:Wg G→J:=by intro g;refine AG ?_;refine AK ?_;exact g.1):J:=h ⟨g⟩
theorem Ab8 {J G:Prop} (g:G) (h:Wg G→J:=by intro g;refine Ab0 ?_;refine Ab4 ?_;exact g.1):J:=h ⟨g⟩
theorem Ab9 {J G:Prop} (g:G) (h:Wg G→J:=by intro g;refine Abc ?_;refine Aar ?_;exact g.1):J:=h ⟨g⟩
theorem Ac {J G:Prop} (g:G) (h:Wg G→J:=by intro g;refine Aas ?_;refine AK ?_;exact g.1):J:=h ⟨g⟩
theorem Aca {J G:Prop} (g:G) (h:Wg G→J:=by intro g;refine AE ?_;refine Aan ?_;exact g.1):J:=h ⟨g⟩
theorem Acb {J G:Prop} (g:G) (h:Wg G→J:=by intro g;refine Aaw ?_;refine AB ?_;exact g.1):J:=h ⟨g⟩
theorem Acc {J G:Prop} (g:G) (h:Wg G→J:=by intro g;refine Aaa ?_;refine A6 ?_;exact g.1):J:=h ⟨g⟩
theorem Acd {J G:Prop} (g:G) (h:Wg G→J:=by intro g;refine Aap ?_;refine Ab1 ?_;exact g.1):J:=h ⟨g⟩
theorem Ace {J G:Prop} (g:G) (h:Wg G→J:=by intro g;refine AD ?_;refine Aaj ?_;exact g.1):J:=h ⟨g⟩
theorem Acf {J G:Prop} (g:G) (h:Wg G→J:=by intro g;refine Aah ?_;refine Aa ?_;exact g.1):J:=h ⟨g⟩
theorem Acg {J G:Prop} (g:G) (h:Wg G→J:=by intro g;refine Aai ?_;refine Aa3 ?_;exact g.1):J:=h ⟨g⟩
theorem Ach {J G:Prop} (g:G) (h:Wg G→J:=by intro g;refine AJ ?_;refine AL ?_;exact g.1):J:=h ⟨g⟩
theorem Aci {J G:Prop} (g:G) (h:Wg G→J:=by intro g;refine AM ?_;refine Abg ?_;exact g.1):J:=h ⟨g⟩
theorem Acj {J G:Prop} (g:G) (h:Wg G→J:=by intro g;refine Ach ?_;refine Aag ?_;exact g.1):J:=h ⟨g⟩
theorem Ack {J G:Prop} (g:G) (h:Wg G→J:=by intro g;refine BB ?_;refine B4 ?_;exact g.1):J:=h ⟨g⟩
theorem Acl {J G:Prop} (g:G) (h:Wg G→J:=by intro g;refine AV ?_;refine Aaa ?_;exact g.1):J:=h ⟨g⟩
theorem Acm {J G:Prop} (g:G) (h:Wg G→J:=by intro g;refine Aa ?_;refine Aa4 ?_;exact g.1):J:=h ⟨g⟩
theorem Acn {J G:Prop} (g:G) (h:Wg G→J:=by intro g;refine Aa ?_;refine Ab7 ?_;exact g.1):J:=h ⟨g⟩
theorem Aco {J G:Prop} (g:G) (h:Wg G→J:=by intro g;refine Aap ?_;refine Abp ?_;exact g.1):J:=h ⟨g⟩
theorem Acp {J G:Prop} (g:G) (h:Wg G→J:=by intro g;refine Ab9 ?_;refine Abc ?_;exact g.1):J:=h ⟨g⟩
theorem Acq {J G:Prop} (g:G) (h:Wg G→J:=by intro g;refine BC ?_;refine BW ?_;exact g.1):J:=h ⟨g⟩
theorem Acr {J G:Prop} (g:G) (h:Wg G→J:=by intro g;refine BV ?_;refine BE ?_;exact g.1):J:=h ⟨g⟩
theorem Acs {J G:Prop} (g:G) (h:Wg G→J:=by intro g;refine Abn ?_;refine AJ ?_;exact g.1):J:=h ⟨g⟩
theorem Acu {J G:Prop} (g:G) (h:Wg G→J:=by intro g;refine Aaa ?_;refine Aag ?_;exact g.1):J:=h ⟨g⟩
theorem Acv {J G:Prop} (g:G) (h:Wg G→J:=by intro g;refine Aah ?_;refine Aa9 ?_;exact g.1):J:=h ⟨g⟩
theorem Acw {J G:Prop} (g:G) (h:Wg G→J:=by intro g;refine Acb ?_;refine Abw ?_;exact g.1):J:=h ⟨g⟩
theorem Acx {J G:Prop} (g:G) (h:Wg G→J:=by intro g;refine Abo ?_;refine BO ?_;exact g.1):J:=h ⟨g⟩
theorem Acy {J G:Prop} (g:G) (h:Wg G→J:=by intro g;refine BK ?_;refine Abi ?_;exact g.1):J:=h ⟨g⟩
theorem Acz {J G:Prop} (g:G) (h:Wg G→J:=by intro g;refine Aci ?_;refine Abg ?_;exact g.1):J:=h ⟨g⟩
theorem Ac0 {J G:Prop} (g:G) (h:Wg G→J:=by intro g;refine AV ?_;refine Aay ?_;exact g.1):J:=h ⟨g⟩
theorem Ac1 {J G:Prop} (g:G) (h:Wg G→J:=by intro g;refine Aar ?_;refine AM ?_;exact g.1):J:=h ⟨g⟩
theorem Ac2 {J G:Prop} (g:G) (h:Wg G→J:=by intro g;refine AG ?_;refine Aae ?_;exact g.1):J:=h ⟨g⟩
theorem Ac3 {J G:Prop} (g:G) (h:Wg G→J:=by intro g;refine AE ?_;refine Aa8 ?_;exact g.1):J:=h ⟨g⟩
theorem Ac4 {J G:Prop} (g:G) (h:Wg G→J:=by intro g;refine A2 ?_;refine Aah ?_;exact g.1):J:=h ⟨g⟩
theorem Ac5 {J G:Prop} (g:G) (h:Wg G→J:=by intro g;refine Acf ?_;refine Ab ?_;exact g.1):J:=h ⟨g⟩
theorem Ac6 {J G:Prop} (g:G) (h:Wg G→J:=by intro g;refine Ab5 ?_;refine AR rfl rfl rfl ?_;exact g.1):J:=h ⟨g⟩
theorem Ac7 {J G:Prop} (g:G) (h:Wg G→J:=by intro g;refine CV ?_;refine AF ?_;exact g.1):J:=h ⟨g⟩
theorem Ac8 {J G:Prop} (g:G) (h:Wg G→J:=by intro g;refine AB ?_;refine AF ?_;exact g.1):J:=h ⟨g⟩
theorem Ac9 {J G:Prop} (g:G) (h:Wg G→J:=by intro g;refine Aag ?_;refine AB ?_;exact g.1):J:=h ⟨g⟩
theorem Ad {J G:Prop} (g:G) (h:Wg G→J:=by intro g;refine CA ?_;refine Aai ?_;exact g.1):J:=h ⟨g⟩
theorem Ada {J G:Prop} (g:G) (h:Wg G→J:=by intro g;refine Aar ?_;refine BX ?_;exact g.1):J:=h ⟨g⟩
theorem Adb {J G:Prop} (g:G) (h:Wg G→J:=by intro g;refine A2 ?_;refine Aai ?_;exact g.1):J:=h ⟨g⟩
theorem Adc {J G:Prop} (g:G) (h:Wg G→J:=by intro g;refine Aaj ?_;refine AL ?_;exact g.1):J:=h ⟨g⟩
theorem Add {J G:Prop} (g:G) (h:Wg G→J:=by intro g;refine Aap ?_;refine BZ ?_;exact g.1):J:=h ⟨g⟩
theorem Ade {J G:Prop} (g:G) (h:Wg G→J:=by intro g;refine Aa4 ?_;refine B6 ?_;exact g.1):J:=h ⟨g⟩
theorem Adf {J G:Prop} (g:G) (h:Wg G→J:=by intro g;refine Acm ?_;refine Abk ?_;exact g.1):J:=h ⟨g⟩
theorem Adg {J G:Prop} (g:G) (h:Wg G→J:=by intro g;refine Aaj ?_;refine Aas ?_;exact g.1):J:=h ⟨g⟩
theorem Adh {J G:Prop} (g:G) (h:Wg G→J:=by intro g;refine BC ?_;refine CS ?_;exact g.1):J:=h ⟨g⟩
theorem Adi {J G:Prop} (g:G) (h:Wg G→J:=by intro g;refine AE ?_;refine AL ?_;exact g.1):J:=h ⟨g⟩
theorem Adj {J G:Prop} (g:G) (h:Wg G→J:=by intro g;refine A2 ?_;refine Aaa ?_;exact g.1):J:=h ⟨g⟩
theorem Adk {J G:Prop} (g:G) (h:Wg G→J:=by intro g;refine Aa0 ?_;refine A2 ?_;exact g.1):J:=h ⟨g⟩
theorem Adl {J G:Prop} (g:G) (h:Wg G→J:=by intro g;refine BN ?_;refine Abz ?_;exact g.1):J:=h ⟨g⟩
theorem Adm {J G:Prop} (g:G) (h:Wg G→J:=by intro g;refine Aaa ?_;refine Aa ?_;exact g.1):J:=h ⟨g⟩
theorem Adn {J G:Prop} (g:G) (h:Wg G→J:=by intro g;refine Abv ?_;refine AD ?_;exact g.1):J:=h ⟨g⟩
theorem Ado {J G:Prop} (g:G) (h:Wg G→J:=by intro g;refine Aa7 ?_;refine Aa9 ?_;exact g.1):J:=h ⟨g⟩
theorem Adp {J G:Prop} (g:G) (h:Wg G→J:=by intro g;refine Abf ?_;refine Abf ?_;exact g.1):J:=h ⟨g⟩
theorem Adq {J G:Prop} (g:G) (h:Wg G→J:=by intro g;refine Aan ?_;refine Aae ?_;exact g.1):J:=h ⟨g⟩
theorem Adr {J G:Prop} (g:G) (h:Wg G→J:=by intro g;refine Aah ?_;refine Acj ?_;exact g.1):J:=h ⟨g⟩
theorem Ads {J G:Prop} (g:G) (h:Wg G→J:=by intro g;refine Aag ?_;refine Acy ?_;exact g.1):J:=h ⟨g⟩
theorem Adt {J G:Prop} (g:G) (h:Wg G→J:=by intro g;refine Aba ?_;refine Abi ?_;exact g.1):J:=h ⟨g⟩
end Go.Eng
namespace Go.Eng
variable {C:Cx} {D:List Deferred} {R H:List PH} {L:Env} {K:List It}
variable {dst:Option Tmp} {ty:TypeId} {pos:String} {aft:Array Edge} {g:Option (Nat × Bool)}
def ents:Nat→List (Int × Int)→List MapEntry
  | _,[]=>[]
  | i,kv::m=>⟨int kv.1,int kv.2,i⟩::ents (i+1) m
def mapO (m:List (Int × Int)):Obj:=.map (ents 0 m).toArray m.length
def midx (k:Int):List (Int × Int)→Option (Nat × Int)
  | []=>none
  | (a,v)::m=>if k=a then some (0,v) else (midx k m).map (fun p=>(p.1+1,p.2))
def mget (k:Int) (m:List (Int × Int)):Option Int:=(midx k m).map (·.2)
def mset (k v:Int):List (Int × Int)→List (Int × Int)
  | []=>[(k,v)]
  | (a,w)::m=>if k=a then (a,v)::m else (a,w)::mset k v m
theorem findNow_ents (k:Int):∀ (m:List (Int × Int)) (i j:Nat),Instr.findNow (.int .i64) (int k) (ents i m) j=some ((midx k m).map (fun p=>(j+p.1,int p.2)))
  | [],i,j=>rfl
  | (a,v)::m,i,j=>by
    by_cases h:k=a
    · subst h
      simp [ents,Instr.findNow,Instr.sameNow,midx,int]
    · have ih:=findNow_ents k m (i+1) (j+1)
      have hs:Instr.sameNow (.int .i64) (int k) (int a)=some false:=by simp [Instr.sameNow,int,h]
      simp only [ents,Instr.findNow,hs,midx,if_neg h,ih,Option.map_map]
      congr 2
      funext p
      show (j+1+p.1,int p.2)=(j+(p.1+1),int p.2)
      rw [show j+1+p.1=j+(p.1+1) by omega]
theorem mset_none {k v:Int}:∀ {m:List (Int × Int)} (i:Nat),midx k m=none→ents i m ++ [⟨int k,int v,i+m.length⟩]=ents i (mset k v m)∧(mset k v m).length=m.length+1
  | [],i,_=>⟨rfl,rfl⟩
  | (a,w)::m,i,h=>by
    unfold midx at h
    split at h
    · exact absurd h (by simp)
    · rename_i hk
      have h':midx k m=none:=by simpa using h
      obtain ⟨e,l⟩:=mset_none (k:=k) (v:=v) (m:=m) (i+1) h'
      simp only [mset,if_neg hk,ents,List.cons_append,List.length_cons,l,and_true,← e]
      congr 4
      omega
theorem mset_some {k v:Int}:∀ {m:List (Int × Int)} (i n:Nat) (w:Int),midx k m=some (n,w)→(ents i m).modify n (fun e=>{ e with key:=int k,val:=int v })=ents i (mset k v m)∧(mset k v m).length=m.length∧n<m.length∧((ents i m)[n]?).map (·.key)=some (int k)
  | [],i,n,w,h=>by simp [midx] at h
  | (a,u)::m,i,n,w,h=>by
    unfold midx at h
    split at h
    · rename_i hk
      subst hk
      simp at h
      obtain ⟨rfl,rfl⟩:=h
      simp [ents,mset]
    · rename_i hk
      cases hm:midx k m with
      | none=>rw [hm] at h; simp at h
      | some p =>
        rw [hm] at h
        simp at h
        obtain ⟨rfl,rfl⟩:=h
        obtain ⟨e,l,l2,l3⟩:=mset_some (k:=k) (v:=v) (m:=m) (i+1) p.1 p.2 hm
        simp only [mset,if_neg hk,ents,List.length_cons,l,List.modify_succ_cons,e]
        refine ⟨trivial,trivial,by omega,?_⟩
        simpa using l3
theorem E9 {t:TypeId}:Loud C R H L ⟨dst,.makeMap t none,ty,pos,aft,g⟩ (fun v H'=>∃ b,v=.map (some b)∧H'=sng b (mapO [])::H):=by
  refine ⟨fun a w hx hs next Q hn=>?_⟩
  refine wpIn_value (v:=.map (some w.heap.size)) (w':=w.alloc (mapO [])) (by intro c; simp) ?_ (hn _ _ _ ⟨_,rfl,rfl⟩ (hs.alloc _))
  simp [execOp,Instr.makeMap,newObj]
  rfl
theorem run_checkKey {P:Program} {w:World} {kt:TypeId} {k:Int} (e:Bool) (n:Nat) (hkt:P.underlying kt=some (.int .i64)):(Instr.checkKey e (n+1) kt (int k)).run P w=.ok () w:=by
  simp [Instr.checkKey,Go.underlying,Sem.run,hkt,int]
theorem run_findKey {P:Program} {w:World} {kt:TypeId} {k:Int} {l:List (Int × Int)} (hkt:P.underlying kt=some (.int .i64)):(Instr.findKey kt (int k) (ents 0 l)).run P w=.ok ((midx k l).map (fun p=>(p.1,int p.2))) w:=by
  have hf:=findNow_ents k l 0 0
  simp only [Nat.zero_add] at hf
  simp [Instr.findKey,Go.underlying,Sem.run,hkt,hf]
theorem run_lookup {P:Program} {w:World} {t kt et:TypeId} {b:Nat} {k:Int} {l:List (Int × Int)} {ok:Bool} (ht:P.underlying t=some (.map kt et)) (hkt:P.underlying kt=some (.int .i64)) (hz:zeroP P et=some (int 0)) (hg:w.heap[b]?=some (mapO l)) :
    (Instr.lookup t (.map (some b)) (int k) ok).run P w=.ok (if ok then .tuple #[int ((mget k l).getD 0),.bool (mget k l).isSome] else int ((mget k l).getD 0)) w:=by
  have hf:=run_findKey (P:=P) (w:=w) (k:=k) (l:=l) hkt
  have hc:=fun e=>run_checkKey (P:=P) (w:=w) (k:=k) e 9999 hkt
  simp only [Nat.reduceAdd] at hc;unfold mget
  cases hm:midx k l with
  | none =>
    rw [hm] at hf
    simp [Instr.lookup,Go.underlying,Sem.run,ht,getObj,hg,mapO,hc,hf,run_zeroValue hz]
    done
  | some p =>
    rw [hm] at hf
    simp [Instr.lookup,Go.underlying,Sem.run,ht,getObj,hg,mapO,hc,hf]
    done
def MapAt (N:Bs) (R H:List PH) (b:Nat) (l:List (Int × Int)):Prop:=∀ w,Sat N R H w→w.heap[b]?=some (mapO l)
theorem mapAt_own {N:Bs} {b:Nat} {l:List (Int × Int)} (m:Mem (sng b (mapO l)) H):MapAt N R H b l:=fun w hs=>hs.h _ m.mem b _ (sng_self b _)
theorem mapAt_rd {N:Bs} {b:Nat} {l:List (Int × Int)} (m:Mem (sng b (mapO l)) R):MapAt N R H b l:=fun w hs=>hs.r _ m.mem b _ (sng_self b _)
theorem DG {x y:Operand} {t kt et:TypeId} {b:Nat} {k:Int} {l:List (Int × Int)} (h:evalE L x=some (.map (some b))) (hk:evalE L y=some (int k)) (ht:C.P.underlying t=some (.map kt et)) (hkt:C.P.underlying kt=some (.int .i64)) (hz:zeroP C.P et=some (int 0)) (hm:MapAt C.N R H b l) :
    Quiet C R H L ⟨dst,.lookup t x y false,ty,pos,aft,g⟩ (int ((mget k l).getD 0)):=
  ⟨by intro c; simp,fun a w hx hs=>by
    have e1:=hx x (by simp [Op.operands]) _ h
    have e2:=hx y (by simp [Op.operands]) _ hk
    simp [execOp,e1,e2,run_lookup ht hkt hz (hm w hs)]⟩
theorem EF {x y:Operand} {t kt et:TypeId} {b:Nat} {k:Int} {l:List (Int × Int)} (h:evalE L x=some (.map (some b))) (hk:evalE L y=some (int k)) (ht:C.P.underlying t=some (.map kt et)) (hkt:C.P.underlying kt=some (.int .i64)) (hz:zeroP C.P et=some (int 0)) (hm:MapAt C.N R H b l) :
    Quiet C R H L ⟨dst,.lookup t x y true,ty,pos,aft,g⟩ (.tuple #[int ((mget k l).getD 0),.bool (mget k l).isSome]):=
  ⟨by intro c; simp,fun a w hx hs=>by
    have e1:=hx x (by simp [Op.operands]) _ h
    have e2:=hx y (by simp [Op.operands]) _ hk
    simp [execOp,e1,e2,run_lookup ht hkt hz (hm w hs)]⟩
theorem run_mapUpdate {P:Program} {w:World} {t kt et:TypeId} {b:Nat} {k v:Int} {l:List (Int × Int)} (ht:P.underlying t=some (.map kt et)) (hkt:P.underlying kt=some (.int .i64)) (hg:w.heap[b]?=some (mapO l)) :
    (Instr.mapUpdate t (.map (some b)) (int k) (int v)).run P w=.ok () { w with heap:=w.heap.setIfInBounds b (mapO (mset k v l)) }:=by
  have hf:=run_findKey (P:=P) (w:=w) (k:=k) (l:=l) hkt
  have hc:=fun e=>run_checkKey (P:=P) (w:=w) (k:=k) e 9999 hkt
  simp only [Nat.reduceAdd] at hc
  cases hm:midx k l with
  | none =>
    rw [hm] at hf
    obtain ⟨e,n⟩:=mset_none (k:=k) (v:=v) 0 hm
    have e2:mapO (mset k v l)=.map ((ents 0 l).toArray.push ⟨int k,int v,l.length⟩) (l.length+1):=by
      unfold mapO; rw [n,← e]; simp
    rw [e2]
    simp [Instr.mapUpdate,Go.underlying,Sem.run,ht,getObj,hg,mapO,hc,hf,setObj]
    done
  | some p =>
    rw [hm] at hf
    obtain ⟨e,n,n2,n3⟩:=mset_some (k:=k) (v:=v) 0 p.1 p.2 hm
    have e2:mapO (mset k v l)=.map ((ents 0 l).toArray.modify p.1 (fun e=>{ e with key:=int k,val:=int v })) l.length:=by
      unfold mapO; rw [n,← e]; simp
    rw [e2]
    have hsb:Instr.sameBits 10000 (int k) (int k)=true:=by simp [Instr.sameBits,int]
    have hks:(Instr.keyThatStays (int k) (int k)).run P w=.ok (int k) w:=by simp [Instr.keyThatStays,hsb]
    simp [Instr.mapUpdate,Go.underlying,Sem.run,ht,getObj,hg,mapO,hc,hf,setObj,n3,hks]
    done
theorem DX {x y z:Operand} {t kt et:TypeId} {b:Nat} {k v:Int} {l:List (Int × Int)} {H':List PH} (h:evalE L x=some (.map (some b))) (hk:evalE L y=some (int k)) (hv:evalE L z=some (int v)) (ht:C.P.underlying t=some (.map kt et)) (hkt:C.P.underlying kt=some (.int .i64)) (hm:Take (sng b (mapO l)) H H') :
    Loud C R H L ⟨dst,.mapUpdate t x y z,ty,pos,aft,g⟩ (fun u H2=>u=undef∧H2=sng b (mapO (mset k v l))::H'):=by
  refine ⟨fun a w hx hs next Q hnx=>?_⟩
  have hg:=hs.own hm
  have e1:=hx x (by simp [Op.operands]) _ h
  have e2:=hx y (by simp [Op.operands]) _ hk
  have e3:=hx z (by simp [Op.operands]) _ hv
  refine wpIn_skipv (w':={ w with heap:=w.heap.setIfInBounds b (mapO (mset k v l)) }) (by intro c; simp) ?_ (hnx _ _ _ ⟨rfl,rfl⟩ (hs.turn hm ?_ ?_ ?_))
  · simp [execOp,e1,e2,e3,run_mapUpdate ht hkt hg]
  · simp
  · have:b<w.heap.size:=by
      rw [Array.getElem?_eq_some_iff] at hg; exact hg.1
    simp [this]
  · intro k hk; simp [Array.getElem?_setIfInBounds,Ne.symm hk]
end Go.Eng
namespace Go.Step
structure Ct where
  f:Int
  t:Int
  s:Int
  e:Int
  r:Int
  g:Int
  l:Int
def okCt (c:Ct):Prop:=(0≤c.f∧c.f≤15)∧(0≤c.t∧c.t≤15)∧(1≤c.r∧c.r≤1000)∧(1≤c.g∧c.g≤1048576)∧(0≤c.l∧c.l≤16)
instance (c:Ct):Decidable (okCt c):=inferInstanceAs (Decidable (_∧_))
def chkCt (c:Ct):Int:=if ¬ okCt c then 2 else if c.f=c.t then 1 else if c.s<0∨c.e≤c.s∨1099511627776-2*c.g<c.e then 2 else 0
def ovl (c d:Ct):Bool:=decide (chkCt c=0∧chkCt d=0∧c.f=d.f∧c.t=d.t∧c.s<d.e∧d.s<c.e)
theorem chkCt_se {c:Ct} (h:chkCt c=0):0≤c.s∧c.s<c.e∧c.e≤1099511627776:=by
  unfold chkCt at h
  split at h
  · omega
  · rename_i hk
    split at h
    · omega
    · split at h
      · omega
      · unfold okCt at hk
        omega
def firstE (e:Nat→Int):Nat→Int
  | 0=>0
  | n+1=>if firstE e n≠0 then firstE e n else e n
theorem firstE_ok {e:Nat→Int} {k:Nat} (h:firstE e k=0) (h2:e k=0):firstE e (k+1)=0:=by simp [firstE,h,h2]
theorem firstE_hit {e:Nat→Int} {k:Nat} (h:firstE e k=0) (h2:e k≠0):∀ n,k<n→firstE e n=e k
  | 0,hn=>by omega
  | n+1,hn=>by
    by_cases hk:k=n
    · subst hk; simp [firstE,h]
    · have ih:=firstE_hit h h2 n (by omega)
      simp [firstE,ih,h2]
theorem firstE_zero {e:Nat→Int}:∀ {n:Nat},firstE e n=0→∀ k,k<n→e k=0
  | 0,_,k,hk=>by omega
  | n+1,h,k,hk=>by
    unfold firstE at h
    split at h
    · contradiction
    · rename_i hc
      have hc':firstE e n=0:=Decidable.not_not.1 hc
      by_cases e':k=n
      · subst e'; exact h
      · exact firstE_zero hc' k (by omega)
theorem firstE_all {e:Nat→Int}:∀ {n:Nat},(∀ k,k<n→e k=0)→firstE e n=0
  | 0,_=>rfl
  | n+1,h=>firstE_ok (firstE_all (fun k hk=>h k (by omega))) (h n (by omega))
def quoE (qs:List Int) (i:Nat):Int:=match qs[i]? with
  | some q=>if q<0∨1073741824<q then 2 else 0
  | none=>0
def ctE (n:Nat) (cs:List Ct) (i:Nat):Int:=match cs[i]? with
  | some c=>if chkCt c≠0 then chkCt c else if (n:Int)≤c.f∨(n:Int)≤c.t then 2 else if (cs.take i).any (ovl c) then 14 else 0
  | none=>0
def chkPl (qs:List Int) (cs:List Ct):Int:=
  if qs.length<1∨16<qs.length∨64<cs.length then 4 else if firstE (quoE qs) qs.length≠0 then firstE (quoE qs) qs.length else firstE (ctE qs.length cs) cs.length
end Go.Step
namespace Go.Proofs.YtglifndogffmkaaGreat
open Go.Eng Go.Step
set_option maxRecDepth 100000
set_option maxHeartbeats 64000000
def encC (c:Ct):List Value:=[int c.f,int c.t,int c.s,int c.e,int c.r,int c.g,int c.l]
theorem encC_len (c:Ct):(encC c).length=7:=rfl
theorem within_spec (a l h:Int):Ans Tryz.prog (fv 129) [int a,int l,int h] [] (fun r=>(r=.bool true∧l≤a∧a≤h)∨(r=.bool false∧¬ (l≤a∧a≤h))):=by
 refine spec_in (cap:=[]) Tryz.func129 rfl rfl Tryz.ntmps129 rfl envZ (fun N β=>?_)
 by_cases h1:l≤a
 ·by_cases h2:a≤h
  ·refine AC ?_
   refine AA ?_;refine Acu ?_;refine DH ?_;refine Abi ?_;refine ES ?_;refine Adj ?_;exact AT (res1 rfl rfl) rsubZ selZ ⟨rfl,.inl ⟨rfl,h1,h2⟩⟩
  ·refine AC ?_
   refine AA ?_;refine Acu ?_;refine DH ?_;refine Abi ?_;refine DA ?_;refine Adj ?_
   exact AT (res1 rfl rfl) rsubZ selZ ⟨rfl,.inr ⟨rfl,by omega⟩⟩
 ·refine AC ?_
  refine AA ?_;refine Acu ?_;refine CM ?_;refine Abd ?_;refine Acl ?_
  exact AT (res1 rfl rfl) rsubZ selZ ⟨rfl,.inr ⟨rfl,by omega⟩⟩
theorem ctCheck_spec (c:Ct):Ans Tryz.prog (fv 60) [.agg #[int c.f,int c.t,int c.s,int c.e,int c.r,int c.g,int c.l]] [] (fun r=>r=int (chkCt c)):=by
 refine spec_in (cap:=[]) Tryz.func60 rfl rfl Tryz.ntmps60 rfl envZ (fun N β=>?_)
 repeat' (first
  | (refine AB ?_)
  | (refine AD ?_)
  | (refine AF ?_)
  | (refine AG ?_)
  | (refine A2 ?_)
  | (refine AV ?_)
  | (refine B6 ?_)
  | (refine BZ ?_)
  | (refine EH ?_)
  | (refine AC ?_)
  | (refine AA ?_)
  | (refine AE ?_)
  | (refine AJ ?_)
  | (refine AN rfl ?_)
  | (refine AI rfl ?_)
  | (refine AR rfl rfl rfl ?_)
  | (focus ((refine AZ (within_spec _ _ _) rfl rfl rdZ rfl rfl ?_; rintro v (⟨rfl,h⟩|⟨rfl,h⟩))))
  | (refine BU ?_; rintro _ _ ⟨b,rfl,rfl⟩)
  | (focus ((refine C4 rfl rfl (cmp_eq _ _) rfl rfl (fun h=>?_) (fun h=>?_))))
  | (focus ((refine C4 rfl rfl (cmp_lt _ _) rfl rfl (fun h=>?_) (fun h=>?_))))
  | (focus ((refine C4 rfl rfl (cmp_le _ _) rfl rfl (fun h=>?_) (fun h=>?_))))
  | fail)
 all_goals (refine AT (res1 rfl rfl) rsubZ selZ ⟨rfl,?_⟩)
 all_goals (unfold chkCt okCt; (repeat' split) <;> first|rfl|(exfalso; omega))
theorem overlap_spec (c d:Ct):Ans Tryz.prog (fv 63) [.agg #[int c.f,int c.t,int c.s,int c.e,int c.r,int c.g,int c.l],.agg #[int d.f,int d.t,int d.s,int d.e,int d.r,int d.g,int d.l]] [] (fun r=>r=.bool (ovl c d)):=by
 refine spec_in (cap:=[]) Tryz.func63 rfl rfl Tryz.ntmps63 rfl envZ (fun N β=>?_)
 have hc:=ctCheck_spec c
 have hd:=ctCheck_spec d
 have sc:=@chkCt_se c
 have sd:=@chkCt_se d
 unfold ovl
 generalize chkCt c=x at hc sc
 generalize chkCt d=y at hd sd
 repeat' (first
  | (refine AB ?_)
  | (refine AD ?_)
  | (refine AF ?_)
  | (refine AG ?_)
  | (refine A2 ?_)
  | (refine AV ?_)
  | (refine AK ?_)
  | (refine FZ ?_)
  | (refine DB ?_)
  | (refine AC ?_)
  | (refine AA ?_)
  | (refine AE ?_)
  | (refine AJ ?_)
  | (refine AN rfl ?_)
  | (refine AI rfl ?_)
  | (refine AR rfl rfl rfl ?_)
  | (focus ((refine AZ hc rfl rfl rdZ rfl rfl ?_; rintro _ rfl)))
  | (focus ((refine AZ hd rfl rfl rdZ rfl rfl ?_; rintro _ rfl)))
  | (refine BU ?_; rintro _ _ ⟨b,rfl,rfl⟩)
  | (focus ((refine C4 rfl rfl (cmp_ne _ _) rfl rfl (fun h=>?_) (fun h=>?_))))
  | (focus ((refine C4 rfl rfl (cmp_lt _ _) rfl rfl (fun h=>?_) (fun h=>?_))))
  | fail)
 all_goals (refine AT (res1 rfl rfl) rsubZ selZ ⟨rfl,?_⟩)
 all_goals (congr 1; first|exact (decide_eq_false (by omega)).symm|exact (decide_eq_true (by omega)).symm|(apply decide_eq_decide.2; constructor <;> intro <;> omega))
theorem indexC_spec (ρ:PH) (Rs:List PH) (v fn:Value) (l:List Ct) (p:Ct→Bool) (hv:SlE encC 7 ρ v l) (hl:l.length≤9223372036854775807) (hfn:∀ (i:Nat) (x:Ct),l[i]?=some x→Ans Tryz.prog fn [.agg (encC x).toArray] Rs (fun r=>r=.bool (p x))) :
  Ans Tryz.prog (fv 130) [v,fn] (ρ::Rs) (fun r=>(∃ (i:Nat) (x:Ct),l[i]?=some x∧p x=true∧(∀ (j:Nat) (y:Ct),j<i→l[j]?=some y→p y=false)∧r=int i)∨((∀ x∈l,p x=false)∧r=int (-1))):=by
 obtain ⟨q,c,rfl,hr⟩:=hv.val encC_len
 refine spec_in (cap:=[]) Tryz.func130 rfl rfl Tryz.ntmps130 rfl envZ (fun N β=>?_)
 refine Adf ?_
 refine BF [0,1,7] (0:Nat) (fun k=>k≤l.length∧∀ (i:Nat) (x:Ct),i<k→l[i]?=some x→p x=false) (fun k=>[(8,int k)]) (fun _=>[]) (fun k=>l.length-k) pickZ ⟨by omega,fun i x h=>by omega⟩ covZ selZ ?_
 rintro k ⟨hk,hI⟩
 by_cases hlt:k<l.length
 ·have hx:=List.getElem?_eq_getElem hlt
  obtain ⟨b1,o1,rfl,hrd⟩:=hr k _ hx
  have hrd2:RdN ρ b1 (o1+k*7) (encC l[k]):=hrd
  have hf:=hfn k _ hx
  refine Ado ?_;refine Ac9 ?_;refine Abb ?_
  refine AZ hf rfl rfl (fun τ hτ=>.inl (by simp [hτ])) rfl rfl ?_
  rintro _ rfl
  cases hp:p l[k] with
  | true =>
   refine Acv ?_;exact AT (res1 rfl rfl) rsubZ selZ ⟨rfl,.inl ⟨k,l[k],hx,hp,hI,rfl⟩⟩
  | false =>
   refine Acg ?_
   refine AY (k+1) ⟨by omega,fun i x hi hix=>?_⟩ (by omega) covZ selZ
   by_cases e:i=k
   ·subst e; rw [hx] at hix; injection hix with hix; rw [← hix]; exact hp
   ·exact hI i x (by omega) hix
 ·refine AC ?_
  refine AA ?_;refine Abh ?_;refine Aaq ?_
  refine AT (res1 rfl rfl) rsubZ selZ ⟨rfl,.inr ⟨fun x hx=>?_,rfl⟩⟩
  obtain ⟨i,hi,rfl⟩:=List.getElem_of_mem hx
  exact hI i _ (by omega) (List.getElem?_eq_getElem hi)
theorem contC_spec (ρ:PH) (Rs:List PH) (v fn:Value) (l:List Ct) (p:Ct→Bool) (hv:SlE encC 7 ρ v l) (hl:l.length≤9223372036854775807) (hfn:∀ (i:Nat) (x:Ct),l[i]?=some x→Ans Tryz.prog fn [.agg (encC x).toArray] Rs (fun r=>r=.bool (p x))) :
  Ans Tryz.prog (fv 61) [v,fn] (ρ::Rs) (fun r=>r=.bool (l.any p)):=by
 have hix:=indexC_spec ρ Rs v fn l p hv hl hfn
 obtain ⟨q,c,rfl,hr⟩:=hv.val encC_len
 refine spec_in (cap:=[]) Tryz.func61 rfl rfl Tryz.ntmps61 rfl envZ (fun N β=>?_)
 refine Aaq ?_;refine Aag ?_
 refine AZ hix rfl rfl (fun τ hτ=>.inl (List.mem_cons_of_mem _ hτ)) rfl rfl ?_
 rintro _ (⟨i,x,hi,hp,_,rfl⟩|⟨hall2,rfl⟩)
 ·have hfl:l.any p=true:=List.any_eq_true.2 ⟨x,List.mem_of_getElem? hi,hp⟩
  refine DH ?_;refine Aaa ?_
  exact AT (res1 rfl rfl) rsubZ selZ ⟨rfl,by rw [hfl]⟩
 ·have hfl:l.any p=false:=List.any_eq_false.2 (fun x hx=>by rw [hall2 x hx]; simp)
  refine CM ?_;refine Aaa ?_
  exact AT (res1 rfl rfl) rsubZ selZ ⟨rfl,by rw [hfl]⟩
theorem SlE.pre {α:Type} {enc:α→List Value} {s:Nat} {ρ:PH} {p:Option Addr} {n c:Nat} {l:List α} (h:SlE enc s ρ (.slice p n c) l) (he:∀ x,(enc x).length=s) {k:Nat} (hk:k≤l.length):SlE enc s ρ (.slice (cutP p c 0 s) k c) (l.take k):=by
 have hlen:(l.take k).length=k:=by rw [List.length_take]; omega
 have hfl:(l.take k).flatMap enc ++ (l.drop k).flatMap enc=l.flatMap enc:=by rw [← List.flatMap_append,List.take_append_drop]
 have hll:((l.take k).flatMap enc).length=k*s:=by
  have:=flat_len he (l.take k)
  rwa [hlen] at this
 unfold SlE;rw [hlen];refine ⟨hll,?_⟩
 by_cases h0:k=0
 ·subst h0; exact .inl ⟨rfl,_,_,rfl⟩
 ·obtain ⟨_,⟨hn,_⟩|⟨b,o,c',e,hr⟩⟩:=h
  ·omega
  ·simp only [Value.slice.injEq] at e
   obtain ⟨rfl,rfl,rfl⟩:=e
   refine .inr ⟨b,o,c,?_,fun j u hu=>hr j u ?_⟩
   ·unfold cutP
    split
    ·rfl
    ·simp [Addr.add]
   ·rw [← hfl,List.getElem?_append_left (by have:=(List.getElem?_eq_some_iff.1 hu).1; exact this)]
    exact hu
theorem planCheck1_spec (bt:Nat) (c d:Ct):Ans Tryz.prog (.func (.func 62) #[] #[.pointer (some ⟨bt,0,none⟩)]) [.agg (encC d).toArray] [sng bt (.cells #[int c.f,int c.t,int c.s,int c.e,int c.r,int c.g,int c.l] 61 (0,0))] (fun r=>r=.bool (ovl c d)):=by
 refine spec_in (cap:=[.pointer (some ⟨bt,0,none⟩)]) Tryz.func62 rfl rfl Tryz.ntmps62 rfl envZ (fun N β=>?_)
 have hb:RdN (sng bt (.cells #[int c.f,int c.t,int c.s,int c.e,int c.r,int c.g,int c.l] 61 (0,0))) bt 0 [int c.f,int c.t,int c.s,int c.e,int c.r,int c.g,int c.l]:=fun j u hu=>by rw [rdc_sng,Nat.zero_add]; simpa using hu
 refine Aa ?_;refine BU ?_; rintro _ _ ⟨b,rfl,rfl⟩;refine Aaa ?_;refine Ac ?_;refine AZ (overlap_spec c d) rfl rfl rdZ rfl rfl ?_;rintro _ rfl;refine Aaa ?_;exact A3 ⟨rfl,rfl⟩
theorem quoE_at {qs:List Int} {i:Nat} {q:Int} (h:qs[i]?=some q):quoE qs i=if q<0∨1073741824<q then 2 else 0:=by unfold quoE; rw [h]
theorem ctE_at {n:Nat} {cs:List Ct} {i:Nat} {c:Ct} (h:cs[i]?=some c):ctE n cs i=if chkCt c≠0 then chkCt c else if (n:Int)≤c.f∨(n:Int)≤c.t then 2 else if (cs.take i).any (ovl c) then 14 else 0:=by unfold ctE; rw [h]
abbrev CtAt (ρ:PH) (v:Value) (l:List Ct):Prop:=SlE encC 7 ρ v l
theorem ctRow {ρ:PH} {p:Option Addr} {l:List Ct} (h:RowsE encC 7 ρ p l) {i:Nat} {c:Ct} (hx:l[i]?=some c) :
  ∃ b o,p=some ⟨b,o,none⟩∧RdN ρ b (o+i*7) [int c.f,int c.t,int c.s,int c.e,int c.r,int c.g,int c.l]:=h i c hx
theorem planCheck_spec (ρ τ:PH) (pq pc:Option Addr) (kq kc:Nat) (qs:List Int) (cs:List Ct) (hq:IntsAt ρ (.slice pq qs.length kq) qs) (hc:CtAt τ (.slice pc cs.length kc) cs) (hcap:cs.length≤kc) (lq:qs.length≤9223372036854775807) (lc:cs.length≤9223372036854775807) :
  Ans Tryz.prog (fv 20) [.agg #[.slice pq qs.length kq,.slice pc cs.length kc]] [ρ,τ] (fun r=>r=int (chkPl qs cs)):=by
 have hc2:=hc
 obtain ⟨_,_,e,hrq⟩:=hq.val Eng.encI_len
 simp only [Value.slice.injEq] at e
 obtain ⟨rfl,_,rfl⟩:=e
 obtain ⟨_,_,e,hrc⟩:=hc.val encC_len
 simp only [Value.slice.injEq] at e
 obtain ⟨rfl,_,rfl⟩:=e
 refine spec_in (cap:=[]) Tryz.func20 rfl rfl Tryz.ntmps20 rfl envZ (fun N β=>?_)
 refine Aa ?_;refine BH (BI rfl) rfl rfl rfl ?_;rintro _ _ ⟨b1,rfl,rfl⟩;refine AQ (ρ:=sng b1 _) takeZ ?_
 have bx177_3:=rdB b1 25 [.slice pq qs.length kq,.slice pc cs.length kc]
 have c10:=rdC bx177_3 0
 have c11:=rdC bx177_3 1
 unfold chkPl
 by_cases hl1:qs.length<1
 ·rw [if_pos (.inl hl1)]
  refine Abx ?_;refine BC ?_;refine Aa4 ?_;refine BK ?_;refine Adk ?_;refine Ab5 ?_;refine A2 ?_;refine Abt ?_;exact A3 ⟨rfl,rfl⟩
 by_cases hl2:16<qs.length
 ·rw [if_pos (.inr (.inl hl2))]
  refine Abx ?_;refine BC ?_;refine Aa4 ?_;refine A7 ?_;refine Aal ?_;refine CS ?_;refine AV ?_;refine Ab5 ?_;refine A2 ?_;refine Abt ?_;exact A3 ⟨rfl,rfl⟩
 by_cases hl3:64<cs.length
 ·rw [if_pos (.inr (.inr hl3))]
  refine Abx ?_;refine BC ?_;refine Aa4 ?_;refine A7 ?_;refine Aal ?_;refine BW ?_;refine Ac0 ?_;refine Adh ?_;refine AV ?_;refine Abt ?_;exact A3 ⟨rfl,rfl⟩
 rw [if_neg (by omega)]
 refine Abx ?_;refine BC ?_;refine Aa4 ?_;refine A7 ?_;refine Aal ?_;refine BW ?_;refine Ac0 ?_;refine Acq ?_;refine AV ?_;refine Aa6 ?_;refine Aan ?_;refine Abk ?_
 refine BF [1,3,25,26] (0:Nat) (fun k=>k≤qs.length∧firstE (quoE qs) k=0) (fun k=>[(27,int k)]) (fun _=>[]) (fun k=>qs.length-k) pickZ ⟨by omega,rfl⟩ covZ selZ ?_
 rintro k ⟨hk,hI⟩
 by_cases hlt:k<qs.length
 ·have hx:=List.getElem?_eq_getElem hlt
  obtain ⟨b2,o2,rfl,g1⟩:=hrq.int hx
  have hE:=quoE_at hx
  generalize qs[k]=x at g1 hE
  by_cases hbad:x<0∨1073741824<x
  ·rw [if_pos hbad] at hE
   have hh:=firstE_hit hI (by rw [hE]; decide) _ hlt
   rw [hE] at hh
   rw [if_pos (by rw [hh]; decide),hh]
   by_cases hneg:x<0
   ·refine AC ?_
    refine AA ?_;refine Aa5 ?_;refine Aa ?_;refine Ac7 ?_;refine Abo ?_;refine BK ?_;refine Adk ?_;refine Abt ?_;exact A3 ⟨rfl,rfl⟩
   ·refine AC ?_
    refine AA ?_;refine Aa5 ?_;refine Aa ?_;refine Ac7 ?_;refine Abo ?_;refine A7 ?_;refine Aal ?_;refine CS ?_;refine AV ?_;refine Abt ?_;exact A3 ⟨rfl,rfl⟩
  ·rw [if_neg hbad] at hE
   refine Abq ?_;refine Ac7 ?_;refine Abo ?_;refine A7 ?_;refine Aal ?_;refine BW ?_;refine Ab3 ?_;refine Aa3 ?_
   exact AY (k+1) ⟨by omega,firstE_ok hI hE⟩ (by omega) covZ selZ
 have hke:k=qs.length:=by omega
 subst hke
 rw [if_neg (by rw [hI]; simp)]
 refine Abl ?_;refine AC ?_;refine Aan ?_;refine Abk ?_
 refine BF [1,3,39,40] (0:Nat) (fun k=>k≤cs.length∧firstE (ctE qs.length cs) k=0) (fun k=>[(41,int k)]) (fun _=>[]) (fun k=>cs.length-k) pickZ ⟨by omega,rfl⟩ covZ selZ ?_
 clear hI hk hlt;rintro k ⟨hk,hI⟩
 by_cases hlt:k<cs.length
 ·have hx:=List.getElem?_eq_getElem hlt
  obtain ⟨b2,o2,rfl,hrd⟩:=ctRow hrc hx
  have hE:=ctE_at (n:=qs.length) hx
  generalize cs[k]=c at hrd hE
  refine Aa7 ?_;refine Aab ?_;refine Abb ?_;refine A4 ?_; rintro _ _ ⟨b,rfl,rfl⟩;refine AD ?_;refine AW ?_; rintro _ _ ⟨rfl,rfl⟩;refine Aam ?_;refine Aas ?_
  revert b; intro b7
  skip
  refine AZ (ctCheck_spec c) rfl rfl rdZ rfl rfl ?_;rintro _ rfl
  by_cases h0:chkCt c=0
  rotate_left
  ·rw [if_pos h0] at hE
   have hh:=firstE_hit hI (by rw [hE]; exact h0) _ hlt
   rw [hh,hE]
   generalize chkCt c=y at h0
   refine Abo ?_;refine C3 ?_;refine Acv ?_;exact A3 ⟨rfl,rfl⟩
  rw [if_neg (by omega)] at hE
  by_cases hfar:(qs.length:Int)≤c.f∨(qs.length:Int)≤c.t
  ·rw [if_pos hfar] at hE
   have hh:=firstE_hit hI (by rw [hE]; decide) _ hlt
   rw [hh,hE]
   by_cases hf1:(qs.length:Int)≤c.f
   ·refine AD ?_
    refine AE ?_;refine Aab ?_;refine BO ?_;refine Aa6 ?_;refine Aan ?_;refine AB ?_;refine DH ?_;refine Ab5 ?_;refine A2 ?_;refine Abt ?_;exact A3 ⟨rfl,rfl⟩
   ·refine AD ?_
    refine AE ?_;refine Aab ?_;refine BO ?_;refine Aa6 ?_;refine Aan ?_;refine AB ?_;refine CM ?_;refine Aay ?_;refine AB ?_;refine DH ?_;refine AV ?_;refine Abt ?_;exact A3 ⟨rfl,rfl⟩
  rw [if_neg hfar] at hE;refine Acx ?_;refine Aa6 ?_;refine Aan ?_;refine AB ?_;refine CM ?_;refine Aay ?_;refine AB ?_;refine CM ?_;refine Ab3 ?_;refine Aan ?_;refine AB ?_;refine EY ?_;refine B3 ?_
  refine AZ (contC_spec τ [sng b7 (.cells #[int c.f,int c.t,int c.s,int c.e,int c.r,int c.g,int c.l] 61 (0,0))] _ _ (cs.take k) (ovl c) (SlE.pre hc2 encC_len hk) (by rw [List.length_take]; omega) (fun i x _=>planCheck1_spec b7 c x)) rfl rfl rdZ rfl rfl ?_
  rintro _ rfl
  cases ho:(cs.take k).any (ovl c) with
  | true =>
   rw [ho,if_pos rfl] at hE
   have hh:=firstE_hit hI (by rw [hE]; decide) _ hlt
   rw [hh,hE];refine Abt ?_;exact A3 ⟨rfl,rfl⟩
  | false =>
   rw [ho,if_neg (by simp)] at hE
   refine Acg ?_
   exact AY (k+1) ⟨by omega,firstE_ok hI hE⟩ (by omega) covZ selZ
 have hke:k=cs.length:=by omega
 subst hke;rw [hI];refine Abl ?_;refine Aaq ?_;exact A3 ⟨rfl,rfl⟩
end Go.Proofs.YtglifndogffmkaaGreat
namespace Go.Step
structure Lv where
  a:Int
  v:Int
  deriving DecidableEq,Inhabited
def badL (l:Lv):Prop:=l.a<0∨1099511627776<l.a∨l.v < -1125899906842624∨1125899906842624<l.v
instance (l:Lv):Decidable (badL l):=by unfold badL; infer_instance
def chkL (pa pv:Int):List Lv→Int
  | []=>0
  | l::f=>if badL l then 2 else if l.a≤pa∨l.v=pv then 9 else chkL l.a l.v f
def chkS (f:List Lv):Int:=if 1000<f.length then 4 else chkL (-1) 0 f
def Asc (pa:Int):List Lv→Prop
  | []=>True
  | l::f=>pa<l.a∧l.a≤1099511627776∧(-1125899906842624≤l.v∧l.v≤1125899906842624)∧Asc l.a f
theorem chkL_asc:∀ (f:List Lv) (pa pv:Int),chkL pa pv f=0→Asc pa f
  | [],_,_,_=>trivial
  | l::f,pa,pv,h=>by
    simp only [chkL] at h
    split at h
    · simp at h
    · rename_i h1
      split at h
      · simp at h
      · rename_i h2
        unfold badL at h1
        exact ⟨by omega,by omega,⟨by omega,by omega⟩,chkL_asc f l.a l.v h⟩
theorem chkS_ok {f:List Lv} (h:chkS f=0):f.length≤1000∧Asc (-1) f:=by
  unfold chkS at h
  split at h
  · simp at h
  · exact ⟨by omega,chkL_asc f _ _ h⟩
theorem Asc.mono:∀ {f:List Lv} {p q:Int},Asc p f→q≤p→Asc q f
  | [],_,_,_,_=>trivial
  | _::_,_,_,h,hq=>⟨by have:=h.1; omega,h.2.1,h.2.2.1,h.2.2.2⟩
theorem Asc.gt:∀ {f:List Lv} {p:Int},Asc p f→∀ l∈f,p<l.a∧l.a≤1099511627776 ∧ -1125899906842624≤l.v∧l.v≤1125899906842624
  | [],_,_,l,hl=>by simp at hl
  | m::f,p,h,l,hl=>by
    simp at hl
    rcases hl with rfl|hl
    · exact ⟨h.1,h.2.1,h.2.2.1⟩
    · have h9:=h.2.2.2.gt l hl
      have:=h.1
      exact ⟨by omega,h9.2⟩
def vat (cur:Int):List Lv→Int→Int
  | [],_=>cur
  | l::f,t=>if l.a≤t then vat l.v f t else cur
def val (f:List Lv) (t:Int):Int:=vat 0 f t
theorem vat_append:∀ (f g:List Lv) (cur t:Int),(∀ l∈f,l.a≤t)→vat cur (f ++ g) t=vat (vat cur f t) g t
  | [],g,cur,t,_=>rfl
  | l::f,g,cur,t,h=>by
    simp only [List.cons_append,vat]
    rw [if_pos (h l (by simp)),if_pos (h l (by simp))]
    exact vat_append f g l.v t (fun m hm=>h m (by simp [hm]))
theorem vat_late:∀ (f:List Lv) (cur t:Int),(∀ l,f.head?=some l→t<l.a)→vat cur f t=cur
  | [],_,_,_=>rfl
  | l::f,cur,t,h=>by
    simp only [vat]
    rw [if_neg (by have:=h l rfl; omega)]
theorem vat_last (f:List Lv) (l:Lv) (cur t:Int) (h:∀ m∈f,m.a≤t) (hl:l.a≤t):vat cur (f ++ [l]) t=l.v:=by
  rw [vat_append f [l] cur t h]
  simp [vat,hl]
theorem vat_mem:∀ (f:List Lv) (cur t:Int),vat cur f t=cur∨∃ l∈f,vat cur f t=l.v
  | [],_,_=>.inl rfl
  | l::f,cur,t=>by
    simp only [vat]
    split
    · rcases vat_mem f l.v t with h|⟨m,hm,h⟩
      · exact .inr ⟨l,by simp,h⟩
      · exact .inr ⟨m,by simp [hm],h⟩
    · exact .inl rfl
end Go.Step
namespace Go.Step
end Go.Step
namespace Go.Step
theorem Asc.idx:∀ {f:List Lv} {p:Int},Asc p f→∀ (i j:Nat) (x y:Lv),f[i]?=some x→f[j]?=some y→i<j→x.a<y.a
  | [],_,_,i,j,x,y,h,_,_=>by simp at h
  | l::f,p,hA,0,j+1,x,y,h1,h2,_=>by
    simp at h1; subst h1
    exact (hA.2.2.2.gt y (List.mem_of_getElem? (by simpa using h2))).1
  | l::f,p,hA,i+1,j+1,x,y,h1,h2,hij=>hA.2.2.2.idx i j x y (by simpa using h1) (by simpa using h2) (by omega)
  | l::f,p,hA,i,0,x,y,h1,h2,hij=>by omega
end Go.Step
namespace Go.Step
def AscT (pa:Int):List Lv→Prop
  | []=>True
  | l::f=>pa<l.a∧l.a≤1099511627776∧AscT l.a f
theorem Asc.t:∀ {f:List Lv} {p:Int},Asc p f→AscT p f
  | [],_,_=>trivial
  | _::_,_,h=>⟨h.1,h.2.1,h.2.2.2.t⟩
theorem AscT.gt:∀ {f:List Lv} {p:Int},AscT p f→∀ l∈f,p<l.a∧l.a≤1099511627776
  | [],_,_,l,hl=>by simp at hl
  | m::f,p,h,l,hl=>by
    simp at hl
    rcases hl with rfl|hl
    · exact ⟨h.1,h.2.1⟩
    · have h9:=h.2.2.gt l hl
      have:=h.1
      exact ⟨by omega,h9.2⟩
theorem AscT.idx:∀ {f:List Lv} {p:Int},AscT p f→∀ (i j:Nat) (x y:Lv),f[i]?=some x→f[j]?=some y→i<j→x.a<y.a
  | [],_,_,i,j,x,y,h,_,_=>by simp at h
  | l::f,p,hA,0,j+1,x,y,h1,h2,_=>by
    simp at h1; subst h1
    exact (hA.2.2.gt y (List.mem_of_getElem? (by simpa using h2))).1
  | l::f,p,hA,i+1,j+1,x,y,h1,h2,hij=>hA.2.2.idx i j x y (by simpa using h1) (by simpa using h2) (by omega)
  | l::f,p,hA,i,0,x,y,h1,h2,hij=>by omega
end Go.Step
