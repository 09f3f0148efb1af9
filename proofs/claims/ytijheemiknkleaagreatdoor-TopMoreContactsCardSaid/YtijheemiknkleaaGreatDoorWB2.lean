/- Texts of this proof, one after the other; no conditions. -/
import Derived.Laws.StructEq
import Derived.ProofKit
import Derived.Deep.Slices
import Derived.Lib.SmallJoins
import Derived.Test.YtijheemiknkleaaGreatDoorProg
import Derived.Test.YtijheemiknkleaaGreatDoorWB1
set_option linter.all false
/- Cuts of slices, wherever these lie; results that are kept in memory. No conditions. -/
namespace Go.Eng
variable {C : Cx} {D : List Deferred} {R H : List PH} {L : Env} {K : List It}
def cutP (a : Option Addr) (c i s : Nat) : Option Addr := if c = i then a else a.map (·.add (i * s))
section
variable {dst : Option Tmp} {ty : TypeId} {pos : String} {aft : Array Edge} {g : Option (Nat × Bool)}
variable {t e : TypeId} {x y z : Operand} {a : Option Addr} {n c s : Nat} {k k2 : IntKind} {i j : Nat}
theorem FF (h : evalE L x = some (.slice a n c)) (hy : evalE L y = some (.int k (i : Int))) (ht : elemP C.P t = some e) (hs : szP C.P e = some s) (h1 : i ≤ c) :
    Quiet C R H L ⟨dst, .slice t x none (some y) none, ty, pos, aft, g⟩ (.slice (cutP a c 0 s) i c) :=
  ⟨by intro c; simp, fun ac w hx _ => by
    have e1 := hx x (by simp [Op.operands]) _ h
    have e2 := hx y (by simp [Op.operands]) _ hy
    simp [execOp, e1, e2, Instr.sliceAt, run_underlying (und_elem ht), Instr.slice, Instr.sliceBounds, Instr.sliceBound, asIntOf, run_sizeOf hs, h1, cutP]⟩
theorem FG (h : evalE L x = some (.slice a n c)) (hy : evalE L y = some (.int k (i : Int))) (ht : elemP C.P t = some e) (hs : szP C.P e = some s) (h1 : i ≤ n) :
    Quiet C R H L ⟨dst, .slice t x (some y) none none, ty, pos, aft, g⟩ (.slice (cutP a c i s) (n - i) (c - i)) :=
  ⟨by intro c; simp, fun ac w hx _ => by
    have e1 := hx x (by simp [Op.operands]) _ h
    have e2 := hx y (by simp [Op.operands]) _ hy
    simp [execOp, e1, e2, Instr.sliceAt, run_underlying (und_elem ht), Instr.slice, Instr.sliceBounds, Instr.sliceBound, asIntOf, run_sizeOf hs, h1, cutP]⟩
end
def CapOK (v : Value) : Prop := ∃ p n c, v = .slice p n c ∧ n ≤ c
theorem CapOK.le {p : Option Addr} {n c : Nat} (h : CapOK (.slice p n c)) : n ≤ c := by
  obtain ⟨p', n', c', e, h⟩ := h
  simp only [Value.slice.injEq] at e
  obtain ⟨_, rfl, rfl⟩ := e
  exact h
theorem OwnS.capOK {e : TypeId} {s n : Nat} {v : Value} {xs : List Value} {σ : PH} (h : OwnS e s v n xs σ) : CapOK v := by
  obtain ⟨_, ⟨rfl, rfl, _⟩ | ⟨b, cap, cur, rfl, _, h1, _⟩⟩ := h
  · exact ⟨_, _, _, rfl, Nat.le_refl _⟩
  · exact ⟨_, _, _, rfl, h1⟩
theorem addr_add (b o m : Nat) : (⟨b, o, none⟩ : Addr).add m = ⟨b, o + m, none⟩ := Addr.add_lit ..
theorem flat_take {α : Type} {enc : α → List Value} {s : Nat} (he : ∀ x, (enc x).length = s) : ∀ (l : List α) (i : Nat), (l.take i).flatMap enc = (l.flatMap enc).take (i * s)
  | l, 0 => by simp
  | [], i + 1 => by simp
  | x :: l, i + 1 => by
    rw [List.take_succ_cons, List.flatMap_cons, flat_take he l i, List.flatMap_cons, List.take_append, List.take_of_length_le (l := enc x) (by rw [he, Nat.add_mul]; omega), he]
    congr 2
    rw [Nat.add_mul]; omega
end Go.Eng
/- What grows a slice: zeros appended, any slice appended, a slice's own end appended to its beginning; cells cleared. No conditions. -/
namespace Go.Eng
variable {C : Cx} {D : List Deferred} {R H : List PH} {L : Env} {K : List It}
variable {dst : Option Tmp} {ty : TypeId} {pos : String} {aft : Array Edge} {g : Option (Nat × Bool)}
theorem OwnS.room {e : TypeId} {s b cap : Nat} {cur : Array Value} (h1 : cap ≤ maxLen) (h2 : cur.size = cap * s) : OwnS e s (.slice (some ⟨b, 0, none⟩) 0 cap) 0 [] (sng b (.cells cur e (0, 0))) :=
  ⟨by simp, .inr ⟨b, cap, cur, rfl, rfl, Nat.zero_le _, h1, h2, by simp⟩⟩
theorem cutP_zero (b cap s : Nat) : cutP (some ⟨b, 0, none⟩) cap 0 s = some ⟨b, 0, none⟩ := by
  unfold cutP
  split
  · rfl
  · simp [addr_add]
theorem EJ {x y : Operand} {t e : TypeId} {s by_ : Nat} {z : Value} {v w0 : Value} {n m : Nat} {xs news : List Value} {ρ σ : PH} {H' : List PH}
    (hx : evalE L x = some v) (hy : evalE L y = some w0) (ht : elemP C.P t = some e) (hs : szP C.P e = some s) (hz : zeroP C.P e = some z) (hb : bytesP C.P e = some by_)
    (hzs : z.cells.size = s) (hown : OwnS e s v n xs ρ) (htk : Take ρ H H') (hw : SlAt σ s w0 m news) (hc : ∀ b o, RdN σ b o news → Cells C.N R H' b o news) (h1 : ∀ u ∈ news, u.oneCell' = true) (hmax : n + m ≤ maxLen) (hby : (n + m) * by_ ≤ 140737488355328) :
    Loud C R H L ⟨dst, .call ⟨.builtin .append, #[x, y], #[t, t]⟩, ty, pos, aft, g⟩ (fun u H2 => ∃ ρ', OwnS e s u (n + m) (xs ++ news) ρ' ∧ H2 = ρ' :: H') := by
  rcases Nat.eq_zero_or_pos m with h0 | h0
  · subst h0
    have hnews : news = [] := List.eq_nil_of_length_eq_zero (by have := hw.1; simpa using this)
    subst hnews
    obtain ⟨p, c2, rfl⟩ := hw.cap
    obtain ⟨i, hi, rfl, hiz, rfl⟩ := info_of hs hz hb
    have htu := und_elem ht
    refine ⟨fun a w hxx hsat next Q hnx => ?_⟩
    have e1 := hxx x (by simp [Op.operands, Call.operands]) _ hx
    have e2 := hxx y (by simp [Op.operands, Call.operands]) _ hy
    have hf : (Builtin.firstCells i.size 0 (.slice p 0 c2)).run C.P w = .ok #[] w := by
      cases p with
      | none => simp [Builtin.firstCells]
      | some ad => exact run_firstCells_some (P := C.P) w i.size 0 ad 0 c2 [] (by simp) (by simp)
    have hr : (Builtin.append_ #[t, t] ty #[v, .slice p 0 c2]).run C.P w = .ok v w := by
      obtain ⟨_, ⟨rfl, rfl, _⟩ | ⟨b, cap, cur, rfl, _, hle, _⟩⟩ := hown
      · simp [Builtin.append_, run_underlying htu, sizeOf, typeInfo, hi, Builtin.lenOf, hf]
      · simp [Builtin.append_, run_underlying htu, sizeOf, typeInfo, hi, Builtin.lenOf, hle, hf, storeCells]
    refine wpIn_value (by intro c; simp) ?_ (hnx v _ w ⟨ρ, by simpa using hown, rfl⟩ (hsat.take htk))
    simp [execOp, resolve, e1, e2, invoke, builtin, hr]
  · obtain ⟨b2, o2, c2, rfl, hr⟩ := hw.some h0
    exact B5 hx hy ht hs hz hb hzs hown htk (hc b2 o2 (fun j v hv => hr j v hv)) hw.1 h1 h0 hmax hby
end Go.Eng
/- Truth values and structs of numbers compared. No conditions. -/
namespace Go.Eng
variable {C : Cx} {D : List Deferred} {R H : List PH} {L : Env} {K : List It}
section
variable {dst : Option Tmp} {ty : TypeId} {pos : String} {aft : Array Edge} {g : Option (Nat × Bool)}
variable {t yT : TypeId} {x y : Operand}
def fldI (P : Program) (k : Nat) (f : Field) : Bool := f.name != "_" && f.offset == k && (match P.underlying f.type with | some (.int .i64) => true | _ => false)
def fldsI (P : Program) : Nat → List Field → Bool
  | _, [] => true
  | k, f :: fs => fldI P k f && fldsI P (k + 1) fs
def intsP (P : Program) (t : TypeId) (n : Nat) : Bool := match P.underlying t with
  | some (.struct fs) => fs.size == n && fldsI P 0 fs.toList
  | _ => false
theorem eqFields_ints {P : Program} (w : World) (d : Nat) (l m : List Int) : ∀ (fs : List Field) (k : Nat), fldsI P k fs = true → k + fs.length = l.length → l.length = m.length →
    (Op.eqFields (d + 1) (l.map int).toArray (m.map int).toArray fs).run P w = .ok (decide (l.drop k = m.drop k)) w
  | [], k, _, h, h2 => by
    rw [List.drop_of_length_le (by simp at h; omega), List.drop_of_length_le (by simp at h; omega)]
    simp [Op.eqFields]
  | f :: fs, k, hf, h, h2 => by
    simp only [fldsI, fldI, Bool.and_eq_true, bne_iff_ne, ne_eq, beq_iff_eq] at hf
    obtain ⟨⟨⟨h3, h4⟩, h5⟩, h6⟩ := hf
    have hu : P.underlying f.type = some (.int .i64) := by
      split at h5
      · assumption
      · simp at h5
    have ih := eqFields_ints w d l m fs (k + 1) h6 (by simp at h; omega) h2
    have hk : k < l.length := by simp at h; omega
    have hk2 : k < m.length := by omega
    have hp : ∀ (q : List Int) (hq : k < q.length), (part f.type (q.map int).toArray f.offset).run P w = .ok (int q[k]) w := fun q hq => by
      have hag : aggP P f.type = some false := by simp [aggP, hu]
      simp [part, run_isAgg hag, h4, hq]
    have hd : decide (l.drop k = m.drop k) = (decide (l[k] = m[k]) && decide (l.drop (k + 1) = m.drop (k + 1))) := by
      rw [List.drop_eq_getElem_cons hk, List.drop_eq_getElem_cons hk2, Bool.eq_iff_iff]
      simp only [List.cons.injEq, decide_eq_true_eq, Bool.and_eq_true]
    rw [hd]
    have he := run_equalIn_int (P := P) w d f.type .i64 .i64 l[k] m[k] hu
    simp only [Op.eqFields, h3, not_false_eq_true, if_true, Sem.run_bind, hp l hk, hp m hk2, Result.andThen_ok, he, ne_eq]
    by_cases hkm : l[k] = m[k]
    · simp only [hkm, beq_self_eq_true, Bool.not_true, Bool.false_eq_true, if_false, ih, decide_true, Bool.true_and]
    · have : (l[k] == m[k]) = false := by simpa using hkm
      simp only [this, hkm, Bool.not_false, if_true, Sem.run_pure, decide_false, Bool.false_and]
theorem intsP_of {P : Program} {n : Nat} (h : intsP P t n = true) : ∃ fs : Array Field, P.underlying t = some (.struct fs) ∧ fs.size = n ∧ fldsI P 0 fs.toList = true := by
  unfold intsP at h
  split at h
  · rename_i fs hu
    simp only [Bool.and_eq_true, beq_iff_eq] at h
    exact ⟨fs, hu, h.1, h.2⟩
  · simp at h
theorem run_eqInts {P : Program} (w : World) {l m : List Int} {n : Nat} (hi : intsP P t n = true) (hp : P.stoodInHeld t = false) (hl : l.length = n) (hm : m.length = n) : (Op.equalIn 10000 t (.agg (l.map int).toArray) (.agg (m.map int).toArray)).run P w = .ok (decide (l = m)) w := by
  obtain ⟨fs, hu, hs, hf⟩ := intsP_of hi
  have hfo : P.fieldsOf t = fs := by simp [Program.fieldsOf, hu]
  have h1 := run_equalIn_struct (P := P) w 9999 t (l.map int).toArray (m.map int).toArray (by rw [hfo]; exact hu) hp
  have h2 := eqFields_ints (P := P) w 9998 l m fs.toList 0 hf (by simp [hs, hl]) (by omega)
  rw [hfo] at h1
  simp only [Nat.reduceAdd] at h1 h2
  rw [h1, h2]; simp
theorem q_eqS (l m : List Int) {n : Nat} (h1 : evalE L x = some (.agg (l.map int).toArray)) (h2 : evalE L y = some (.agg (m.map int).toArray)) (hi : intsP C.P t n = true) (hp : C.P.stoodInHeld t = false) (hg : C.P.eqGuardType C.P.depth t = false) (hl : l.length = n) (hm : m.length = n) :
    Quiet C R H L ⟨dst, .binOp .eql t x y yT, ty, pos, aft, g⟩ (.bool (decide (l = m))) :=
  ⟨by intro c; simp, fun ac w hx _ => by
    have e1 := hx x (by simp [Op.operands]) _ h1
    have e2 := hx y (by simp [Op.operands]) _ h2
    have h3 := run_eql_struct (P := C.P) w t (l.map int).toArray (m.map int).toArray
    rw [run_eqInts w hi hp hl hm] at h3
    have h4 := run_eqGuard_agg (P := C.P) w .eql t x y (l.map int).toArray (m.map int).toArray hg
    simp [execOp, e1, e2, h3, h4]⟩
end
end Go.Eng
/- From a function's contract to a given statement: what the arguments read as, what the call leaves as it was. No conditions. -/
namespace Go.Eng
open Go.ChangeShapes Go.WideShapes Go.RowKit
def heapPH (w : World) : PH := fun b => w.heap[b]?
theorem sat_heap (w : World) : Sat (Bs.of w) [heapPH w] [] w :=
  ⟨⟨Nat.le_refl _, rfl, rfl, rfl, Nat.le_refl _⟩, by intro ρ hρ; simp at hρ; subst hρ; exact fun b o h => h, by simp, List.Pairwise.nil, by simp⟩
theorem rdc_heap {w : World} {b o : Nat} {v : Value} (h : w.cell? ⟨b, o, none⟩ = some v) : rdc (heapPH w) b o = some v := by
  unfold World.cell? at h
  unfold rdc heapPH
  cases e : w.heap[b]? with
  | none => simp [e] at h
  | some ob => cases ob <;> simp_all
theorem cell_spot {w : World} {a : Addr} {v : Value} (h : w.cell? a = some v) : a.spot = none := by
  unfold World.cell? at h
  split at h
  · split at h
    · simp at h
    · rename_i hs; simpa using hs
  · simp at h
theorem law_calls {P : Program} {f : FuncId} {fn : Func} {c : Code} {args : List Value} {W : World} (hf : P.funcs[f]? = some fn) (hb : fn.body = some c) (hname : (fn.name == "runtime.NumGoroutine") = false)
    (hs : Ans P (fv f) args [heapPH W] (fun v => v = .bool true)) : Calls P f args.toArray W (fun e W' => e = .returned (.bool true) ∧ Below W.heap.size W W') := by
  have h := hs (Bs.of W) W (sat_heap W)
  unfold CallsV at h
  have hrun : ((do let d ← Deferred.ofValue (fv f) args.toArray; invoke d.target d.args : Sem Next).run P W) = .ok (.enter f args.toArray) W := by
    have hname' : ¬ fn.name = "runtime.NumGoroutine" := by simpa using hname
    simp [Deferred.ofValue, invoke, callFunc, program, Sem.run, bind, Sem.bind, pure, hf, hb, hname']
  rw [hrun] at h
  refine callsIn_wide.1 (CallsIn.mono h ?_)
  rintro e W' ⟨v, rfl, H', ⟨rfl, rfl⟩, hu⟩
  exact ⟨rfl, hu.size.2.1, hu.size.2.2.2.1, hu.size.2.2.1, hu.size.1, fun k hk => hu.keep k hk (by simp)⟩
def RdT (P : Program) (W : World) (t : TypeId) (cs : List Value) : Prop := ∃ (H : Type) (enc : TypeId × Value → H) (fuel : Nat) (x : DataW H × List MemPlace), DataW.trod enc P W 0 (fun _ => true) true fuel t cs = some x
section
variable {P : Program} {W : World} {t : TypeId} {cs : List Value}
theorem RdT.of {H : Type} {enc : TypeId × Value → H} {v : Value} {d : DataW H} {p : List MemPlace} (h : DataW.Trod enc P W 0 (fun _ => true) true t v d p) : RdT P W t v.cells.toList := by
  obtain ⟨fuel, hf⟩ := h
  exact ⟨H, enc, fuel, _, hf⟩
theorem RdT.num {k : IntKind} (ht : P.underlying t = some (.int k)) (h : RdT P W t cs) : ∃ n, cs = [.int k n] ∧ (Lit.int k n).wf = true := by
  obtain ⟨H, enc, fuel, x, h⟩ := h
  obtain ⟨n, h1, _, h2⟩ := DataW.trod_int ht h
  exact ⟨n, h1, h2⟩
theorem wf_i64 {n : Int} (h : (Lit.int .i64 n).wf = true) : In64 n := by
  simp only [Lit.wf, Bool.and_eq_true, decide_eq_true_eq] at h
  exact ⟨h.1, h.2⟩
theorem RdT.i64 (ht : P.underlying t = some (.int .i64)) (h : RdT P W t cs) : ∃ n, cs = [int n] ∧ In64 n := by
  obtain ⟨n, h1, h2⟩ := h.num ht
  exact ⟨n, h1, wf_i64 h2⟩
theorem RdT.bool (ht : P.underlying t = some .bool) (h : RdT P W t cs) : ∃ b, cs = [.bool b] := by
  obtain ⟨H, enc, fuel, x, h⟩ := h
  cases fuel with
  | zero => simp [DataW.trod] at h
  | succ n =>
    unfold DataW.trod at h
    rw [ht] at h
    split at h <;> simp_all
theorem RdT.struct {fs : Array Field} (ht : P.underlying t = some (.struct fs)) (h : RdT P W t cs) : cs.length = P.cellsOf t ∧ ∀ (i : Nat) (f : Field), fs[i]? = some f → RdT P W f.type ((cs.drop f.offset).take (P.cellsOf f.type)) := by
  obtain ⟨H, enc, fuel, x, h⟩ := h
  obtain ⟨xs, n, _, _, hl, hlen, hf⟩ := DataW.trod_struct ht h
  refine ⟨hl, fun i f hi => ?_⟩
  have hif : i < xs.length := by rw [hlen]; exact (Array.getElem?_eq_some_iff.1 hi).1
  have := hf i f hi
  rw [List.getElem?_eq_getElem hif] at this
  exact ⟨H, enc, n, _, this⟩
theorem RdT.fld1 {fs : Array Field} (ht : P.underlying t = some (.struct fs)) (h : RdT P W t cs) (i : Nat) {f : Field} (hi : fs[i]? = some f) {ty : TypeId} {o : Nat} {c : Value} (hty : f.type = ty) (ho : f.offset = o) (hc : P.cellsOf ty = 1) (hcs : cs[o]? = some c) : RdT P W ty [c] := by
  have := (h.struct ht).2 i f hi
  rw [hty, ho, hc] at this
  obtain ⟨hlt, he⟩ := List.getElem?_eq_some_iff.1 hcs
  rw [List.drop_eq_getElem_cons hlt, he] at this
  simpa using this
theorem choose_list {α : Type} (q : Nat → α → Prop) : ∀ n, (∀ i, i < n → ∃ a, q i a) → ∃ l : List α, l.length = n ∧ ∀ i a, l[i]? = some a → q i a
  | 0, _ => ⟨[], rfl, by simp⟩
  | n + 1, h => by
    obtain ⟨l, hl, hq⟩ := choose_list q n (fun i hi => h i (by omega))
    obtain ⟨a, ha⟩ := h n (by omega)
    refine ⟨l ++ [a], by simp [hl], fun i b hb => ?_⟩
    by_cases e : i < n
    · rw [List.getElem?_append_left (by omega)] at hb; exact hq i b hb
    · rw [List.getElem?_append_right (by omega)] at hb
      have hi : i - l.length = 0 := by
        have := (List.getElem?_eq_some_iff.1 hb).1
        simp at this; omega
      rw [hi] at hb
      simp at hb
      subst hb
      have : i = n := by omega
      subst this; exact ha
theorem RdT.slice {e : TypeId} {s : Nat} (ht : P.underlying t = some (.slice e)) (hs : P.cellsOf e = s) (h0 : 0 < s) (h : RdT P W t cs) :
    ∃ v p c, cs = [v] ∧ ∃ els : List (List Value), v = .slice p els.length c ∧ els.length ≤ maxLen ∧ ∀ i x, els[i]? = some x → x.length = s ∧ RdT P W e x ∧ ∃ b o, p = some ⟨b, o, none⟩ ∧ RdN (heapPH W) b (o + i * s) x := by
  obtain ⟨H, enc, fuel, x, h⟩ := h
  rcases Deep.open_slice ht h with ⟨rfl, _⟩ | ⟨a, len, cap, m, n, D, Pl, rfl, _, hlc, hcm, hm, _, hx⟩
  · exact ⟨_, none, 0, rfl, [], rfl, by simp, by simp⟩
  · have hm' : m = cap := by rw [hm]; simp
    obtain ⟨els, hl, hq⟩ := choose_list (fun i cs' => W.cells? 0 (a.add (i * P.cellsOf e)) (P.cellsOf e) = some cs' ∧ DataW.trod enc P W 0 (fun _ => true) true n e cs' = some (D i, Pl i)) len (fun i hi => hx i (by omega))
    refine ⟨_, some a, cap, rfl, els, by rw [hl], by omega, fun i y hy => ?_⟩
    obtain ⟨q1, q2⟩ := hq i y hy
    obtain ⟨_, k1, k2⟩ := World.cells?_some q1
    rw [hs] at k1 k2
    have hsp : a.spot = none := by
      have hi : i < els.length := (List.getElem?_eq_some_iff.1 hy).1
      obtain ⟨r1, _⟩ := hq 0 els[0] (List.getElem?_eq_getElem (by omega))
      obtain ⟨_, g1, g2⟩ := World.cells?_some r1
      rw [hs] at g1 g2
      have hv0 : els[0][0]? = some (els[0][0]'(by omega)) := List.getElem?_eq_getElem (by omega)
      have := cell_spot ((g2 0 h0).trans hv0)
      simpa [Addr.add] using this
    obtain ⟨b, o, sp⟩ := a
    simp only at hsp
    subst hsp
    have hadd : ∀ m : Nat, (⟨b, o, none⟩ : Addr).add m = ⟨b, o + m, none⟩ := fun m => by
      unfold Addr.add
      split
      · rename_i e; rw [e]; rfl
      · rfl
    have hadd2 : ∀ m k : Nat, (⟨b, o + m, none⟩ : Addr).add k = ⟨b, o + m + k, none⟩ := fun m k => by
      unfold Addr.add
      split
      · rename_i e; rw [e]; rfl
      · rfl
    refine ⟨k1, ⟨H, enc, n, _, q2⟩, b, o, rfl, fun j v hv => ?_⟩
    have hj : j < s := by
      have := (List.getElem?_eq_some_iff.1 hv).1
      omega
    have := (k2 j hj).trans hv
    rw [hadd, hadd2] at this
    exact rdc_heap this
theorem RdT.sliceE {α : Type} {enc : α → List Value} {Q : α → Prop} {e : TypeId} {s : Nat} (ht : P.underlying t = some (.slice e)) (hs : P.cellsOf e = s) (h0 : 0 < s) (hel : ∀ x, RdT P W e x → ∃ a, x = enc a ∧ Q a) (h : RdT P W t cs) :
    ∃ v, cs = [v] ∧ ∃ l : List α, SlE enc s (heapPH W) v l ∧ (∀ a ∈ l, Q a) ∧ l.length ≤ maxLen := by
  obtain ⟨v, p, c, rfl, els, rfl, hle, hx⟩ := h.slice ht hs h0
  obtain ⟨l, hl, hq⟩ := choose_list (fun i (a : α) => ∀ x, els[i]? = some x → x = enc a ∧ Q a) els.length (fun i hi => by
    obtain ⟨a, h1, h2⟩ := hel els[i] (hx i _ (List.getElem?_eq_getElem hi)).2.1
    exact ⟨a, fun x hx => by rw [List.getElem?_eq_getElem hi] at hx; obtain rfl := Option.some.inj hx; exact ⟨h1, h2⟩⟩)
  have hlen : ∀ i a, l[i]? = some a → (enc a).length = s ∧ Q a ∧ ∃ b o, p = some ⟨b, o, none⟩ ∧ RdN (heapPH W) b (o + i * s) (enc a) := fun i a ha => by
    have hi : i < els.length := by rw [← hl]; exact (List.getElem?_eq_some_iff.1 ha).1
    obtain ⟨e1, e2⟩ := hq i a ha _ (List.getElem?_eq_getElem hi)
    obtain ⟨k1, _, k3⟩ := hx i _ (List.getElem?_eq_getElem hi)
    rw [e1] at k1 k3
    exact ⟨k1, e2, k3⟩
  refine ⟨_, rfl, l, ⟨?_, ?_⟩, fun a ha => ?_, by omega⟩
  · clear hq hx hle
    have : ∀ (l : List α), (∀ a ∈ l, (enc a).length = s) → (l.flatMap enc).length = l.length * s := by
      intro l
      induction l with
      | nil => simp
      | cons a l ih =>
        intro hall
        rw [List.flatMap_cons, List.length_append, ih (fun b hb => hall b (by simp [hb])), hall a (by simp), List.length_cons, Nat.add_mul]; omega
    exact this l (fun a ha => by
      obtain ⟨i, hi, e⟩ := List.getElem_of_mem ha
      exact (hlen i a (by rw [List.getElem?_eq_getElem hi, e])).1)
  · rcases Nat.eq_zero_or_pos l.length with hz | hz
    · left; refine ⟨hz, p, c, by rw [← hl, hz]⟩
    · right
      obtain ⟨_, _, b, o, rfl, _⟩ := hlen 0 l[0] (List.getElem?_eq_getElem hz)
      refine ⟨b, o, c, by rw [hl], fun j u hu => ?_⟩
      have hfl : ∀ (l' : List α) (k : Nat), (∀ i a, l'[i]? = some a → (enc a).length = s ∧ RdN (heapPH W) b (o + (k + i) * s) (enc a)) → ∀ j u, (l'.flatMap enc)[j]? = some u → rdc (heapPH W) b (o + k * s + j) = some u := by
        intro l'
        induction l' with
        | nil => intro k _ j u hu; simp at hu
        | cons a l' ih =>
          intro k hall j u hu
          have h1 := hall 0 a rfl
          rw [List.flatMap_cons] at hu
          by_cases hj : j < (enc a).length
          · rw [List.getElem?_append_left hj] at hu
            have := h1.2 j u hu
            rwa [Nat.add_zero] at this
          · rw [List.getElem?_append_right (by omega)] at hu
            have := ih (k + 1) (fun i b' hb => by
              have := hall (i + 1) b' (by simpa using hb)
              rwa [show k + (i + 1) = k + 1 + i from by omega] at this) (j - (enc a).length) u hu
            rw [h1.1] at this hj
            rwa [show o + (k + 1) * s + (j - s) = o + k * s + j from by rw [Nat.add_mul]; omega] at this
      have := hfl l 0 (fun i a ha => by
        obtain ⟨k1, _, b', o', e, k3⟩ := hlen i a ha
        simp only [Option.some.injEq, Addr.mk.injEq, and_true] at e
        obtain ⟨rfl, rfl⟩ := e
        rw [Nat.zero_add]; exact ⟨k1, k3⟩) j u hu
      rwa [Nat.zero_mul, Nat.add_zero] at this
  · obtain ⟨i, hi, e⟩ := List.getElem_of_mem ha
    exact (hlen i a (by rw [List.getElem?_eq_getElem hi, e])).2.1
theorem RdT.ints {e : TypeId} (ht : P.underlying t = some (.slice e)) (he : P.underlying e = some (.int .i64)) (hs : P.cellsOf e = 1) (h : RdT P W t cs) :
    ∃ v, cs = [v] ∧ ∃ l : List Int, IntsAt (heapPH W) v l ∧ (∀ a ∈ l, In64 a) ∧ l.length ≤ maxLen :=
  h.sliceE ht hs (by omega) (fun x hx => hx.i64 he)
end
theorem okWide_agg {P : Program} {w : World} {r : Reach} {base : Nat} {t : TypeId} {v : Value} {fs : Array Field} (ht : P.underlying t = some (.struct fs)) (h : Value.okWide P w r base t v) : ∃ cs, v = .agg cs := by
  simp only [Value.okWide, ht] at h
  obtain ⟨cs, h1, _⟩ := h
  exact ⟨cs, h1⟩
end Go.Eng
/- A beginning of a row of cells, told apart from the whole row. No conditions. -/
namespace Go.Eng
variable {C : Cx} {D : List Deferred} {R H : List PH} {L : Env} {K : List It}
structure RdP (ρ : PH) (b o : Nat) (vs : List Value) : Prop where
  rd : RdN ρ b o vs
theorem cellsP {N : Bs} {σ : PH} {b o : Nat} {vs : List Value} (h : RdP σ b o vs) (m : Mem σ R) : Cells N R H b o vs := cellsR h.rd m
theorem rdP_sng {b k : Nat} {xs vs : List Value} {t : TypeId} {fr : Nat × Nat} (h : (xs.drop k).take vs.length = vs) : RdP (sng b (.cells xs.toArray t fr)) b k vs := ⟨fun j v hv => by
  rw [rdc_sng]
  rw [← h] at hv
  have hlt := (List.getElem?_eq_some_iff.1 hv).1
  rw [List.length_take] at hlt
  rw [List.getElem?_take_of_lt (by omega), List.getElem?_drop] at hv
  simpa using hv⟩
end Go.Eng
/- Each step of a walk as one theorem whose side goals are filled by themselves. No conditions. Written by mkz.py. -/
namespace Go.Eng
variable {C : Cx} {D : List Deferred} {R H Hf : List PH} {L : Env} {K : List It} {ps ls : List Nat}
theorem rsubZ {R0 R : List PH} (h : ∀ ρ ∈ R0, ρ ∈ R := by (repeat (first | exact rs_nil | (refine rs_cons ?_ ?_; (focus ((repeat (first | exact .here | apply Mem.there | apply Take.there)); first | done | fail))) | exact fun ρ hρ => hρ | (intro ρ hρ; repeat (first | exact hρ | refine List.mem_cons_of_mem _ ?_)))); first | done | fail) : ∀ ρ ∈ R0, ρ ∈ R := h
theorem envZ {k : Nat} {vs cap : List Value} {L : Env} (h : EnvA k vs cap L := by (repeat (first | exact EnvA.nil EnvI.nil | apply EnvA.cons | apply EnvA.nil | exact EnvI.nil | apply EnvI.cons)); first | done | fail) : EnvA k vs cap L := h
theorem takesZ {H T H' : List PH} (h : Takes H T H' := by (repeat (first | exact Takes.nil | (apply Takes.cons; exact (by (repeat (first | exact .here | apply Take.there)); first | done | fail)))); first | done | fail) : Takes H T H' := h
theorem putiZ {ps : List Nat} {vs : List Value} {L L' : Env} (h : PutI ps vs L L' := by (repeat (first | exact PutI.nil | apply PutI.cons)); first | done | fail) : PutI ps vs L L' := h
theorem selZ {H H' : List PH} (h : Sel H H' := by (repeat (first | exact Sel.nil | (apply Sel.cons; (focus ((repeat (first | exact .here | apply Mem.there | apply Take.there)); first | done | fail))))); first | done | fail) : Sel H H' := h
theorem covZ {L L' : Env} (h : Cover L L' := by (repeat (first | exact trivial | refine And.intro rfl ?_)); first | done | fail) : Cover L L' := h
theorem pickZ {L L' : Env} {ks : List Nat} (h : Pick L ks L' := by (repeat (first | exact Pick.nil | apply Pick.cons rfl)); first | done | fail) : Pick L ks L' := h
theorem rdZ {R1 R H : List PH} (h : RdOK R1 R H := by (repeat (first | exact RdOK.nil | (refine RdOK.consR ?_ ?_; (focus ((repeat (first | exact .here | apply Mem.there | apply Take.there)); first | done | fail))) | (refine RdOK.consH ?_ ?_; (focus ((repeat (first | exact .here | apply Mem.there | apply Take.there)); first | done | fail))) | exact (fun τ hτ => .inl (by simp [hτ])))); first | done | fail) : RdOK R1 R H := h
theorem memZ {ρ : PH} {H : List PH} (h : Mem ρ H := by (repeat (first | exact .here | apply Mem.there)); first | done | fail) : Mem ρ H := h
theorem takeZ {ρ : PH} {H H' : List PH} (h : Take ρ H H' := by (repeat (first | exact .here | apply Take.there)); first | done | fail) : Take ρ H H' := h
theorem AC {all : Array Oper} {o : Oper} {rest : List Oper} {d : Nat} {v : Value} (h : JK C D R H ((d, v) :: L) (.ops all rest :: K)) (hq : Quiet C R H L o v := by (apply D9; exact rfl)) (hg : wantE all L o = some true := by exact rfl) (hd : o.dst = some d := by exact rfl) (hM : Nat.blt d C.M = true := by exact rfl) : JK C D R H L (.ops all (o :: rest) :: K) := CD hq hg hd hM h
theorem AS {all : Array Oper} {done : List Nat} {i d : Nat} {rest : Pl} {o : Oper} {v : Value} (h : DJ C D R Hf H ((d, v) :: L) all (i :: done) ps ls rest K) (ho : all[i]? = some o := by exact rfl) (hq : Quiet C R H L o v := by (apply D9; exact rfl)) (hg : wantE all L o = some true := by exact rfl) (hd : o.dst = some d := by exact rfl) (hM : Nat.blt d C.M = true := by exact rfl) (hin : (ps.all (done.contains ·)) = true := by exact rfl) : DJ C D R Hf H L all done ps ls (.q i rest) K := CQ ho hq hg hd hM hin h
theorem FJ {all : Array Oper} {done : List Nat} {i d : Nat} {rest : Pl} {o : Oper} {v : Value} (h : DJ C D R Hf H ((d, v) :: L) all (i :: done) (i :: ps) ls rest K) (ho : all[i]? = some o := by exact rfl) (hq : Quiet C R Hf L o v := by (apply D9; exact rfl)) (hg : wantE all L o = some true := by exact rfl) (hd : o.dst = some d := by exact rfl) (hM : Nat.blt d C.M = true := by exact rfl) : DJ C D R Hf H L all done ps ls (.p i rest) K := dj_p ho hq hg hd hM h
theorem AD {all : Array Oper} {o : Oper} {rest : List Oper} {d : Nat} {v : Value} (h : JK C D R H ((d, v) :: L) (.ops all rest :: K)) (hq : Quiet C R H L o v := by (apply DX; exact rfl)) (hg : wantE all L o = some true := by exact rfl) (hd : o.dst = some d := by exact rfl) (hM : Nat.blt d C.M = true := by exact rfl) : JK C D R H L (.ops all (o :: rest) :: K) := CD hq hg hd hM h
theorem B7 {all : Array Oper} {done : List Nat} {i d : Nat} {rest : Pl} {o : Oper} {v : Value} (h : DJ C D R Hf H ((d, v) :: L) all (i :: done) ps ls rest K) (ho : all[i]? = some o := by exact rfl) (hq : Quiet C R H L o v := by (apply DX; exact rfl)) (hg : wantE all L o = some true := by exact rfl) (hd : o.dst = some d := by exact rfl) (hM : Nat.blt d C.M = true := by exact rfl) (hin : (ps.all (done.contains ·)) = true := by exact rfl) : DJ C D R Hf H L all done ps ls (.q i rest) K := CQ ho hq hg hd hM hin h
theorem AX {all : Array Oper} {o : Oper} {rest : List Oper} {d : Nat} {v : Value} (h : JK C D R H ((d, v) :: L) (.ops all rest :: K)) (hq : Quiet C R H L o v := by (apply EB; exact rfl; exact rfl)) (hg : wantE all L o = some true := by exact rfl) (hd : o.dst = some d := by exact rfl) (hM : Nat.blt d C.M = true := by exact rfl) : JK C D R H L (.ops all (o :: rest) :: K) := CD hq hg hd hM h
theorem AF {all : Array Oper} {o : Oper} {rest : List Oper} {d : Nat} {v : Value} (h : JK C D R H ((d, v) :: L) (.ops all rest :: K)) (hq : Quiet C R H L o v := by (apply EC; exact rfl; exact rfl; (first | exact cell_own (by (repeat (first | exact .here | apply Mem.there)); first | done | fail) rfl | exact cellR (by assumption) (by (repeat (first | exact .here | apply Mem.there)); first | done | fail) | exact cellH (by assumption) (by (repeat (first | exact .here | apply Mem.there)); first | done | fail) | exact cell_ints (by (repeat (first | exact .here | apply Mem.there)); first | done | fail) (by omega) | exact cell_bools (by assumption) (by (repeat (first | exact .here | apply Mem.there)); first | done | fail) | exact cell_intsR (by (repeat (first | exact .here | apply Mem.there)); first | done | fail) (by omega) | exact cell_boolsR (by assumption) (by (repeat (first | exact .here | apply Mem.there)); first | done | fail)))) (hg : wantE all L o = some true := by exact rfl) (hd : o.dst = some d := by exact rfl) (hM : Nat.blt d C.M = true := by exact rfl) : JK C D R H L (.ops all (o :: rest) :: K) := CD hq hg hd hM h
theorem AP {all : Array Oper} {done : List Nat} {i d : Nat} {rest : Pl} {o : Oper} {v : Value} (h : DJ C D R Hf H ((d, v) :: L) all (i :: done) ps ls rest K) (ho : all[i]? = some o := by exact rfl) (hq : Quiet C R H L o v := by (apply EC; exact rfl; exact rfl; (first | exact cell_own (by (repeat (first | exact .here | apply Mem.there)); first | done | fail) rfl | exact cellR (by assumption) (by (repeat (first | exact .here | apply Mem.there)); first | done | fail) | exact cellH (by assumption) (by (repeat (first | exact .here | apply Mem.there)); first | done | fail) | exact cell_ints (by (repeat (first | exact .here | apply Mem.there)); first | done | fail) (by omega) | exact cell_bools (by assumption) (by (repeat (first | exact .here | apply Mem.there)); first | done | fail) | exact cell_intsR (by (repeat (first | exact .here | apply Mem.there)); first | done | fail) (by omega) | exact cell_boolsR (by assumption) (by (repeat (first | exact .here | apply Mem.there)); first | done | fail)))) (hg : wantE all L o = some true := by exact rfl) (hd : o.dst = some d := by exact rfl) (hM : Nat.blt d C.M = true := by exact rfl) (hin : (ps.all (done.contains ·)) = true := by exact rfl) : DJ C D R Hf H L all done ps ls (.q i rest) K := CQ ho hq hg hd hM hin h
theorem EL {all : Array Oper} {done : List Nat} {i d : Nat} {rest : Pl} {o : Oper} {v : Value} (h : DJ C D R Hf H ((d, v) :: L) all (i :: done) (i :: ps) ls rest K) (ho : all[i]? = some o := by exact rfl) (hq : Quiet C R Hf L o v := by (apply EC; exact rfl; exact rfl; (first | exact cell_own (by (repeat (first | exact .here | apply Mem.there)); first | done | fail) rfl | exact cellR (by assumption) (by (repeat (first | exact .here | apply Mem.there)); first | done | fail) | exact cellH (by assumption) (by (repeat (first | exact .here | apply Mem.there)); first | done | fail) | exact cell_ints (by (repeat (first | exact .here | apply Mem.there)); first | done | fail) (by omega) | exact cell_bools (by assumption) (by (repeat (first | exact .here | apply Mem.there)); first | done | fail) | exact cell_intsR (by (repeat (first | exact .here | apply Mem.there)); first | done | fail) (by omega) | exact cell_boolsR (by assumption) (by (repeat (first | exact .here | apply Mem.there)); first | done | fail)))) (hg : wantE all L o = some true := by exact rfl) (hd : o.dst = some d := by exact rfl) (hM : Nat.blt d C.M = true := by exact rfl) : DJ C D R Hf H L all done ps ls (.p i rest) K := dj_p ho hq hg hd hM h
theorem AG {all : Array Oper} {o : Oper} {rest : List Oper} {d : Nat} {v : Value} (h : JK C D R H ((d, v) :: L) (.ops all rest :: K)) (hq : Quiet C R H L o v := by (apply ED; exact rfl; exact rfl)) (hg : wantE all L o = some true := by exact rfl) (hd : o.dst = some d := by exact rfl) (hM : Nat.blt d C.M = true := by exact rfl) : JK C D R H L (.ops all (o :: rest) :: K) := CD hq hg hd hM h
theorem AW {all : Array Oper} {done : List Nat} {i d : Nat} {rest : Pl} {o : Oper} {v : Value} (h : DJ C D R Hf H ((d, v) :: L) all (i :: done) ps ls rest K) (ho : all[i]? = some o := by exact rfl) (hq : Quiet C R H L o v := by (apply ED; exact rfl; exact rfl)) (hg : wantE all L o = some true := by exact rfl) (hd : o.dst = some d := by exact rfl) (hM : Nat.blt d C.M = true := by exact rfl) (hin : (ps.all (done.contains ·)) = true := by exact rfl) : DJ C D R Hf H L all done ps ls (.q i rest) K := CQ ho hq hg hd hM hin h
theorem EM {all : Array Oper} {done : List Nat} {i d : Nat} {rest : Pl} {o : Oper} {v : Value} (h : DJ C D R Hf H ((d, v) :: L) all (i :: done) (i :: ps) ls rest K) (ho : all[i]? = some o := by exact rfl) (hq : Quiet C R Hf L o v := by (apply ED; exact rfl; exact rfl)) (hg : wantE all L o = some true := by exact rfl) (hd : o.dst = some d := by exact rfl) (hM : Nat.blt d C.M = true := by exact rfl) : DJ C D R Hf H L all done ps ls (.p i rest) K := dj_p ho hq hg hd hM h
theorem DN {all : Array Oper} {o : Oper} {rest : List Oper} {d : Nat} {v : Value} (h : JK C D R H ((d, v) :: L) (.ops all rest :: K)) (hq : Quiet C R H L o v := by (apply E2; exact rfl; exact rfl)) (hg : wantE all L o = some true := by exact rfl) (hd : o.dst = some d := by exact rfl) (hM : Nat.blt d C.M = true := by exact rfl) : JK C D R H L (.ops all (o :: rest) :: K) := CD hq hg hd hM h
theorem B8 {all : Array Oper} {done : List Nat} {i d : Nat} {rest : Pl} {o : Oper} {v : Value} (h : DJ C D R Hf H ((d, v) :: L) all (i :: done) ps ls rest K) (ho : all[i]? = some o := by exact rfl) (hq : Quiet C R H L o v := by (apply E2; exact rfl; exact rfl)) (hg : wantE all L o = some true := by exact rfl) (hd : o.dst = some d := by exact rfl) (hM : Nat.blt d C.M = true := by exact rfl) (hin : (ps.all (done.contains ·)) = true := by exact rfl) : DJ C D R Hf H L all done ps ls (.q i rest) K := CQ ho hq hg hd hM hin h
theorem CO {all : Array Oper} {o : Oper} {rest : List Oper} {d : Nat} {v : Value} (h : JK C D R H ((d, v) :: L) (.ops all rest :: K)) (hq : Quiet C R H L o v := by (apply EQ; exact rfl; exact rfl)) (hg : wantE all L o = some true := by exact rfl) (hd : o.dst = some d := by exact rfl) (hM : Nat.blt d C.M = true := by exact rfl) : JK C D R H L (.ops all (o :: rest) :: K) := CD hq hg hd hM h
theorem BU {all : Array Oper} {done : List Nat} {i d : Nat} {rest : Pl} {o : Oper} {v : Value} (h : DJ C D R Hf H ((d, v) :: L) all (i :: done) ps ls rest K) (ho : all[i]? = some o := by exact rfl) (hq : Quiet C R H L o v := by (apply EQ; exact rfl; exact rfl)) (hg : wantE all L o = some true := by exact rfl) (hd : o.dst = some d := by exact rfl) (hM : Nat.blt d C.M = true := by exact rfl) (hin : (ps.all (done.contains ·)) = true := by exact rfl) : DJ C D R Hf H L all done ps ls (.q i rest) K := CQ ho hq hg hd hM hin h
theorem B9 {all : Array Oper} {o : Oper} {rest : List Oper} {d : Nat} {v : Value} (h : JK C D R H ((d, v) :: L) (.ops all rest :: K)) (hq : Quiet C R H L o v := by (apply E0; exact rfl; exact rfl; exact rfl; exact rfl; omega)) (hg : wantE all L o = some true := by exact rfl) (hd : o.dst = some d := by exact rfl) (hM : Nat.blt d C.M = true := by exact rfl) : JK C D R H L (.ops all (o :: rest) :: K) := CD hq hg hd hM h
theorem C1 {all : Array Oper} {done : List Nat} {i d : Nat} {rest : Pl} {o : Oper} {v : Value} (h : DJ C D R Hf H ((d, v) :: L) all (i :: done) ps ls rest K) (ho : all[i]? = some o := by exact rfl) (hq : Quiet C R H L o v := by (apply E0; exact rfl; exact rfl; exact rfl; exact rfl; omega)) (hg : wantE all L o = some true := by exact rfl) (hd : o.dst = some d := by exact rfl) (hM : Nat.blt d C.M = true := by exact rfl) (hin : (ps.all (done.contains ·)) = true := by exact rfl) : DJ C D R Hf H L all done ps ls (.q i rest) K := CQ ho hq hg hd hM hin h
theorem A9 {all : Array Oper} {o : Oper} {rest : List Oper} {d : Nat} {v : Value} (h : JK C D R H ((d, v) :: L) (.ops all rest :: K)) (hq : Quiet C R H L o v := by (apply E1; exact rfl; exact rfl; exact rfl; exact rfl; omega)) (hg : wantE all L o = some true := by exact rfl) (hd : o.dst = some d := by exact rfl) (hM : Nat.blt d C.M = true := by exact rfl) : JK C D R H L (.ops all (o :: rest) :: K) := CD hq hg hd hM h
theorem BJ {all : Array Oper} {done : List Nat} {i d : Nat} {rest : Pl} {o : Oper} {v : Value} (h : DJ C D R Hf H ((d, v) :: L) all (i :: done) ps ls rest K) (ho : all[i]? = some o := by exact rfl) (hq : Quiet C R H L o v := by (apply E1; exact rfl; exact rfl; exact rfl; exact rfl; omega)) (hg : wantE all L o = some true := by exact rfl) (hd : o.dst = some d := by exact rfl) (hM : Nat.blt d C.M = true := by exact rfl) (hin : (ps.all (done.contains ·)) = true := by exact rfl) : DJ C D R Hf H L all done ps ls (.q i rest) K := CQ ho hq hg hd hM hin h
theorem AT {all : Array Oper} {o : Oper} {rest : List Oper} {d : Nat} {v : Value} (h : JK C D R H ((d, v) :: L) (.ops all rest :: K)) (hq : Quiet C R H L o v := by (apply DY; exact rfl; exact rfl)) (hg : wantE all L o = some true := by exact rfl) (hd : o.dst = some d := by exact rfl) (hM : Nat.blt d C.M = true := by exact rfl) : JK C D R H L (.ops all (o :: rest) :: K) := CD hq hg hd hM h
theorem BK {all : Array Oper} {done : List Nat} {i d : Nat} {rest : Pl} {o : Oper} {v : Value} (h : DJ C D R Hf H ((d, v) :: L) all (i :: done) ps ls rest K) (ho : all[i]? = some o := by exact rfl) (hq : Quiet C R H L o v := by (apply DY; exact rfl; exact rfl)) (hg : wantE all L o = some true := by exact rfl) (hd : o.dst = some d := by exact rfl) (hM : Nat.blt d C.M = true := by exact rfl) (hin : (ps.all (done.contains ·)) = true := by exact rfl) : DJ C D R Hf H L all done ps ls (.q i rest) K := CQ ho hq hg hd hM hin h
theorem AK {all : Array Oper} {o : Oper} {rest : List Oper} {d : Nat} {v : Value} (h : JK C D R H ((d, v) :: L) (.ops all rest :: K)) (hq : Quiet C R H L o v := by (apply DZ; exact rfl; exact rfl)) (hg : wantE all L o = some true := by exact rfl) (hd : o.dst = some d := by exact rfl) (hM : Nat.blt d C.M = true := by exact rfl) : JK C D R H L (.ops all (o :: rest) :: K) := CD hq hg hd hM h
theorem BB {all : Array Oper} {done : List Nat} {i d : Nat} {rest : Pl} {o : Oper} {v : Value} (h : DJ C D R Hf H ((d, v) :: L) all (i :: done) ps ls rest K) (ho : all[i]? = some o := by exact rfl) (hq : Quiet C R H L o v := by (apply DZ; exact rfl; exact rfl)) (hg : wantE all L o = some true := by exact rfl) (hd : o.dst = some d := by exact rfl) (hM : Nat.blt d C.M = true := by exact rfl) (hin : (ps.all (done.contains ·)) = true := by exact rfl) : DJ C D R Hf H L all done ps ls (.q i rest) K := CQ ho hq hg hd hM hin h
theorem AY {all : Array Oper} {o : Oper} {rest : List Oper} {d : Nat} {v : Value} (h : JK C D R H ((d, v) :: L) (.ops all rest :: K)) (hq : Quiet C R H L o v := by (apply q_len; exact rfl; exact rfl)) (hg : wantE all L o = some true := by exact rfl) (hd : o.dst = some d := by exact rfl) (hM : Nat.blt d C.M = true := by exact rfl) : JK C D R H L (.ops all (o :: rest) :: K) := CD hq hg hd hM h
theorem E4 {all : Array Oper} {done : List Nat} {i d : Nat} {rest : Pl} {o : Oper} {v : Value} (h : DJ C D R Hf H ((d, v) :: L) all (i :: done) ps ls rest K) (ho : all[i]? = some o := by exact rfl) (hq : Quiet C R H L o v := by (apply q_len; exact rfl; exact rfl)) (hg : wantE all L o = some true := by exact rfl) (hd : o.dst = some d := by exact rfl) (hM : Nat.blt d C.M = true := by exact rfl) (hin : (ps.all (done.contains ·)) = true := by exact rfl) : DJ C D R Hf H L all done ps ls (.q i rest) K := CQ ho hq hg hd hM hin h
theorem BZ {all : Array Oper} {o : Oper} {rest : List Oper} {d : Nat} {v : Value} (h : JK C D R H ((d, v) :: L) (.ops all rest :: K)) (hq : Quiet C R H L o v := by (apply q_not; exact rfl)) (hg : wantE all L o = some true := by exact rfl) (hd : o.dst = some d := by exact rfl) (hM : Nat.blt d C.M = true := by exact rfl) : JK C D R H L (.ops all (o :: rest) :: K) := CD hq hg hd hM h
theorem CG {all : Array Oper} {done : List Nat} {i d : Nat} {rest : Pl} {o : Oper} {v : Value} (h : DJ C D R Hf H ((d, v) :: L) all (i :: done) ps ls rest K) (ho : all[i]? = some o := by exact rfl) (hq : Quiet C R H L o v := by (apply q_not; exact rfl)) (hg : wantE all L o = some true := by exact rfl) (hd : o.dst = some d := by exact rfl) (hM : Nat.blt d C.M = true := by exact rfl) (hin : (ps.all (done.contains ·)) = true := by exact rfl) : DJ C D R Hf H L all done ps ls (.q i rest) K := CQ ho hq hg hd hM hin h
theorem BW {all : Array Oper} {o : Oper} {rest : List Oper} {d : Nat} {v : Value} (h : JK C D R H ((d, v) :: L) (.ops all rest :: K)) (hq : Quiet C R H L o v := by (apply CZ; exact rfl)) (hg : wantE all L o = some true := by exact rfl) (hd : o.dst = some d := by exact rfl) (hM : Nat.blt d C.M = true := by exact rfl) : JK C D R H L (.ops all (o :: rest) :: K) := CD hq hg hd hM h
theorem A6 {all : Array Oper} {done : List Nat} {i d : Nat} {rest : Pl} {o : Oper} {v : Value} (h : DJ C D R Hf H ((d, v) :: L) all (i :: done) ps ls rest K) (ho : all[i]? = some o := by exact rfl) (hq : Quiet C R H L o v := by (apply CZ; exact rfl)) (hg : wantE all L o = some true := by exact rfl) (hd : o.dst = some d := by exact rfl) (hM : Nat.blt d C.M = true := by exact rfl) (hin : (ps.all (done.contains ·)) = true := by exact rfl) : DJ C D R Hf H L all done ps ls (.q i rest) K := CQ ho hq hg hd hM hin h
theorem DU {all : Array Oper} {done : List Nat} {i d : Nat} {rest : Pl} {o : Oper} {v : Value} (h : DJ C D R Hf H ((d, v) :: L) all (i :: done) (i :: ps) ls rest K) (ho : all[i]? = some o := by exact rfl) (hq : Quiet C R Hf L o v := by (apply CZ; exact rfl)) (hg : wantE all L o = some true := by exact rfl) (hd : o.dst = some d := by exact rfl) (hM : Nat.blt d C.M = true := by exact rfl) : DJ C D R Hf H L all done ps ls (.p i rest) K := dj_p ho hq hg hd hM h
theorem BD {all : Array Oper} {o : Oper} {rest : List Oper} {d : Nat} {v : Value} (h : JK C D R H ((d, v) :: L) (.ops all rest :: K)) (hq : Quiet C R H L o v := by (apply q_inc; exact rfl; exact rfl; omega)) (hg : wantE all L o = some true := by exact rfl) (hd : o.dst = some d := by exact rfl) (hM : Nat.blt d C.M = true := by exact rfl) : JK C D R H L (.ops all (o :: rest) :: K) := CD hq hg hd hM h
theorem BI {all : Array Oper} {o : Oper} {rest : List Oper} {d : Nat} {v : Value} (h : JK C D R H ((d, v) :: L) (.ops all rest :: K)) (hq : Quiet C R H L o v := by (apply q_lt; exact rfl; exact rfl; omega)) (hg : wantE all L o = some true := by exact rfl) (hd : o.dst = some d := by exact rfl) (hM : Nat.blt d C.M = true := by exact rfl) : JK C D R H L (.ops all (o :: rest) :: K) := CD hq hg hd hM h
theorem DV {all : Array Oper} {done : List Nat} {i d : Nat} {rest : Pl} {o : Oper} {v : Value} (h : DJ C D R Hf H ((d, v) :: L) all (i :: done) ps ls rest K) (ho : all[i]? = some o := by exact rfl) (hq : Quiet C R H L o v := by (apply q_lt; exact rfl; exact rfl; omega)) (hg : wantE all L o = some true := by exact rfl) (hd : o.dst = some d := by exact rfl) (hM : Nat.blt d C.M = true := by exact rfl) (hin : (ps.all (done.contains ·)) = true := by exact rfl) : DJ C D R Hf H L all done ps ls (.q i rest) K := CQ ho hq hg hd hM hin h
theorem AZ {all : Array Oper} {o : Oper} {rest : List Oper} {d : Nat} {v : Value} (h : JK C D R H ((d, v) :: L) (.ops all rest :: K)) (hq : Quiet C R H L o v := by (apply q_ltF; exact rfl; exact rfl; omega)) (hg : wantE all L o = some true := by exact rfl) (hd : o.dst = some d := by exact rfl) (hM : Nat.blt d C.M = true := by exact rfl) : JK C D R H L (.ops all (o :: rest) :: K) := CD hq hg hd hM h
theorem CP {all : Array Oper} {done : List Nat} {i d : Nat} {rest : Pl} {o : Oper} {v : Value} (h : DJ C D R Hf H ((d, v) :: L) all (i :: done) ps ls rest K) (ho : all[i]? = some o := by exact rfl) (hq : Quiet C R H L o v := by (apply q_ltF; exact rfl; exact rfl; omega)) (hg : wantE all L o = some true := by exact rfl) (hd : o.dst = some d := by exact rfl) (hM : Nat.blt d C.M = true := by exact rfl) (hin : (ps.all (done.contains ·)) = true := by exact rfl) : DJ C D R Hf H L all done ps ls (.q i rest) K := CQ ho hq hg hd hM hin h
theorem CB {all : Array Oper} {o : Oper} {rest : List Oper} {d : Nat} {v : Value} (h : JK C D R H ((d, v) :: L) (.ops all rest :: K)) (hq : Quiet C R H L o v := by (apply q_eq; exact rfl; exact rfl; omega)) (hg : wantE all L o = some true := by exact rfl) (hd : o.dst = some d := by exact rfl) (hM : Nat.blt d C.M = true := by exact rfl) : JK C D R H L (.ops all (o :: rest) :: K) := CD hq hg hd hM h
theorem D7 {all : Array Oper} {done : List Nat} {i d : Nat} {rest : Pl} {o : Oper} {v : Value} (h : DJ C D R Hf H ((d, v) :: L) all (i :: done) ps ls rest K) (ho : all[i]? = some o := by exact rfl) (hq : Quiet C R H L o v := by (apply q_eq; exact rfl; exact rfl; omega)) (hg : wantE all L o = some true := by exact rfl) (hd : o.dst = some d := by exact rfl) (hM : Nat.blt d C.M = true := by exact rfl) (hin : (ps.all (done.contains ·)) = true := by exact rfl) : DJ C D R Hf H L all done ps ls (.q i rest) K := CQ ho hq hg hd hM hin h
theorem B4 {all : Array Oper} {o : Oper} {rest : List Oper} {d : Nat} {v : Value} (h : JK C D R H ((d, v) :: L) (.ops all rest :: K)) (hq : Quiet C R H L o v := by (apply q_eqF; exact rfl; exact rfl; omega)) (hg : wantE all L o = some true := by exact rfl) (hd : o.dst = some d := by exact rfl) (hM : Nat.blt d C.M = true := by exact rfl) : JK C D R H L (.ops all (o :: rest) :: K) := CD hq hg hd hM h
theorem DP {all : Array Oper} {done : List Nat} {i d : Nat} {rest : Pl} {o : Oper} {v : Value} (h : DJ C D R Hf H ((d, v) :: L) all (i :: done) ps ls rest K) (ho : all[i]? = some o := by exact rfl) (hq : Quiet C R H L o v := by (apply q_eqF; exact rfl; exact rfl; omega)) (hg : wantE all L o = some true := by exact rfl) (hd : o.dst = some d := by exact rfl) (hM : Nat.blt d C.M = true := by exact rfl) (hin : (ps.all (done.contains ·)) = true := by exact rfl) : DJ C D R Hf H L all done ps ls (.q i rest) K := CQ ho hq hg hd hM hin h
theorem CR {all : Array Oper} {o : Oper} {rest : List Oper} {d : Nat} {v : Value} (h : JK C D R H ((d, v) :: L) (.ops all rest :: K)) (hq : Quiet C R H L o v := by (apply q_ne; exact rfl; exact rfl; omega)) (hg : wantE all L o = some true := by exact rfl) (hd : o.dst = some d := by exact rfl) (hM : Nat.blt d C.M = true := by exact rfl) : JK C D R H L (.ops all (o :: rest) :: K) := CD hq hg hd hM h
theorem EW {all : Array Oper} {done : List Nat} {i d : Nat} {rest : Pl} {o : Oper} {v : Value} (h : DJ C D R Hf H ((d, v) :: L) all (i :: done) ps ls rest K) (ho : all[i]? = some o := by exact rfl) (hq : Quiet C R H L o v := by (apply q_ne; exact rfl; exact rfl; omega)) (hg : wantE all L o = some true := by exact rfl) (hd : o.dst = some d := by exact rfl) (hM : Nat.blt d C.M = true := by exact rfl) (hin : (ps.all (done.contains ·)) = true := by exact rfl) : DJ C D R Hf H L all done ps ls (.q i rest) K := CQ ho hq hg hd hM hin h
theorem BG {all : Array Oper} {o : Oper} {rest : List Oper} {d : Nat} {v : Value} (h : JK C D R H ((d, v) :: L) (.ops all rest :: K)) (hq : Quiet C R H L o v := by (apply q_neF; exact rfl; exact rfl; omega)) (hg : wantE all L o = some true := by exact rfl) (hd : o.dst = some d := by exact rfl) (hM : Nat.blt d C.M = true := by exact rfl) : JK C D R H L (.ops all (o :: rest) :: K) := CD hq hg hd hM h
theorem E5 {all : Array Oper} {done : List Nat} {i d : Nat} {rest : Pl} {o : Oper} {v : Value} (h : DJ C D R Hf H ((d, v) :: L) all (i :: done) ps ls rest K) (ho : all[i]? = some o := by exact rfl) (hq : Quiet C R H L o v := by (apply q_neF; exact rfl; exact rfl; omega)) (hg : wantE all L o = some true := by exact rfl) (hd : o.dst = some d := by exact rfl) (hM : Nat.blt d C.M = true := by exact rfl) (hin : (ps.all (done.contains ·)) = true := by exact rfl) : DJ C D R Hf H L all done ps ls (.q i rest) K := CQ ho hq hg hd hM hin h
theorem CH {all : Array Oper} {o : Oper} {rest : List Oper} {d : Nat} {v : Value} (h : JK C D R H ((d, v) :: L) (.ops all rest :: K)) (hq : Quiet C R H L o v := by (apply q_gt; exact rfl; exact rfl; omega)) (hg : wantE all L o = some true := by exact rfl) (hd : o.dst = some d := by exact rfl) (hM : Nat.blt d C.M = true := by exact rfl) : JK C D R H L (.ops all (o :: rest) :: K) := CD hq hg hd hM h
theorem DW {all : Array Oper} {done : List Nat} {i d : Nat} {rest : Pl} {o : Oper} {v : Value} (h : DJ C D R Hf H ((d, v) :: L) all (i :: done) ps ls rest K) (ho : all[i]? = some o := by exact rfl) (hq : Quiet C R H L o v := by (apply q_gt; exact rfl; exact rfl; omega)) (hg : wantE all L o = some true := by exact rfl) (hd : o.dst = some d := by exact rfl) (hM : Nat.blt d C.M = true := by exact rfl) (hin : (ps.all (done.contains ·)) = true := by exact rfl) : DJ C D R Hf H L all done ps ls (.q i rest) K := CQ ho hq hg hd hM hin h
theorem BO {all : Array Oper} {o : Oper} {rest : List Oper} {d : Nat} {v : Value} (h : JK C D R H ((d, v) :: L) (.ops all rest :: K)) (hq : Quiet C R H L o v := by (apply q_gtF; exact rfl; exact rfl; omega)) (hg : wantE all L o = some true := by exact rfl) (hd : o.dst = some d := by exact rfl) (hM : Nat.blt d C.M = true := by exact rfl) : JK C D R H L (.ops all (o :: rest) :: K) := CD hq hg hd hM h
theorem CM {all : Array Oper} {done : List Nat} {i d : Nat} {rest : Pl} {o : Oper} {v : Value} (h : DJ C D R Hf H ((d, v) :: L) all (i :: done) ps ls rest K) (ho : all[i]? = some o := by exact rfl) (hq : Quiet C R H L o v := by (apply q_gtF; exact rfl; exact rfl; omega)) (hg : wantE all L o = some true := by exact rfl) (hd : o.dst = some d := by exact rfl) (hM : Nat.blt d C.M = true := by exact rfl) (hin : (ps.all (done.contains ·)) = true := by exact rfl) : DJ C D R Hf H L all done ps ls (.q i rest) K := CQ ho hq hg hd hM hin h
theorem C3 {all : Array Oper} {o : Oper} {rest : List Oper} {d : Nat} {v : Value} (h : JK C D R H ((d, v) :: L) (.ops all rest :: K)) (hq : Quiet C R H L o v := by (apply q_le; exact rfl; exact rfl; omega)) (hg : wantE all L o = some true := by exact rfl) (hd : o.dst = some d := by exact rfl) (hM : Nat.blt d C.M = true := by exact rfl) : JK C D R H L (.ops all (o :: rest) :: K) := CD hq hg hd hM h
theorem FL {all : Array Oper} {done : List Nat} {i d : Nat} {rest : Pl} {o : Oper} {v : Value} (h : DJ C D R Hf H ((d, v) :: L) all (i :: done) ps ls rest K) (ho : all[i]? = some o := by exact rfl) (hq : Quiet C R H L o v := by (apply q_le; exact rfl; exact rfl; omega)) (hg : wantE all L o = some true := by exact rfl) (hd : o.dst = some d := by exact rfl) (hM : Nat.blt d C.M = true := by exact rfl) (hin : (ps.all (done.contains ·)) = true := by exact rfl) : DJ C D R Hf H L all done ps ls (.q i rest) K := CQ ho hq hg hd hM hin h
theorem C4 {all : Array Oper} {o : Oper} {rest : List Oper} {d : Nat} {v : Value} (h : JK C D R H ((d, v) :: L) (.ops all rest :: K)) (hq : Quiet C R H L o v := by (apply q_leF; exact rfl; exact rfl; omega)) (hg : wantE all L o = some true := by exact rfl) (hd : o.dst = some d := by exact rfl) (hM : Nat.blt d C.M = true := by exact rfl) : JK C D R H L (.ops all (o :: rest) :: K) := CD hq hg hd hM h
theorem E6 {all : Array Oper} {done : List Nat} {i d : Nat} {rest : Pl} {o : Oper} {v : Value} (h : DJ C D R Hf H ((d, v) :: L) all (i :: done) ps ls rest K) (ho : all[i]? = some o := by exact rfl) (hq : Quiet C R H L o v := by (apply q_leF; exact rfl; exact rfl; omega)) (hg : wantE all L o = some true := by exact rfl) (hd : o.dst = some d := by exact rfl) (hM : Nat.blt d C.M = true := by exact rfl) (hin : (ps.all (done.contains ·)) = true := by exact rfl) : DJ C D R Hf H L all done ps ls (.q i rest) K := CQ ho hq hg hd hM hin h
theorem CL {all : Array Oper} {o : Oper} {rest : List Oper} {d : Nat} {v : Value} (h : JK C D R H ((d, v) :: L) (.ops all rest :: K)) (hq : Quiet C R H L o v := by (apply q_ge; exact rfl; exact rfl; omega)) (hg : wantE all L o = some true := by exact rfl) (hd : o.dst = some d := by exact rfl) (hM : Nat.blt d C.M = true := by exact rfl) : JK C D R H L (.ops all (o :: rest) :: K) := CD hq hg hd hM h
theorem zd_ge {all : Array Oper} {done : List Nat} {i d : Nat} {rest : Pl} {o : Oper} {v : Value} (h : DJ C D R Hf H ((d, v) :: L) all (i :: done) ps ls rest K) (ho : all[i]? = some o := by exact rfl) (hq : Quiet C R H L o v := by (apply q_ge; exact rfl; exact rfl; omega)) (hg : wantE all L o = some true := by exact rfl) (hd : o.dst = some d := by exact rfl) (hM : Nat.blt d C.M = true := by exact rfl) (hin : (ps.all (done.contains ·)) = true := by exact rfl) : DJ C D R Hf H L all done ps ls (.q i rest) K := CQ ho hq hg hd hM hin h
theorem BN {all : Array Oper} {o : Oper} {rest : List Oper} {d : Nat} {v : Value} (h : JK C D R H ((d, v) :: L) (.ops all rest :: K)) (hq : Quiet C R H L o v := by (apply q_geF; exact rfl; exact rfl; omega)) (hg : wantE all L o = some true := by exact rfl) (hd : o.dst = some d := by exact rfl) (hM : Nat.blt d C.M = true := by exact rfl) : JK C D R H L (.ops all (o :: rest) :: K) := CD hq hg hd hM h
theorem D3 {all : Array Oper} {done : List Nat} {i d : Nat} {rest : Pl} {o : Oper} {v : Value} (h : DJ C D R Hf H ((d, v) :: L) all (i :: done) ps ls rest K) (ho : all[i]? = some o := by exact rfl) (hq : Quiet C R H L o v := by (apply q_geF; exact rfl; exact rfl; omega)) (hg : wantE all L o = some true := by exact rfl) (hd : o.dst = some d := by exact rfl) (hM : Nat.blt d C.M = true := by exact rfl) (hin : (ps.all (done.contains ·)) = true := by exact rfl) : DJ C D R Hf H L all done ps ls (.q i rest) K := CQ ho hq hg hd hM hin h
theorem BP {all : Array Oper} {done : List Nat} {i d : Nat} {rest : Pl} {o : Oper} {v : Value} (h : DJ C D R Hf H ((d, v) :: L) all (i :: done) ps ls rest K) (ho : all[i]? = some o := by exact rfl) (hq : Quiet C R H L o v := by (apply EG; exact rfl; exact rfl; omega; omega)) (hg : wantE all L o = some true := by exact rfl) (hd : o.dst = some d := by exact rfl) (hM : Nat.blt d C.M = true := by exact rfl) (hin : (ps.all (done.contains ·)) = true := by exact rfl) : DJ C D R Hf H L all done ps ls (.q i rest) K := CQ ho hq hg hd hM hin h
theorem CS {all : Array Oper} {o : Oper} {rest : List Oper} {d : Nat} {v : Value} (h : JK C D R H ((d, v) :: L) (.ops all rest :: K)) (hq : Quiet C R H L o v := by (apply E9; exact rfl; exact rfl; exact ⟨by omega, by omega⟩)) (hg : wantE all L o = some true := by exact rfl) (hd : o.dst = some d := by exact rfl) (hM : Nat.blt d C.M = true := by exact rfl) : JK C D R H L (.ops all (o :: rest) :: K) := CD hq hg hd hM h
theorem DQ {all : Array Oper} {done : List Nat} {i d : Nat} {rest : Pl} {o : Oper} {v : Value} (h : DJ C D R Hf H ((d, v) :: L) all (i :: done) ps ls rest K) (ho : all[i]? = some o := by exact rfl) (hq : Quiet C R H L o v := by (apply E9; exact rfl; exact rfl; exact ⟨by omega, by omega⟩)) (hg : wantE all L o = some true := by exact rfl) (hd : o.dst = some d := by exact rfl) (hM : Nat.blt d C.M = true := by exact rfl) (hin : (ps.all (done.contains ·)) = true := by exact rfl) : DJ C D R Hf H L all done ps ls (.q i rest) K := CQ ho hq hg hd hM hin h
theorem D4 {all : Array Oper} {o : Oper} {rest : List Oper} {d : Nat} {v : Value} (h : JK C D R H ((d, v) :: L) (.ops all rest :: K)) (hq : Quiet C R H L o v := by (apply FA; exact rfl; exact rfl; exact ⟨by omega, by omega⟩)) (hg : wantE all L o = some true := by exact rfl) (hd : o.dst = some d := by exact rfl) (hM : Nat.blt d C.M = true := by exact rfl) : JK C D R H L (.ops all (o :: rest) :: K) := CD hq hg hd hM h
theorem EN {all : Array Oper} {done : List Nat} {i d : Nat} {rest : Pl} {o : Oper} {v : Value} (h : DJ C D R Hf H ((d, v) :: L) all (i :: done) ps ls rest K) (ho : all[i]? = some o := by exact rfl) (hq : Quiet C R H L o v := by (apply FA; exact rfl; exact rfl; exact ⟨by omega, by omega⟩)) (hg : wantE all L o = some true := by exact rfl) (hd : o.dst = some d := by exact rfl) (hM : Nat.blt d C.M = true := by exact rfl) (hin : (ps.all (done.contains ·)) = true := by exact rfl) : DJ C D R Hf H L all done ps ls (.q i rest) K := CQ ho hq hg hd hM hin h
theorem E7 {all : Array Oper} {o : Oper} {rest : List Oper} {d : Nat} {v : Value} (h : JK C D R H ((d, v) :: L) (.ops all rest :: K)) (hq : Quiet C R H L o v := by (apply q_mul; exact rfl; exact rfl; exact ⟨by omega, by omega⟩)) (hg : wantE all L o = some true := by exact rfl) (hd : o.dst = some d := by exact rfl) (hM : Nat.blt d C.M = true := by exact rfl) : JK C D R H L (.ops all (o :: rest) :: K) := CD hq hg hd hM h
theorem EO {all : Array Oper} {done : List Nat} {i d : Nat} {rest : Pl} {o : Oper} {v : Value} (h : DJ C D R Hf H ((d, v) :: L) all (i :: done) ps ls rest K) (ho : all[i]? = some o := by exact rfl) (hq : Quiet C R H L o v := by (apply q_mul; exact rfl; exact rfl; exact ⟨by omega, by omega⟩)) (hg : wantE all L o = some true := by exact rfl) (hd : o.dst = some d := by exact rfl) (hM : Nat.blt d C.M = true := by exact rfl) (hin : (ps.all (done.contains ·)) = true := by exact rfl) : DJ C D R Hf H L all done ps ls (.q i rest) K := CQ ho hq hg hd hM hin h
theorem zq_quo {all : Array Oper} {o : Oper} {rest : List Oper} {d : Nat} {v : Value} (h : JK C D R H ((d, v) :: L) (.ops all rest :: K)) (hq : Quiet C R H L o v := by (apply q_quo; exact rfl; exact rfl; omega; omega; omega)) (hg : wantE all L o = some true := by exact rfl) (hd : o.dst = some d := by exact rfl) (hM : Nat.blt d C.M = true := by exact rfl) : JK C D R H L (.ops all (o :: rest) :: K) := CD hq hg hd hM h
theorem AN {all : Array Oper} {o : Oper} {rest : List Oper} {d : Nat} {v : Value} (h : JK C D R H ((d, v) :: L) (.ops all rest :: K)) (hq : Quiet C R H L o v := by (apply DT; exact rfl; exact rfl; (first | (exact cells_own (by (repeat (first | exact .here | apply Mem.there)); first | done | fail); exact rfl) | (exact cellsR (by assumption) (by (repeat (first | exact .here | apply Mem.there)); first | done | fail); exact rfl) | (exact cellsH (by assumption) (by (repeat (first | exact .here | apply Mem.there)); first | done | fail); exact rfl) | (exact cellsP (by assumption) (by (repeat (first | exact .here | apply Mem.there)); first | done | fail); exact rfl)))) (hg : wantE all L o = some true := by exact rfl) (hd : o.dst = some d := by exact rfl) (hM : Nat.blt d C.M = true := by exact rfl) : JK C D R H L (.ops all (o :: rest) :: K) := CD hq hg hd hM h
theorem BL {all : Array Oper} {done : List Nat} {i d : Nat} {rest : Pl} {o : Oper} {v : Value} (h : DJ C D R Hf H ((d, v) :: L) all (i :: done) ps ls rest K) (ho : all[i]? = some o := by exact rfl) (hq : Quiet C R H L o v := by (apply DT; exact rfl; exact rfl; (first | (exact cells_own (by (repeat (first | exact .here | apply Mem.there)); first | done | fail); exact rfl) | (exact cellsR (by assumption) (by (repeat (first | exact .here | apply Mem.there)); first | done | fail); exact rfl) | (exact cellsH (by assumption) (by (repeat (first | exact .here | apply Mem.there)); first | done | fail); exact rfl) | (exact cellsP (by assumption) (by (repeat (first | exact .here | apply Mem.there)); first | done | fail); exact rfl)))) (hg : wantE all L o = some true := by exact rfl) (hd : o.dst = some d := by exact rfl) (hM : Nat.blt d C.M = true := by exact rfl) (hin : (ps.all (done.contains ·)) = true := by exact rfl) : DJ C D R Hf H L all done ps ls (.q i rest) K := CQ ho hq hg hd hM hin h
theorem EX {all : Array Oper} {done : List Nat} {i d : Nat} {rest : Pl} {o : Oper} {v : Value} (h : DJ C D R Hf H ((d, v) :: L) all (i :: done) (i :: ps) ls rest K) (ho : all[i]? = some o := by exact rfl) (hq : Quiet C R Hf L o v := by (apply DT; exact rfl; exact rfl; (first | (exact cells_own (by (repeat (first | exact .here | apply Mem.there)); first | done | fail); exact rfl) | (exact cellsR (by assumption) (by (repeat (first | exact .here | apply Mem.there)); first | done | fail); exact rfl) | (exact cellsH (by assumption) (by (repeat (first | exact .here | apply Mem.there)); first | done | fail); exact rfl) | (exact cellsP (by assumption) (by (repeat (first | exact .here | apply Mem.there)); first | done | fail); exact rfl)))) (hg : wantE all L o = some true := by exact rfl) (hd : o.dst = some d := by exact rfl) (hM : Nat.blt d C.M = true := by exact rfl) : DJ C D R Hf H L all done ps ls (.p i rest) K := dj_p ho hq hg hd hM h
theorem E8 {all : Array Oper} {o : Oper} {rest : List Oper} {d : Nat} {v : Value} (h : JK C D R H ((d, v) :: L) (.ops all rest :: K)) (hq : Quiet C R H L o v := by (apply q_min; exact rfl; exact rfl)) (hg : wantE all L o = some true := by exact rfl) (hd : o.dst = some d := by exact rfl) (hM : Nat.blt d C.M = true := by exact rfl) : JK C D R H L (.ops all (o :: rest) :: K) := CD hq hg hd hM h
theorem DB {all : Array Oper} {o : Oper} {rest : List Oper} {d : Nat} {v : Value} (h : JK C D R H ((d, v) :: L) (.ops all rest :: K)) (hq : Quiet C R H L o v := by (apply q_max; exact rfl; exact rfl)) (hg : wantE all L o = some true := by exact rfl) (hd : o.dst = some d := by exact rfl) (hM : Nat.blt d C.M = true := by exact rfl) : JK C D R H L (.ops all (o :: rest) :: K) := CD hq hg hd hM h
theorem BX {all : Array Oper} {o : Oper} {rest : List Oper} {d : Nat} {v : Value} (h : JK C D R H ((d, v) :: L) (.ops all rest :: K)) (hq : Quiet C R H L o v := by (apply DE; exact rfl; exact rfl)) (hg : wantE all L o = some true := by exact rfl) (hd : o.dst = some d := by exact rfl) (hM : Nat.blt d C.M = true := by exact rfl) : JK C D R H L (.ops all (o :: rest) :: K) := CD hq hg hd hM h
theorem DC {all : Array Oper} {done : List Nat} {i d : Nat} {rest : Pl} {o : Oper} {v : Value} (h : DJ C D R Hf H ((d, v) :: L) all (i :: done) ps ls rest K) (ho : all[i]? = some o := by exact rfl) (hq : Quiet C R H L o v := by (apply DE; exact rfl; exact rfl)) (hg : wantE all L o = some true := by exact rfl) (hd : o.dst = some d := by exact rfl) (hM : Nat.blt d C.M = true := by exact rfl) (hin : (ps.all (done.contains ·)) = true := by exact rfl) : DJ C D R Hf H L all done ps ls (.q i rest) K := CQ ho hq hg hd hM hin h
theorem D5 {all : Array Oper} {o : Oper} {rest : List Oper} {d : Nat} {v : Value} (h : JK C D R H ((d, v) :: L) (.ops all rest :: K)) (hq : Quiet C R H L o v := by (apply FF; exact rfl; exact rfl; exact rfl; exact rfl; omega)) (hg : wantE all L o = some true := by exact rfl) (hd : o.dst = some d := by exact rfl) (hM : Nat.blt d C.M = true := by exact rfl) : JK C D R H L (.ops all (o :: rest) :: K) := CD hq hg hd hM h
theorem EY {all : Array Oper} {o : Oper} {rest : List Oper} {d : Nat} {v : Value} (h : JK C D R H ((d, v) :: L) (.ops all rest :: K)) (hq : Quiet C R H L o v := by (apply FG; exact rfl; exact rfl; exact rfl; exact rfl; omega)) (hg : wantE all L o = some true := by exact rfl) (hd : o.dst = some d := by exact rfl) (hM : Nat.blt d C.M = true := by exact rfl) : JK C D R H L (.ops all (o :: rest) :: K) := CD hq hg hd hM h
theorem CC {all : Array Oper} {o : Oper} {rest : List Oper} {d : Nat} {v : Value} (h : JK C D R H ((d, v) :: L) (.ops all rest :: K)) (hq : Quiet C R H L o v := by (apply EF; exact rfl; exact rfl; exact (by (repeat (first | exact Bld.nil | apply Bld.put rfl rfl rfl | apply Bld.keep rfl)); first | done | fail))) (hg : wantE all L o = some true := by exact rfl) (hd : o.dst = some d := by exact rfl) (hM : Nat.blt d C.M = true := by exact rfl) : JK C D R H L (.ops all (o :: rest) :: K) := CD hq hg hd hM h
theorem D6 {all : Array Oper} {done : List Nat} {i d : Nat} {rest : Pl} {o : Oper} {v : Value} (h : DJ C D R Hf H ((d, v) :: L) all (i :: done) ps ls rest K) (ho : all[i]? = some o := by exact rfl) (hq : Quiet C R H L o v := by (apply EF; exact rfl; exact rfl; exact (by (repeat (first | exact Bld.nil | apply Bld.put rfl rfl rfl | apply Bld.keep rfl)); first | done | fail))) (hg : wantE all L o = some true := by exact rfl) (hd : o.dst = some d := by exact rfl) (hM : Nat.blt d C.M = true := by exact rfl) (hin : (ps.all (done.contains ·)) = true := by exact rfl) : DJ C D R Hf H L all done ps ls (.q i rest) K := CQ ho hq hg hd hM hin h
theorem zq_neg {all : Array Oper} {o : Oper} {rest : List Oper} {d : Nat} {v : Value} (h : JK C D R H ((d, v) :: L) (.ops all rest :: K)) (hq : Quiet C R H L o v := by (apply q_neg; exact rfl; exact ⟨by omega, by omega⟩)) (hg : wantE all L o = some true := by exact rfl) (hd : o.dst = some d := by exact rfl) (hM : Nat.blt d C.M = true := by exact rfl) : JK C D R H L (.ops all (o :: rest) :: K) := CD hq hg hd hM h
theorem A4 {all : Array Oper} {o : Oper} {rest : List Oper} {d : Nat} {post : Value → List PH → Prop} (h : ∀ u H', post u H' → JK C D R H' ((d, u) :: L) (.ops all rest :: K)) (hl : Loud C R H L o post := by (apply ER; exact rfl)) (hg : wantE all L o = some true := by exact rfl) (hd : o.dst = some d := by exact rfl) (hM : Nat.blt d C.M = true := by exact rfl) : JK C D R H L (.ops all (o :: rest) :: K) := BF hl hg hd hM h
theorem BS {all : Array Oper} {o : Oper} {rest : List Oper} {d : Nat} {post : Value → List PH → Prop} (h : ∀ u H', post u H' → JK C D R H' ((d, u) :: L) (.ops all rest :: K)) (hl : Loud C R H L o post := by (apply ES; exact rfl; exact rfl)) (hg : wantE all L o = some true := by exact rfl) (hd : o.dst = some d := by exact rfl) (hM : Nat.blt d C.M = true := by exact rfl) : JK C D R H L (.ops all (o :: rest) :: K) := BF hl hg hd hM h
theorem BR {all : Array Oper} {o : Oper} {rest : List Oper} {d : Nat} {post : Value → List PH → Prop} (h : ∀ u H', post u H' → JK C D R H' ((d, u) :: L) (.ops all rest :: K)) (hl : Loud C R H L o post := by (apply CE; exact rfl; exact rfl; exact rfl; exact rfl; exact rfl; exact (by (repeat (first | exact (fun v hv => absurd hv List.not_mem_nil) | (refine List.forall_mem_cons.2 ⟨?_, ?_⟩; (focus (first | exact rfl | assumption))))); first | done | fail); exact (by (repeat (first | exact Flat.nil | apply Flat.one rfl | apply Flat.agg2 | apply Flat.agg3 | apply Flat.agg1 | apply Flat.agg4 | apply Flat.agg5)); first | done | fail); exact rfl)) (hg : wantE all L o = some true := by exact rfl) (hd : o.dst = some d := by exact rfl) (hM : Nat.blt d C.M = true := by exact rfl) : JK C D R H L (.ops all (o :: rest) :: K) := BF hl hg hd hM h
theorem CY {all : Array Oper} {done : List Nat} {i d : Nat} {rest : Pl} {o : Oper} {post : Value → List PH → Prop} (h : ∀ v H', post v H' → DJ C D R Hf H' ((d, v) :: L) all (i :: done) ps (i :: ls) rest K) (ho : all[i]? = some o := by exact rfl) (hl : Loud C R H L o post := by (apply CE; exact rfl; exact rfl; exact rfl; exact rfl; exact rfl; exact (by (repeat (first | exact (fun v hv => absurd hv List.not_mem_nil) | (refine List.forall_mem_cons.2 ⟨?_, ?_⟩; (focus (first | exact rfl | assumption))))); first | done | fail); exact (by (repeat (first | exact Flat.nil | apply Flat.one rfl | apply Flat.agg2 | apply Flat.agg3 | apply Flat.agg1 | apply Flat.agg4 | apply Flat.agg5)); first | done | fail); exact rfl)) (hg : wantE all L o = some true := by exact rfl) (hd : o.dst = some d := by exact rfl) (hM : Nat.blt d C.M = true := by exact rfl) (hsub : ∀ v H', post v H' → ∀ w, Sat C.N R H' w → Sat C.N R H w := by (rintro _ _ ⟨b, rfl, rfl⟩ w hw; exact hw.tail)) : ActOK C D R Hf H L all done ps ls i .e rest K := a_e ho hl hg hd hM hsub h
theorem B0 {all : Array Oper} {done : List Nat} {i d : Nat} {rest : Pl} {o : Oper} {post : Value → List PH → Prop} (h : ∀ v H', post v H' → DJ C D R Hf H' ((d, v) :: L) all (i :: done) ps (i :: ls) rest K) (ho : all[i]? = some o := by exact rfl) (hl : Loud C R H L o post := by (apply CE; exact rfl; exact rfl; exact rfl; exact rfl; exact rfl; exact (by (repeat (first | exact (fun v hv => absurd hv List.not_mem_nil) | (refine List.forall_mem_cons.2 ⟨?_, ?_⟩; (focus (first | exact rfl | assumption))))); first | done | fail); exact (by (repeat (first | exact Flat.nil | apply Flat.one rfl | apply Flat.agg2 | apply Flat.agg3 | apply Flat.agg1 | apply Flat.agg4 | apply Flat.agg5)); first | done | fail); exact rfl)) (hg : wantE all L o = some true := by exact rfl) (hd : o.dst = some d := by exact rfl) (hM : Nat.blt d C.M = true := by exact rfl) (hsub : ∀ v H', post v H' → ∀ w, Sat C.N R H' w → Sat C.N R H w := by (rintro _ _ ⟨b, rfl, rfl⟩ w hw; exact hw.tail)) : DJ C D R Hf H L all done ps ls (.l i .e rest) K := CJ (a_e ho hl hg hd hM hsub h)
theorem BQ {all : Array Oper} {o : Oper} {rest : List Oper} {d : Nat} {post : Value → List PH → Prop} (h : ∀ u H', post u H' → JK C D R H' ((d, u) :: L) (.ops all rest :: K)) (hl : Loud C R H L o post := by (apply BC; exact rfl)) (hg : wantE all L o = some true := by exact rfl) (hd : o.dst = some d := by exact rfl) (hM : Nat.blt d C.M = true := by exact rfl) : JK C D R H L (.ops all (o :: rest) :: K) := BF hl hg hd hM h
theorem A2 {all : Array Oper} {o : Oper} {rest : List Oper} {post : Value → List PH → Prop} (h : ∀ u H', post u H' → JK C D R H' L (.ops all rest :: K)) (hl : Loud C R H L o post := by (apply ET; exact rfl; exact rfl; exact (by (repeat (first | exact .here | apply Take.there)); first | done | fail); exact (by (repeat (first | exact (fun v hv => absurd hv List.not_mem_nil) | (refine List.forall_mem_cons.2 ⟨?_, ?_⟩; (focus (first | exact rfl | assumption))))); first | done | fail); exact rfl; exact rfl)) (hg : wantE all L o = some true := by exact rfl) (hd : o.dst = none := by exact rfl) : JK C D R H L (.ops all (o :: rest) :: K) := CI hl hg hd h
theorem BH {all : Array Oper} {o : Oper} {rest : List Oper} {post : Value → List PH → Prop} (h : ∀ u H', post u H' → JK C D R H' L (.ops all rest :: K)) (hl : Loud C R H L o post := by (apply C5; exact rfl; exact rfl; (first | exact rfl | assumption); exact rfl; exact (by (repeat (first | exact .here | apply Take.there)); first | done | fail); (focus (repeat (first | exact SetL.here | apply SetL.there)); done))) (hg : wantE all L o = some true := by exact rfl) (hd : o.dst = none := by exact rfl) : JK C D R H L (.ops all (o :: rest) :: K) := CI hl hg hd h
theorem CK {all : Array Oper} {done : List Nat} {i : Nat} {rest : Pl} {o : Oper} {post : Value → List PH → Prop} (h : ∀ v H', post v H' → DJ C D R Hf H' L all (i :: done) ps (i :: ls) rest K) (ho : all[i]? = some o := by exact rfl) (hl : Loud C R H L o post := by (apply C5; exact rfl; exact rfl; (first | exact rfl | assumption); exact rfl; exact (by (repeat (first | exact .here | apply Take.there)); first | done | fail); (focus (repeat (first | exact SetL.here | apply SetL.there)); done))) (hg : wantE all L o = some true := by exact rfl) (hd : o.dst = none := by exact rfl) (hsub : ∀ v H', post v H' → ∀ w, Sat C.N R H' w → Sat C.N R Hf w := by (rintro _ _ ⟨_, rfl⟩ w hw; exact hw.sel (by (repeat (first | exact Sel.nil | (apply Sel.cons; (focus ((repeat (first | exact .here | apply Mem.there | apply Take.there)); first | done | fail))))); first | done | fail))) : DJ C D R Hf H L all done ps ls (.l i .b rest) K := CJ (a_bn ho hl hg hd hsub h)
end Go.Eng
/- Maps from int to int: made, looked up, changed. No conditions. -/
namespace Go.Eng
variable {C : Cx} {D : List Deferred} {R H : List PH} {L : Env} {K : List It}
variable {dst : Option Tmp} {ty : TypeId} {pos : String} {aft : Array Edge} {g : Option (Nat × Bool)}
def ents : Nat → List (Int × Int) → List MapEntry
  | _, [] => []
  | i, kv :: m => ⟨int kv.1, int kv.2, i⟩ :: ents (i + 1) m
def mapO (m : List (Int × Int)) : Obj := .map (ents 0 m).toArray m.length
def midx (k : Int) : List (Int × Int) → Option (Nat × Int)
  | [] => none
  | (a, v) :: m => if k = a then some (0, v) else (midx k m).map (fun p => (p.1 + 1, p.2))
def mget (k : Int) (m : List (Int × Int)) : Option Int := (midx k m).map (·.2)
def mset (k v : Int) : List (Int × Int) → List (Int × Int)
  | [] => [(k, v)]
  | (a, w) :: m => if k = a then (a, v) :: m else (a, w) :: mset k v m
theorem findNow_ents (k : Int) : ∀ (m : List (Int × Int)) (i j : Nat), Instr.findNow (.int .i64) (int k) (ents i m) j = some ((midx k m).map (fun p => (j + p.1, int p.2)))
  | [], i, j => rfl
  | (a, v) :: m, i, j => by
    by_cases h : k = a
    · subst h
      simp [ents, Instr.findNow, Instr.sameNow, midx, int]
    · have ih := findNow_ents k m (i + 1) (j + 1)
      have hs : Instr.sameNow (.int .i64) (int k) (int a) = some false := by simp [Instr.sameNow, int, h]
      simp only [ents, Instr.findNow, hs, midx, if_neg h, ih, Option.map_map]
      congr 2
      funext p
      show (j + 1 + p.1, int p.2) = (j + (p.1 + 1), int p.2)
      rw [show j + 1 + p.1 = j + (p.1 + 1) by omega]
theorem mset_none {k v : Int} : ∀ {m : List (Int × Int)} (i : Nat), midx k m = none → ents i m ++ [⟨int k, int v, i + m.length⟩] = ents i (mset k v m) ∧ (mset k v m).length = m.length + 1
  | [], i, _ => ⟨rfl, rfl⟩
  | (a, w) :: m, i, h => by
    unfold midx at h
    split at h
    · exact absurd h (by simp)
    · rename_i hk
      have h' : midx k m = none := by simpa using h
      obtain ⟨e, l⟩ := mset_none (k := k) (v := v) (m := m) (i + 1) h'
      simp only [mset, if_neg hk, ents, List.cons_append, List.length_cons, l, and_true, ← e]
      congr 4
      omega
theorem mset_some {k v : Int} : ∀ {m : List (Int × Int)} (i n : Nat) (w : Int), midx k m = some (n, w) → (ents i m).modify n (fun e => { e with key := int k, val := int v }) = ents i (mset k v m) ∧ (mset k v m).length = m.length ∧ n < m.length ∧ ((ents i m)[n]?).map (·.key) = some (int k)
  | [], i, n, w, h => by simp [midx] at h
  | (a, u) :: m, i, n, w, h => by
    unfold midx at h
    split at h
    · rename_i hk
      subst hk
      simp at h
      obtain ⟨rfl, rfl⟩ := h
      simp [ents, mset]
    · rename_i hk
      cases hm : midx k m with
      | none => rw [hm] at h; simp at h
      | some p =>
        rw [hm] at h
        simp at h
        obtain ⟨rfl, rfl⟩ := h
        obtain ⟨e, l, l2, l3⟩ := mset_some (k := k) (v := v) (m := m) (i + 1) p.1 p.2 hm
        simp only [mset, if_neg hk, ents, List.length_cons, l, List.modify_succ_cons, e]
        refine ⟨trivial, trivial, by omega, ?_⟩
        simpa using l3
theorem EI {t : TypeId} : Loud C R H L ⟨dst, .makeMap t none, ty, pos, aft, g⟩ (fun v H' => ∃ b, v = .map (some b) ∧ H' = sng b (mapO []) :: H) := by
  refine ⟨fun a w hx hs next Q hn => ?_⟩
  refine wpIn_value (v := .map (some w.heap.size)) (w' := w.alloc (mapO [])) (by intro c; simp) ?_ (hn _ _ _ ⟨_, rfl, rfl⟩ (hs.alloc _))
  simp [execOp, Instr.makeMap, newObj]
  rfl
theorem run_checkKey {P : Program} {w : World} {kt : TypeId} {k : Int} (e : Bool) (n : Nat) (hkt : P.underlying kt = some (.int .i64)) : (Instr.checkKey e (n + 1) kt (int k)).run P w = .ok () w := by
  simp [Instr.checkKey, Go.underlying, Sem.run, hkt, int]
theorem run_findKey {P : Program} {w : World} {kt : TypeId} {k : Int} {l : List (Int × Int)} (hkt : P.underlying kt = some (.int .i64)) : (Instr.findKey kt (int k) (ents 0 l)).run P w = .ok ((midx k l).map (fun p => (p.1, int p.2))) w := by
  have hf := findNow_ents k l 0 0
  simp only [Nat.zero_add] at hf
  simp [Instr.findKey, Go.underlying, Sem.run, hkt, hf]
theorem run_lookup {P : Program} {w : World} {t kt et : TypeId} {b : Nat} {k : Int} {l : List (Int × Int)} {ok : Bool} (ht : P.underlying t = some (.map kt et)) (hkt : P.underlying kt = some (.int .i64)) (hz : zeroP P et = some (int 0)) (hg : w.heap[b]? = some (mapO l)) :
    (Instr.lookup t (.map (some b)) (int k) ok).run P w = .ok (if ok then .tuple #[int ((mget k l).getD 0), .bool (mget k l).isSome] else int ((mget k l).getD 0)) w := by
  have hf := run_findKey (P := P) (w := w) (k := k) (l := l) hkt
  have hc := fun e => run_checkKey (P := P) (w := w) (k := k) e 9999 hkt
  simp only [Nat.reduceAdd] at hc
  unfold mget
  cases hm : midx k l with
  | none =>
    rw [hm] at hf
    simp [Instr.lookup, Go.underlying, Sem.run, ht, getObj, hg, mapO, hc, hf, run_zeroValue hz]
    done
  | some p =>
    rw [hm] at hf
    simp [Instr.lookup, Go.underlying, Sem.run, ht, getObj, hg, mapO, hc, hf]
    done
def MapAt (N : Bs) (R H : List PH) (b : Nat) (l : List (Int × Int)) : Prop := ∀ w, Sat N R H w → w.heap[b]? = some (mapO l)
theorem mapAt_own {N : Bs} {b : Nat} {l : List (Int × Int)} (m : Mem (sng b (mapO l)) H) : MapAt N R H b l := fun w hs => hs.h _ m.mem b _ (sng_self b _)
theorem mapAt_rd {N : Bs} {b : Nat} {l : List (Int × Int)} (m : Mem (sng b (mapO l)) R) : MapAt N R H b l := fun w hs => hs.r _ m.mem b _ (sng_self b _)
theorem CX {x y : Operand} {t kt et : TypeId} {b : Nat} {k : Int} {l : List (Int × Int)} (h : evalE L x = some (.map (some b))) (hk : evalE L y = some (int k)) (ht : C.P.underlying t = some (.map kt et)) (hkt : C.P.underlying kt = some (.int .i64)) (hz : zeroP C.P et = some (int 0)) (hm : MapAt C.N R H b l) :
    Quiet C R H L ⟨dst, .lookup t x y false, ty, pos, aft, g⟩ (int ((mget k l).getD 0)) :=
  ⟨by intro c; simp, fun a w hx hs => by
    have e1 := hx x (by simp [Op.operands]) _ h
    have e2 := hx y (by simp [Op.operands]) _ hk
    simp [execOp, e1, e2, run_lookup ht hkt hz (hm w hs)]⟩
theorem DO {x y : Operand} {t kt et : TypeId} {b : Nat} {k : Int} {l : List (Int × Int)} (h : evalE L x = some (.map (some b))) (hk : evalE L y = some (int k)) (ht : C.P.underlying t = some (.map kt et)) (hkt : C.P.underlying kt = some (.int .i64)) (hz : zeroP C.P et = some (int 0)) (hm : MapAt C.N R H b l) :
    Quiet C R H L ⟨dst, .lookup t x y true, ty, pos, aft, g⟩ (.tuple #[int ((mget k l).getD 0), .bool (mget k l).isSome]) :=
  ⟨by intro c; simp, fun a w hx hs => by
    have e1 := hx x (by simp [Op.operands]) _ h
    have e2 := hx y (by simp [Op.operands]) _ hk
    simp [execOp, e1, e2, run_lookup ht hkt hz (hm w hs)]⟩
theorem run_mapUpdate {P : Program} {w : World} {t kt et : TypeId} {b : Nat} {k v : Int} {l : List (Int × Int)} (ht : P.underlying t = some (.map kt et)) (hkt : P.underlying kt = some (.int .i64)) (hg : w.heap[b]? = some (mapO l)) :
    (Instr.mapUpdate t (.map (some b)) (int k) (int v)).run P w = .ok () { w with heap := w.heap.setIfInBounds b (mapO (mset k v l)) } := by
  have hf := run_findKey (P := P) (w := w) (k := k) (l := l) hkt
  have hc := fun e => run_checkKey (P := P) (w := w) (k := k) e 9999 hkt
  simp only [Nat.reduceAdd] at hc
  cases hm : midx k l with
  | none =>
    rw [hm] at hf
    obtain ⟨e, n⟩ := mset_none (k := k) (v := v) 0 hm
    have e2 : mapO (mset k v l) = .map ((ents 0 l).toArray.push ⟨int k, int v, l.length⟩) (l.length + 1) := by
      unfold mapO; rw [n, ← e]; simp
    rw [e2]
    simp [Instr.mapUpdate, Go.underlying, Sem.run, ht, getObj, hg, mapO, hc, hf, setObj]
    done
  | some p =>
    rw [hm] at hf
    obtain ⟨e, n, n2, n3⟩ := mset_some (k := k) (v := v) 0 p.1 p.2 hm
    have e2 : mapO (mset k v l) = .map ((ents 0 l).toArray.modify p.1 (fun e => { e with key := int k, val := int v })) l.length := by
      unfold mapO; rw [n, ← e]; simp
    rw [e2]
    have hsb : Instr.sameBits 10000 (int k) (int k) = true := by simp [Instr.sameBits, int]
    have hks : (Instr.keyThatStays (int k) (int k)).run P w = .ok (int k) w := by simp [Instr.keyThatStays, hsb]
    simp [Instr.mapUpdate, Go.underlying, Sem.run, ht, getObj, hg, mapO, hc, hf, setObj, n3, hks]
    done
theorem DA {x y z : Operand} {t kt et : TypeId} {b : Nat} {k v : Int} {l : List (Int × Int)} {H' : List PH} (h : evalE L x = some (.map (some b))) (hk : evalE L y = some (int k)) (hv : evalE L z = some (int v)) (ht : C.P.underlying t = some (.map kt et)) (hkt : C.P.underlying kt = some (.int .i64)) (hm : Take (sng b (mapO l)) H H') :
    Loud C R H L ⟨dst, .mapUpdate t x y z, ty, pos, aft, g⟩ (fun u H2 => u = undef ∧ H2 = sng b (mapO (mset k v l)) :: H') := by
  refine ⟨fun a w hx hs next Q hnx => ?_⟩
  have hg := hs.own hm
  have e1 := hx x (by simp [Op.operands]) _ h
  have e2 := hx y (by simp [Op.operands]) _ hk
  have e3 := hx z (by simp [Op.operands]) _ hv
  refine wpIn_skipv (w' := { w with heap := w.heap.setIfInBounds b (mapO (mset k v l)) }) (by intro c; simp) ?_ (hnx _ _ _ ⟨rfl, rfl⟩ (hs.turn hm ?_ ?_ ?_))
  · simp [execOp, e1, e2, e3, run_mapUpdate ht hkt hg]
  · simp
  · have : b < w.heap.size := by
      rw [Array.getElem?_eq_some_iff] at hg; exact hg.1
    simp [this]
  · intro k hk; simp [Array.getElem?_setIfInBounds, Ne.symm hk]
end Go.Eng
/- Plans: contacts, what is wrong with a plan. No program in sight. No conditions. -/
namespace Go.Step
structure Ct where
  f : Int
  t : Int
  s : Int
  e : Int
  r : Int
  g : Int
  l : Int
def okCt (c : Ct) : Prop := (0 ≤ c.f ∧ c.f ≤ 15) ∧ (0 ≤ c.t ∧ c.t ≤ 15) ∧ (1 ≤ c.r ∧ c.r ≤ 1000) ∧ (1 ≤ c.g ∧ c.g ≤ 1048576) ∧ (0 ≤ c.l ∧ c.l ≤ 16)
instance (c : Ct) : Decidable (okCt c) := inferInstanceAs (Decidable (_ ∧ _))
def chkCt (c : Ct) : Int := if ¬ okCt c then 2 else if c.f = c.t then 1 else if c.s < 0 ∨ c.e ≤ c.s ∨ 1099511627776 - 2 * c.g < c.e then 2 else 0
def ovl (c d : Ct) : Bool := decide (chkCt c = 0 ∧ chkCt d = 0 ∧ c.f = d.f ∧ c.t = d.t ∧ c.s < d.e ∧ d.s < c.e)
theorem ovl_comm (c d : Ct) : ovl c d = ovl d c := by
  unfold ovl
  by_cases h : chkCt c = 0 ∧ chkCt d = 0 ∧ c.f = d.f ∧ c.t = d.t ∧ c.s < d.e ∧ d.s < c.e
  · rw [decide_eq_true h, decide_eq_true (by omega)]
  · rw [decide_eq_false h, decide_eq_false (by omega)]
theorem chkCt_se {c : Ct} (h : chkCt c = 0) : 0 ≤ c.s ∧ c.s < c.e ∧ c.e ≤ 1099511627776 := by
  unfold chkCt at h
  split at h
  · omega
  · rename_i hk
    split at h
    · omega
    · split at h
      · omega
      · unfold okCt at hk
        omega
def firstE (e : Nat → Int) : Nat → Int
  | 0 => 0
  | n + 1 => if firstE e n ≠ 0 then firstE e n else e n
theorem firstE_ok {e : Nat → Int} {k : Nat} (h : firstE e k = 0) (h2 : e k = 0) : firstE e (k + 1) = 0 := by simp [firstE, h, h2]
theorem firstE_hit {e : Nat → Int} {k : Nat} (h : firstE e k = 0) (h2 : e k ≠ 0) : ∀ n, k < n → firstE e n = e k
  | 0, hn => by omega
  | n + 1, hn => by
    by_cases hk : k = n
    · subst hk; simp [firstE, h]
    · have ih := firstE_hit h h2 n (by omega)
      simp [firstE, ih, h2]
theorem firstE_zero {e : Nat → Int} : ∀ {n : Nat}, firstE e n = 0 → ∀ k, k < n → e k = 0
  | 0, _, k, hk => by omega
  | n + 1, h, k, hk => by
    unfold firstE at h
    split at h
    · contradiction
    · rename_i hc
      have hc' : firstE e n = 0 := Decidable.not_not.1 hc
      by_cases e' : k = n
      · subst e'; exact h
      · exact firstE_zero hc' k (by omega)
theorem firstE_all {e : Nat → Int} : ∀ {n : Nat}, (∀ k, k < n → e k = 0) → firstE e n = 0
  | 0, _ => rfl
  | n + 1, h => firstE_ok (firstE_all (fun k hk => h k (by omega))) (h n (by omega))
def quoE (qs : List Int) (i : Nat) : Int := match qs[i]? with
  | some q => if q < 0 ∨ 1073741824 < q then 2 else 0
  | none => 0
def ctE (n : Nat) (cs : List Ct) (i : Nat) : Int := match cs[i]? with
  | some c => if chkCt c ≠ 0 then chkCt c else if (n : Int) ≤ c.f ∨ (n : Int) ≤ c.t then 2 else if (cs.take i).any (ovl c) then 14 else 0
  | none => 0
def chkPl (qs : List Int) (cs : List Ct) : Int :=
  if qs.length < 1 ∨ 16 < qs.length ∨ 64 < cs.length then 4 else if firstE (quoE qs) qs.length ≠ 0 then firstE (quoE qs) qs.length else firstE (ctE qs.length cs) cs.length
end Go.Step
/- Contacts and plans: what is wrong with them, of the program and of the references. -/
namespace Go.Proofs.YtijheemiknkleaaGreatDoor
open Go.Eng Go.Step
set_option maxRecDepth 100000
set_option maxHeartbeats 4000000

def encC (c : Ct) : List Value := [int c.f, int c.t, int c.s, int c.e, int c.r, int c.g, int c.l]
theorem encC_len (c : Ct) : (encC c).length = 7 := rfl
theorem within_spec (a l h : Int) : Ans Tryz.prog (fv 92) [int a, int l, int h] [] (fun r => (r = .bool true ∧ l ≤ a ∧ a ≤ h) ∨ (r = .bool false ∧ ¬ (l ≤ a ∧ a ≤ h))) := by
 refine spec_in (cap := []) Tryz.func92 rfl rfl Tryz.ntmps92 rfl envZ (fun N β => ?_)
 by_cases h1 : l ≤ a
 ·by_cases h2 : a ≤ h
  ·refine AB ?_
   refine AA ?_
   refine AD ?_
   refine AE ?_
   refine AB ?_
   refine AA ?_
   refine AC ?_
   refine AC ?_
   refine CL ?_
   refine AC ?_
   refine AC ?_
   refine AC ?_
   refine C3 ?_
   refine AT ?_
   refine AD ?_
   refine AE ?_
   exact AI (res1 rfl rfl) rsubZ selZ ⟨rfl, .inl ⟨rfl, h1, h2⟩⟩
  ·refine AB ?_
   refine AA ?_
   refine AD ?_
   refine AE ?_
   refine AB ?_
   refine AA ?_
   refine AC ?_
   refine AC ?_
   refine CL ?_
   refine AC ?_
   refine AC ?_
   refine AC ?_
   refine C4 ?_
   refine AT ?_
   refine AD ?_
   refine AE ?_
   exact AI (res1 rfl rfl) rsubZ selZ ⟨rfl, .inr ⟨rfl, by omega⟩⟩
 ·refine AB ?_
  refine AA ?_
  refine AD ?_
  refine AE ?_
  refine AB ?_
  refine AA ?_
  refine AC ?_
  refine AC ?_
  refine BN ?_
  refine AC ?_
  refine AJ rfl rfl rfl ?_
  refine AJ rfl rfl rfl ?_
  refine AJ rfl rfl rfl ?_
  refine AK ?_
  refine AD ?_
  refine AE ?_
  exact AI (res1 rfl rfl) rsubZ selZ ⟨rfl, .inr ⟨rfl, by omega⟩⟩
set_option maxHeartbeats 16000000 in
theorem ctCheck_spec (c : Ct) : Ans Tryz.prog (fv 43) [.agg #[int c.f, int c.t, int c.s, int c.e, int c.r, int c.g, int c.l]] [] (fun r => r = int (chkCt c)) := by
 refine spec_in (cap := []) Tryz.func43 rfl rfl Tryz.ntmps43 rfl envZ (fun N β => ?_)
 repeat' (first
  | (refine AC ?_)
  | (refine AD ?_)
  | (refine AF ?_)
  | (refine AG ?_)
  | (refine AT ?_)
  | (refine AK ?_)
  | (refine BZ ?_)
  | (refine D4 ?_)
  | (refine E7 ?_)
  | (refine AB ?_)
  | (refine AA ?_)
  | (refine AE ?_)
  | (refine AL ?_)
  | (refine AQ rfl ?_)
  | (refine AM rfl ?_)
  | (refine AJ rfl rfl rfl ?_)
  | (focus ((refine A3 (within_spec _ _ _) rfl rfl rdZ rfl rfl ?_; rintro v (⟨rfl, h⟩ | ⟨rfl, h⟩))))
  | (refine BQ ?_; rintro _ _ ⟨b, rfl, rfl⟩)
  | (focus ((refine CF rfl rfl (cmp_eq _ _) rfl rfl (fun h => ?_) (fun h => ?_))))
  | (focus ((refine CF rfl rfl (cmp_lt _ _) rfl rfl (fun h => ?_) (fun h => ?_))))
  | (focus ((refine CF rfl rfl (cmp_le _ _) rfl rfl (fun h => ?_) (fun h => ?_))))
  | fail)
 all_goals (refine AI (res1 rfl rfl) rsubZ selZ ⟨rfl, ?_⟩)
 all_goals (unfold chkCt okCt; (repeat' split) <;> first | rfl | (exfalso; omega))
set_option maxHeartbeats 16000000 in
theorem refCtCheck_spec (c : Ct) : Ans Tryz.prog (fv 66) [.agg #[int c.f, int c.t, int c.s, int c.e, int c.r, int c.g, int c.l]] [] (fun r => r = int (chkCt c)) := by
 refine spec_in (cap := []) Tryz.func66 rfl rfl Tryz.ntmps66 rfl envZ (fun N β => ?_)
 repeat' (first
  | (refine AC ?_)
  | (refine AD ?_)
  | (refine AF ?_)
  | (refine AG ?_)
  | (refine AT ?_)
  | (refine AK ?_)
  | (refine D4 ?_)
  | (refine E7 ?_)
  | (refine AB ?_)
  | (refine AA ?_)
  | (refine AE ?_)
  | (refine AL ?_)
  | (refine AQ rfl ?_)
  | (refine AM rfl ?_)
  | (refine AJ rfl rfl rfl ?_)
  | (refine BQ ?_; rintro _ _ ⟨b, rfl, rfl⟩)
  | (focus ((refine CF rfl rfl (cmp_eq _ _) rfl rfl (fun h => ?_) (fun h => ?_))))
  | (focus ((refine CF rfl rfl (cmp_lt _ _) rfl rfl (fun h => ?_) (fun h => ?_))))
  | (focus ((refine CF rfl rfl (cmp_le _ _) rfl rfl (fun h => ?_) (fun h => ?_))))
  | fail)
 all_goals (refine AI (res1 rfl rfl) rsubZ selZ ⟨rfl, ?_⟩)
 all_goals (unfold chkCt okCt; (repeat' split) <;> first | rfl | (exfalso; omega))
theorem overlap_spec (c d : Ct) : Ans Tryz.prog (fv 46) [.agg #[int c.f, int c.t, int c.s, int c.e, int c.r, int c.g, int c.l], .agg #[int d.f, int d.t, int d.s, int d.e, int d.r, int d.g, int d.l]] [] (fun r => r = .bool (ovl c d)) := by
 refine spec_in (cap := []) Tryz.func46 rfl rfl Tryz.ntmps46 rfl envZ (fun N β => ?_)
 have hc := ctCheck_spec c
 have hd := ctCheck_spec d
 have sc := @chkCt_se c
 have sd := @chkCt_se d
 unfold ovl
 generalize chkCt c = x at hc sc
 generalize chkCt d = y at hd sd
 repeat' (first
  | (refine AC ?_)
  | (refine AD ?_)
  | (refine AF ?_)
  | (refine AG ?_)
  | (refine AT ?_)
  | (refine AK ?_)
  | (refine AN ?_)
  | (refine E8 ?_)
  | (refine DB ?_)
  | (refine AB ?_)
  | (refine AA ?_)
  | (refine AE ?_)
  | (refine AL ?_)
  | (refine AQ rfl ?_)
  | (refine AM rfl ?_)
  | (refine AJ rfl rfl rfl ?_)
  | (focus ((refine A3 hc rfl rfl rdZ rfl rfl ?_; rintro _ rfl)))
  | (focus ((refine A3 hd rfl rfl rdZ rfl rfl ?_; rintro _ rfl)))
  | (refine BQ ?_; rintro _ _ ⟨b, rfl, rfl⟩)
  | (focus ((refine CF rfl rfl (cmp_ne _ _) rfl rfl (fun h => ?_) (fun h => ?_))))
  | (focus ((refine CF rfl rfl (cmp_lt _ _) rfl rfl (fun h => ?_) (fun h => ?_))))
  | fail)
 all_goals (refine AI (res1 rfl rfl) rsubZ selZ ⟨rfl, ?_⟩)
 all_goals (congr 1; first | exact (decide_eq_false (by omega)).symm | exact (decide_eq_true (by omega)).symm | (apply decide_eq_decide.2; constructor <;> intro <;> omega))
theorem refOverlap_spec (c d : Ct) : Ans Tryz.prog (fv 67) [.agg #[int c.f, int c.t, int c.s, int c.e, int c.r, int c.g, int c.l], .agg #[int d.f, int d.t, int d.s, int d.e, int d.r, int d.g, int d.l]] [] (fun r => r = .bool (ovl c d)) := by
 refine spec_in (cap := []) Tryz.func67 rfl rfl Tryz.ntmps67 rfl envZ (fun N β => ?_)
 have hc := refCtCheck_spec c
 have hd := refCtCheck_spec d
 unfold ovl
 generalize chkCt c = x at hc
 generalize chkCt d = y at hd
 repeat' (first
  | (refine AC ?_)
  | (refine AD ?_)
  | (refine AF ?_)
  | (refine AG ?_)
  | (refine AT ?_)
  | (refine AK ?_)
  | (refine AN ?_)
  | (refine AB ?_)
  | (refine AA ?_)
  | (refine AE ?_)
  | (refine AJ rfl rfl rfl ?_)
  | (focus ((refine A3 hc rfl rfl rdZ rfl rfl ?_; rintro _ rfl)))
  | (focus ((refine A3 hd rfl rfl rdZ rfl rfl ?_; rintro _ rfl)))
  | (refine BQ ?_; rintro _ _ ⟨b, rfl, rfl⟩)
  | (focus ((refine CF rfl rfl (cmp_eq _ _) rfl rfl (fun h => ?_) (fun h => ?_))))
  | (focus ((refine CF rfl rfl (cmp_lt _ _) rfl rfl (fun h => ?_) (fun h => ?_))))
  | fail)
 all_goals (refine AI (res1 rfl rfl) rsubZ selZ ⟨rfl, ?_⟩)
 all_goals (congr 1; first | exact (decide_eq_false (by omega)).symm | exact (decide_eq_true (by omega)).symm | (apply decide_eq_decide.2; constructor <;> intro <;> omega))
end Go.Proofs.YtijheemiknkleaaGreatDoor
