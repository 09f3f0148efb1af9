/- Texts of this proof, one after the other; no conditions. -/
import Derived.Laws.StructEq
import Derived.ProofKit
import Derived.Deep.Slices
import Derived.Lib.SmallJoins
import Derived.Test.YtekcielcagdcmaaGreatDoorProg
import Derived.Lib.SlicesCompact
import Derived.Sort.OwnSortedInts
import Derived.Sort.EveryDepth
import Derived.Lib.RowBridge
import Derived.Shelf.Slices.In.SortNone
import Derived.Test.YtekcielcagdcmaaGreatDoorWB1
set_option linter.all false
/- Truth values and structs of numbers compared. No conditions. -/
namespace Go.Eng
variable {C : Cx} {D : List Deferred} {R H : List PH} {L : Env} {K : List It}
section
variable {dst : Option Tmp} {ty : TypeId} {pos : String} {aft : Array Edge} {g : Option (Nat × Bool)}
variable {t yT : TypeId} {x y : Operand}
theorem GB {a b : Bool} (h1 : evalE L x = some (.bool a)) (h2 : evalE L y = some (.bool b)) (ht : C.P.underlying t = some .bool) : Quiet C R H L ⟨dst, .binOp .eql t x y yT, ty, pos, aft, g⟩ (.bool (a == b)) :=
  ⟨by intro c; simp, fun ac w hx _ => by
    have e1 := hx x (by simp [Op.operands]) _ h1
    have e2 := hx y (by simp [Op.operands]) _ h2
    have h3 := run_equalIn_bool' (P := C.P) w 9999 t a b ht
    simp only [Nat.reduceAdd] at h3
    simp [execOp, e1, e2, eqGuard, binOp, Op.equal, Op.maxDepth, h3]⟩
theorem FF {a b : Bool} (h1 : evalE L x = some (.bool a)) (h2 : evalE L y = some (.bool b)) (ht : C.P.underlying t = some .bool) : Quiet C R H L ⟨dst, .binOp .neq t x y yT, ty, pos, aft, g⟩ (.bool (!(a == b))) :=
  ⟨by intro c; simp, fun ac w hx _ => by
    have e1 := hx x (by simp [Op.operands]) _ h1
    have e2 := hx y (by simp [Op.operands]) _ h2
    have h3 := run_equalIn_bool' (P := C.P) w 9999 t a b ht
    simp only [Nat.reduceAdd] at h3
    simp [execOp, e1, e2, eqGuard, binOp, Op.equal, Op.maxDepth, h3]⟩
def fldI (P : Program) (k : Nat) (f : Field) : Bool := f.name != "_" && f.offset == k && (match P.underlying f.type with | some (.int .i64) => true | _ => false)
def fldsI (P : Program) : Nat → List Field → Bool
  | _, [] => true
  | k, f :: fs => fldI P k f && fldsI P (k + 1) fs
def intsP (P : Program) (t : TypeId) (n : Nat) : Bool := match P.underlying t with
  | some (.struct fs) => fs.size == n && fldsI P 0 fs.toList
  | _ => false
theorem eqFields_ints {P : Program} (w : World) (d : Nat) (l m : List Int) : ∀ (fs : List Field) (k : Nat), fldsI P k fs = true → k + fs.length = l.length → l.length = m.length →
    (Op.eqFields (d + 1) (l.map int).toArray (m.map int).toArray fs).run P w = .ok (decide (l.drop k = m.drop k)) w
  | [], k, _, h, h2 => by
    rw [List.drop_of_length_le (by simp at h; omega), List.drop_of_length_le (by simp at h; omega)]
    simp [Op.eqFields]
  | f :: fs, k, hf, h, h2 => by
    simp only [fldsI, fldI, Bool.and_eq_true, bne_iff_ne, ne_eq, beq_iff_eq] at hf
    obtain ⟨⟨⟨h3, h4⟩, h5⟩, h6⟩ := hf
    have hu : P.underlying f.type = some (.int .i64) := by
      split at h5
      · assumption
      · simp at h5
    have ih := eqFields_ints w d l m fs (k + 1) h6 (by simp at h; omega) h2
    have hk : k < l.length := by simp at h; omega
    have hk2 : k < m.length := by omega
    have hp : ∀ (q : List Int) (hq : k < q.length), (part f.type (q.map int).toArray f.offset).run P w = .ok (int q[k]) w := fun q hq => by
      have hag : aggP P f.type = some false := by simp [aggP, hu]
      simp [part, run_isAgg hag, h4, hq]
    have hd : decide (l.drop k = m.drop k) = (decide (l[k] = m[k]) && decide (l.drop (k + 1) = m.drop (k + 1))) := by
      rw [List.drop_eq_getElem_cons hk, List.drop_eq_getElem_cons hk2, Bool.eq_iff_iff];simp only [List.cons.injEq, decide_eq_true_eq, Bool.and_eq_true]
    rw [hd]
    have he := run_equalIn_int (P := P) w d f.type .i64 .i64 l[k] m[k] hu
    simp only [Op.eqFields, h3, not_false_eq_true, if_true, Sem.run_bind, hp l hk, hp m hk2, Result.andThen_ok, he, ne_eq]
    by_cases hkm : l[k] = m[k]
    · simp only [hkm, beq_self_eq_true, Bool.not_true, Bool.false_eq_true, if_false, ih, decide_true, Bool.true_and]
    · have : (l[k] == m[k]) = false := by simpa using hkm
      simp only [this, hkm, Bool.not_false, if_true, Sem.run_pure, decide_false, Bool.false_and]
theorem intsP_of {P : Program} {n : Nat} (h : intsP P t n = true) : ∃ fs : Array Field, P.underlying t = some (.struct fs) ∧ fs.size = n ∧ fldsI P 0 fs.toList = true := by
  unfold intsP at h
  split at h
  · rename_i fs hu
    simp only [Bool.and_eq_true, beq_iff_eq] at h;exact ⟨fs, hu, h.1, h.2⟩
  · simp at h
theorem run_eqInts {P : Program} (w : World) {l m : List Int} {n : Nat} (hi : intsP P t n = true) (hp : P.stoodInHeld t = false) (hl : l.length = n) (hm : m.length = n) : (Op.equalIn 10000 t (.agg (l.map int).toArray) (.agg (m.map int).toArray)).run P w = .ok (decide (l = m)) w := by
  obtain ⟨fs, hu, hs, hf⟩ := intsP_of hi
  have hfo : P.fieldsOf t = fs := by simp [Program.fieldsOf, hu]
  have h1 := run_equalIn_struct (P := P) w 9999 t (l.map int).toArray (m.map int).toArray (by rw [hfo]; exact hu) hp
  have h2 := eqFields_ints (P := P) w 9998 l m fs.toList 0 hf (by simp [hs, hl]) (by omega)
  rw [hfo] at h1;simp only [Nat.reduceAdd] at h1 h2;rw [h1, h2]; simp
theorem q_eqS (l m : List Int) {n : Nat} (h1 : evalE L x = some (.agg (l.map int).toArray)) (h2 : evalE L y = some (.agg (m.map int).toArray)) (hi : intsP C.P t n = true) (hp : C.P.stoodInHeld t = false) (hg : C.P.eqGuardType C.P.depth t = false) (hl : l.length = n) (hm : m.length = n) :
    Quiet C R H L ⟨dst, .binOp .eql t x y yT, ty, pos, aft, g⟩ (.bool (decide (l = m))) :=
  ⟨by intro c; simp, fun ac w hx _ => by
    have e1 := hx x (by simp [Op.operands]) _ h1
    have e2 := hx y (by simp [Op.operands]) _ h2
    have h3 := run_eql_struct (P := C.P) w t (l.map int).toArray (m.map int).toArray
    rw [run_eqInts w hi hp hl hm] at h3
    have h4 := run_eqGuard_agg (P := C.P) w .eql t x y (l.map int).toArray (m.map int).toArray hg
    simp [execOp, e1, e2, h3, h4]⟩
theorem q_neS (l m : List Int) {n : Nat} (h1 : evalE L x = some (.agg (l.map int).toArray)) (h2 : evalE L y = some (.agg (m.map int).toArray)) (hi : intsP C.P t n = true) (hp : C.P.stoodInHeld t = false) (hg : C.P.eqGuardType C.P.depth t = false) (hl : l.length = n) (hm : m.length = n) :
    Quiet C R H L ⟨dst, .binOp .neq t x y yT, ty, pos, aft, g⟩ (.bool (!decide (l = m))) :=
  ⟨by intro c; simp, fun ac w hx _ => by
    have e1 := hx x (by simp [Op.operands]) _ h1
    have e2 := hx y (by simp [Op.operands]) _ h2
    have h3 := run_neq_struct (P := C.P) w t (l.map int).toArray (m.map int).toArray
    rw [run_eqInts w hi hp hl hm] at h3
    have h4 := run_eqGuard_agg (P := C.P) w .neq t x y (l.map int).toArray (m.map int).toArray hg
    simp [execOp, e1, e2, h3, h4]⟩
end
end Go.Eng
namespace Go.Eng
open Go.ChangeShapes Go.WideShapes Go.RowKit
def heapPH (w : World) : PH := fun b => w.heap[b]?
theorem sat_heap (w : World) : Sat (Bs.of w) [heapPH w] [] w :=
  ⟨⟨Nat.le_refl _, rfl, rfl, rfl, Nat.le_refl _⟩, by intro ρ hρ; simp at hρ; subst hρ; exact fun b o h => h, by simp, List.Pairwise.nil, by simp⟩
theorem rdc_heap {w : World} {b o : Nat} {v : Value} (h : w.cell? ⟨b, o, none⟩ = some v) : rdc (heapPH w) b o = some v := by
  unfold World.cell? at h;unfold rdc heapPH
  cases e : w.heap[b]? with
  | none => simp [e] at h
  | some ob => cases ob <;> simp_all
theorem cell_spot {w : World} {a : Addr} {v : Value} (h : w.cell? a = some v) : a.spot = none := by
  unfold World.cell? at h
  split at h
  · split at h
    · simp at h
    · rename_i hs; simpa using hs
  · simp at h
theorem law_calls {P : Program} {f : FuncId} {fn : Func} {c : Code} {args : List Value} {W : World} (hf : P.funcs[f]? = some fn) (hb : fn.body = some c) (hname : (fn.name == "runtime.NumGoroutine") = false)
    (hs : Ans P (fv f) args [heapPH W] (fun v => v = .bool true)) : Calls P f args.toArray W (fun e W' => e = .returned (.bool true) ∧ Below W.heap.size W W') := by
  have h := hs (Bs.of W) W (sat_heap W)
  unfold CallsV at h
  have hrun : ((do let d ← Deferred.ofValue (fv f) args.toArray; invoke d.target d.args : Sem Next).run P W) = .ok (.enter f args.toArray) W := by
    have hname' : ¬ fn.name = "runtime.NumGoroutine" := by simpa using hname
    simp [Deferred.ofValue, invoke, callFunc, program, Sem.run, bind, Sem.bind, pure, hf, hb, hname']
  rw [hrun] at h;refine callsIn_wide.1 (CallsIn.mono h ?_);rintro e W' ⟨v, rfl, H', ⟨rfl, rfl⟩, hu⟩
  exact ⟨rfl, hu.size.2.1, hu.size.2.2.2.1, hu.size.2.2.1, hu.size.1, fun k hk => hu.keep k hk (by simp)⟩
def RdT (P : Program) (W : World) (t : TypeId) (cs : List Value) : Prop := ∃ (H : Type) (enc : TypeId × Value → H) (fuel : Nat) (x : DataW H × List MemPlace), DataW.trod enc P W 0 (fun _ => true) true fuel t cs = some x
section
variable {P : Program} {W : World} {t : TypeId} {cs : List Value}
theorem RdT.of {H : Type} {enc : TypeId × Value → H} {v : Value} {d : DataW H} {p : List MemPlace} (h : DataW.Trod enc P W 0 (fun _ => true) true t v d p) : RdT P W t v.cells.toList := by
  obtain ⟨fuel, hf⟩ := h
  exact ⟨H, enc, fuel, _, hf⟩
theorem RdT.num {k : IntKind} (ht : P.underlying t = some (.int k)) (h : RdT P W t cs) : ∃ n, cs = [.int k n] ∧ (Lit.int k n).wf = true := by
  obtain ⟨H, enc, fuel, x, h⟩ := h
  obtain ⟨n, h1, _, h2⟩ := DataW.trod_int ht h
  exact ⟨n, h1, h2⟩
theorem wf_i64 {n : Int} (h : (Lit.int .i64 n).wf = true) : In64 n := by
  simp only [Lit.wf, Bool.and_eq_true, decide_eq_true_eq] at h;exact ⟨h.1, h.2⟩
theorem RdT.i64 (ht : P.underlying t = some (.int .i64)) (h : RdT P W t cs) : ∃ n, cs = [int n] ∧ In64 n := by
  obtain ⟨n, h1, h2⟩ := h.num ht
  exact ⟨n, h1, wf_i64 h2⟩
theorem RdT.bool (ht : P.underlying t = some .bool) (h : RdT P W t cs) : ∃ b, cs = [.bool b] := by
  obtain ⟨H, enc, fuel, x, h⟩ := h
  cases fuel with
  | zero => simp [DataW.trod] at h
  | succ n =>
    unfold DataW.trod at h;rw [ht] at h
    split at h <;> simp_all
theorem RdT.str (ht : P.underlying t = some .string) (h : RdT P W t cs) : ∃ s, cs = [.string s] ∧ s.size ≤ maxLen := by
  obtain ⟨H, enc, fuel, x, h⟩ := h
  cases fuel with
  | zero => simp [DataW.trod] at h
  | succ n =>
    unfold DataW.trod at h;rw [ht] at h
    split at h <;> simp_all
theorem RdT.struct {fs : Array Field} (ht : P.underlying t = some (.struct fs)) (h : RdT P W t cs) : cs.length = P.cellsOf t ∧ ∀ (i : Nat) (f : Field), fs[i]? = some f → RdT P W f.type ((cs.drop f.offset).take (P.cellsOf f.type)) := by
  obtain ⟨H, enc, fuel, x, h⟩ := h
  obtain ⟨xs, n, _, _, hl, hlen, hf⟩ := DataW.trod_struct ht h
  refine ⟨hl, fun i f hi => ?_⟩
  have hif : i < xs.length := by rw [hlen]; exact (Array.getElem?_eq_some_iff.1 hi).1
  have := hf i f hi
  rw [List.getElem?_eq_getElem hif] at this;exact ⟨H, enc, n, _, this⟩
theorem RdT.fld1 {fs : Array Field} (ht : P.underlying t = some (.struct fs)) (h : RdT P W t cs) (i : Nat) {f : Field} (hi : fs[i]? = some f) {ty : TypeId} {o : Nat} {c : Value} (hty : f.type = ty) (ho : f.offset = o) (hc : P.cellsOf ty = 1) (hcs : cs[o]? = some c) : RdT P W ty [c] := by
  have := (h.struct ht).2 i f hi
  rw [hty, ho, hc] at this
  obtain ⟨hlt, he⟩ := List.getElem?_eq_some_iff.1 hcs
  rw [List.drop_eq_getElem_cons hlt, he] at this
  simpa using this
theorem choose_list {α : Type} (q : Nat → α → Prop) : ∀ n, (∀ i, i < n → ∃ a, q i a) → ∃ l : List α, l.length = n ∧ ∀ i a, l[i]? = some a → q i a
  | 0, _ => ⟨[], rfl, by simp⟩
  | n + 1, h => by
    obtain ⟨l, hl, hq⟩ := choose_list q n (fun i hi => h i (by omega))
    obtain ⟨a, ha⟩ := h n (by omega)
    refine ⟨l ++ [a], by simp [hl], fun i b hb => ?_⟩
    by_cases e : i < n
    · rw [List.getElem?_append_left (by omega)] at hb; exact hq i b hb
    · rw [List.getElem?_append_right (by omega)] at hb
      have hi : i - l.length = 0 := by
        have := (List.getElem?_eq_some_iff.1 hb).1
        simp at this; omega
      rw [hi] at hb
      simp at hb
      subst hb
      have : i = n := by omega
      subst this; exact ha
theorem RdT.slice {e : TypeId} {s : Nat} (ht : P.underlying t = some (.slice e)) (hs : P.cellsOf e = s) (h0 : 0 < s) (h : RdT P W t cs) :
    ∃ v p c, cs = [v] ∧ ∃ els : List (List Value), v = .slice p els.length c ∧ els.length ≤ maxLen ∧ ∀ i x, els[i]? = some x → x.length = s ∧ RdT P W e x ∧ ∃ b o, p = some ⟨b, o, none⟩ ∧ RdN (heapPH W) b (o + i * s) x := by
  obtain ⟨H, enc, fuel, x, h⟩ := h
  rcases Deep.open_slice ht h with ⟨rfl, _⟩ | ⟨a, len, cap, m, n, D, Pl, rfl, _, hlc, hcm, hm, _, hx⟩
  · exact ⟨_, none, 0, rfl, [], rfl, by simp, by simp⟩
  · have hm' : m = cap := by rw [hm]; simp
    obtain ⟨els, hl, hq⟩ := choose_list (fun i cs' => W.cells? 0 (a.add (i * P.cellsOf e)) (P.cellsOf e) = some cs' ∧ DataW.trod enc P W 0 (fun _ => true) true n e cs' = some (D i, Pl i)) len (fun i hi => hx i (by omega))
    refine ⟨_, some a, cap, rfl, els, by rw [hl], by omega, fun i y hy => ?_⟩
    obtain ⟨q1, q2⟩ := hq i y hy
    obtain ⟨_, k1, k2⟩ := World.cells?_some q1
    rw [hs] at k1 k2
    have hsp : a.spot = none := by
      have hi : i < els.length := (List.getElem?_eq_some_iff.1 hy).1
      obtain ⟨r1, _⟩ := hq 0 els[0] (List.getElem?_eq_getElem (by omega))
      obtain ⟨_, g1, g2⟩ := World.cells?_some r1
      rw [hs] at g1 g2
      have hv0 : els[0][0]? = some (els[0][0]'(by omega)) := List.getElem?_eq_getElem (by omega)
      have := cell_spot ((g2 0 h0).trans hv0)
      simpa [Addr.add] using this
    obtain ⟨b, o, sp⟩ := a
    simp only at hsp;subst hsp
    have hadd : ∀ m : Nat, (⟨b, o, none⟩ : Addr).add m = ⟨b, o + m, none⟩ := fun m => by
      unfold Addr.add
      split
      · rename_i e; rw [e]; rfl
      · rfl
    have hadd2 : ∀ m k : Nat, (⟨b, o + m, none⟩ : Addr).add k = ⟨b, o + m + k, none⟩ := fun m k => by
      unfold Addr.add
      split
      · rename_i e; rw [e]; rfl
      · rfl
    refine ⟨k1, ⟨H, enc, n, _, q2⟩, b, o, rfl, fun j v hv => ?_⟩
    have hj : j < s := by
      have := (List.getElem?_eq_some_iff.1 hv).1
      omega
    have := (k2 j hj).trans hv
    rw [hadd, hadd2] at this;exact rdc_heap this
theorem RdT.sliceE {α : Type} {enc : α → List Value} {Q : α → Prop} {e : TypeId} {s : Nat} (ht : P.underlying t = some (.slice e)) (hs : P.cellsOf e = s) (h0 : 0 < s) (hel : ∀ x, RdT P W e x → ∃ a, x = enc a ∧ Q a) (h : RdT P W t cs) :
    ∃ v, cs = [v] ∧ ∃ l : List α, SlE enc s (heapPH W) v l ∧ (∀ a ∈ l, Q a) ∧ l.length ≤ maxLen := by
  obtain ⟨v, p, c, rfl, els, rfl, hle, hx⟩ := h.slice ht hs h0
  obtain ⟨l, hl, hq⟩ := choose_list (fun i (a : α) => ∀ x, els[i]? = some x → x = enc a ∧ Q a) els.length (fun i hi => by
    obtain ⟨a, h1, h2⟩ := hel els[i] (hx i _ (List.getElem?_eq_getElem hi)).2.1
    exact ⟨a, fun x hx => by rw [List.getElem?_eq_getElem hi] at hx; obtain rfl := Option.some.inj hx; exact ⟨h1, h2⟩⟩)
  have hlen : ∀ i a, l[i]? = some a → (enc a).length = s ∧ Q a ∧ ∃ b o, p = some ⟨b, o, none⟩ ∧ RdN (heapPH W) b (o + i * s) (enc a) := fun i a ha => by
    have hi : i < els.length := by rw [← hl]; exact (List.getElem?_eq_some_iff.1 ha).1
    obtain ⟨e1, e2⟩ := hq i a ha _ (List.getElem?_eq_getElem hi)
    obtain ⟨k1, _, k3⟩ := hx i _ (List.getElem?_eq_getElem hi)
    rw [e1] at k1 k3;exact ⟨k1, e2, k3⟩
  refine ⟨_, rfl, l, ⟨?_, ?_⟩, fun a ha => ?_, by omega⟩
  · clear hq hx hle
    have : ∀ (l : List α), (∀ a ∈ l, (enc a).length = s) → (l.flatMap enc).length = l.length * s := by
      intro l
      induction l with
      | nil => simp
      | cons a l ih =>
        intro hall
        rw [List.flatMap_cons, List.length_append, ih (fun b hb => hall b (by simp [hb])), hall a (by simp), List.length_cons, Nat.add_mul]; omega
    exact this l (fun a ha => by
      obtain ⟨i, hi, e⟩ := List.getElem_of_mem ha
      exact (hlen i a (by rw [List.getElem?_eq_getElem hi, e])).1)
  · rcases Nat.eq_zero_or_pos l.length with hz | hz
    · left; refine ⟨hz, p, c, by rw [← hl, hz]⟩
    · right
      obtain ⟨_, _, b, o, rfl, _⟩ := hlen 0 l[0] (List.getElem?_eq_getElem hz)
      refine ⟨b, o, c, by rw [hl], fun j u hu => ?_⟩
      have hfl : ∀ (l' : List α) (k : Nat), (∀ i a, l'[i]? = some a → (enc a).length = s ∧ RdN (heapPH W) b (o + (k + i) * s) (enc a)) → ∀ j u, (l'.flatMap enc)[j]? = some u → rdc (heapPH W) b (o + k * s + j) = some u := by
        intro l'
        induction l' with
        | nil => intro k _ j u hu; simp at hu
        | cons a l' ih =>
          intro k hall j u hu
          have h1 := hall 0 a rfl
          rw [List.flatMap_cons] at hu
          by_cases hj : j < (enc a).length
          · rw [List.getElem?_append_left hj] at hu
            have := h1.2 j u hu
            rwa [Nat.add_zero] at this
          · rw [List.getElem?_append_right (by omega)] at hu
            have := ih (k + 1) (fun i b' hb => by
              have := hall (i + 1) b' (by simpa using hb)
              rwa [show k + (i + 1) = k + 1 + i from by omega] at this) (j - (enc a).length) u hu
            rw [h1.1] at this hj
            rwa [show o + (k + 1) * s + (j - s) = o + k * s + j from by rw [Nat.add_mul]; omega] at this
      have := hfl l 0 (fun i a ha => by
        obtain ⟨k1, _, b', o', e, k3⟩ := hlen i a ha
        simp only [Option.some.injEq, Addr.mk.injEq, and_true] at e
        obtain ⟨rfl, rfl⟩ := e
        rw [Nat.zero_add]; exact ⟨k1, k3⟩) j u hu
      rwa [Nat.zero_mul, Nat.add_zero] at this
  · obtain ⟨i, hi, e⟩ := List.getElem_of_mem ha
    exact (hlen i a (by rw [List.getElem?_eq_getElem hi, e])).2.1
theorem RdT.ints {e : TypeId} (ht : P.underlying t = some (.slice e)) (he : P.underlying e = some (.int .i64)) (hs : P.cellsOf e = 1) (h : RdT P W t cs) :
    ∃ v, cs = [v] ∧ ∃ l : List Int, IntsAt (heapPH W) v l ∧ (∀ a ∈ l, In64 a) ∧ l.length ≤ maxLen :=
  h.sliceE ht hs (by omega) (fun x hx => hx.i64 he)
end
theorem okWide_agg {P : Program} {w : World} {r : Reach} {base : Nat} {t : TypeId} {v : Value} {fs : Array Field} (ht : P.underlying t = some (.struct fs)) (h : Value.okWide P w r base t v) : ∃ cs, v = .agg cs := by
  simp only [Value.okWide, ht] at h
  obtain ⟨cs, h1, _⟩ := h
  exact ⟨cs, h1⟩
end Go.Eng
namespace Go.Eng
variable {C:Cx} {D:List Deferred} {R H:List PH} {L:Env} {K:List It}
structure RdP (ρ:PH) (b o:Nat) (vs:List Value):Prop where
  rd:RdN ρ b o vs
theorem cellsP {N:Bs} {σ:PH} {b o:Nat} {vs:List Value} (h:RdP σ b o vs) (m:Mem σ R):Cells N R H b o vs:=cellsR h.rd m
theorem rdP_sng {b k:Nat} {xs vs:List Value} {t:TypeId} {fr:Nat × Nat} (h:(xs.drop k).take vs.length=vs):RdP (sng b (.cells xs.toArray t fr)) b k vs:=⟨fun j v hv=>by
  rw [rdc_sng];rw [← h] at hv
  have hlt:=(List.getElem?_eq_some_iff.1 hv).1
  rw [List.length_take] at hlt
  rw [List.getElem?_take_of_lt (by omega),List.getElem?_drop] at hv
  simpa using hv⟩
end Go.Eng
namespace Go.Eng
variable {C:Cx} {D:List Deferred} {R H Hf:List PH} {L:Env} {K:List It} {ps ls:List Nat}
variable {all:Array Oper} {o:Oper} {d i:Nat} {v:Value} {done:List Nat}
structure GWz (C:Cx) (L:Env) (all:Array Oper) (o:Oper) (d:Nat):Prop where
  a:wantE all L o=some true
  b:o.dst=some d
  c:Nat.blt d C.M=true
theorem rsubZ {R0 R:List PH} (h:∀ ρ∈R0,ρ∈R:=by (repeat (first|exact rs_nil|(refine rs_cons ?_ ?_; (focus ((repeat (first|exact .here|apply Mem.there|apply Take.there)); first|done|fail)))|exact fun ρ hρ=>hρ|(intro ρ hρ; repeat (first|exact hρ|refine List.mem_cons_of_mem _ ?_)))); first|done|fail):∀ ρ∈R0,ρ∈R:=h
theorem envZ {k:Nat} {vs cap:List Value} {L:Env} (h:EnvA k vs cap L:=by (repeat (first|exact EnvA.nil EnvI.nil|apply EnvA.cons|apply EnvA.nil|exact EnvI.nil|apply EnvI.cons)); first|done|fail):EnvA k vs cap L:=h
theorem takesZ {H T H':List PH} (h:Takes H T H':=by (repeat (first|exact Takes.nil|(apply Takes.cons; exact (by (repeat (first|exact .here|apply Take.there)); first|done|fail)))); first|done|fail):Takes H T H':=h
theorem putiZ {ps:List Nat} {vs:List Value} {L L':Env} (h:PutI ps vs L L':=by (repeat (first|exact PutI.nil|apply PutI.cons)); first|done|fail):PutI ps vs L L':=h
theorem oneZ {vs:List Value} {p:Value→Prop} (h:∀ v∈vs,p v:=by (repeat (first|exact (fun v hv=>absurd hv List.not_mem_nil)|(refine List.forall_mem_cons.2 ⟨?_,?_⟩; (focus (first|exact rfl|assumption))))); first|done|fail):∀ v∈vs,p v:=h
theorem selZ {H H':List PH} (h:Sel H H':=by (repeat (first|exact Sel.nil|(apply Sel.cons; (focus ((repeat (first|exact .here|apply Mem.there|apply Take.there)); first|done|fail))))); first|done|fail):Sel H H':=h
theorem covZ {L L':Env} (h:Cover L L':=by (repeat (first|exact trivial|refine And.intro rfl ?_)); first|done|fail):Cover L L':=h
theorem pickZ {L L':Env} {ks:List Nat} (h:Pick L ks L':=by (repeat (first|exact Pick.nil|apply Pick.cons rfl)); first|done|fail):Pick L ks L':=h
theorem rdZ {R1 R H:List PH} (h:RdOK R1 R H:=by (repeat (first|exact RdOK.nil|(refine RdOK.consR ?_ ?_; (focus ((repeat (first|exact .here|apply Mem.there|apply Take.there)); first|done|fail)))|(refine RdOK.consH ?_ ?_; (focus ((repeat (first|exact .here|apply Mem.there|apply Take.there)); first|done|fail)))|exact (fun τ hτ=>.inl (by simp [hτ])))); first|done|fail):RdOK R1 R H:=h
theorem memZ {ρ:PH} {H:List PH} (h:Mem ρ H:=by (repeat (first|exact .here|apply Mem.there)); first|done|fail):Mem ρ H:=h
theorem takeZ {ρ:PH} {H H':List PH} (h:Take ρ H H':=by (repeat (first|exact .here|apply Take.there)); first|done|fail):Take ρ H H':=h
theorem AB {rest:List Oper} (h:JK C D R H ((d,v)::L) (.ops all rest::K)) (hq:Quiet C R H L o v:=by (apply ET; exact rfl)) (g:GWz C L all o d:=by exact ⟨rfl,rfl,rfl⟩):JK C D R H L (.ops all (o::rest)::K):=BT hq g.a g.b g.c h
theorem AL {rest:Pl} (h:DJ C D R Hf H ((d,v)::L) all (i::done) ps ls rest K) (ho:all[i]?=some o:=by exact rfl) (hq:Quiet C R H L o v:=by (apply ET; exact rfl)) (g:GWz C L all o d:=by exact ⟨rfl,rfl,rfl⟩) (hin:(ps.all (done.contains ·))=true:=by exact rfl):DJ C D R Hf H L all done ps ls (.q i rest) K:=CJ ho hq g.a g.b g.c hin h
theorem DB {rest:Pl} (h:DJ C D R Hf H ((d,v)::L) all (i::done) (i::ps) ls rest K) (ho:all[i]?=some o:=by exact rfl) (hq:Quiet C R Hf L o v:=by (apply ET; exact rfl)) (g:GWz C L all o d:=by exact ⟨rfl,rfl,rfl⟩):DJ C D R Hf H L all done ps ls (.p i rest) K:=GF ho hq g.a g.b g.c h
theorem AC {rest:List Oper} (h:JK C D R H ((d,v)::L) (.ops all rest::K)) (hq:Quiet C R H L o v:=by (apply FA; exact rfl)) (g:GWz C L all o d:=by exact ⟨rfl,rfl,rfl⟩):JK C D R H L (.ops all (o::rest)::K):=BT hq g.a g.b g.c h
theorem AR {rest:Pl} (h:DJ C D R Hf H ((d,v)::L) all (i::done) ps ls rest K) (ho:all[i]?=some o:=by exact rfl) (hq:Quiet C R H L o v:=by (apply FA; exact rfl)) (g:GWz C L all o d:=by exact ⟨rfl,rfl,rfl⟩) (hin:(ps.all (done.contains ·))=true:=by exact rfl):DJ C D R Hf H L all done ps ls (.q i rest) K:=CJ ho hq g.a g.b g.c hin h
theorem AJ {rest:List Oper} (h:JK C D R H ((d,v)::L) (.ops all rest::K)) (hq:Quiet C R H L o v:=by (apply D6; exact rfl; exact rfl)) (g:GWz C L all o d:=by exact ⟨rfl,rfl,rfl⟩):JK C D R H L (.ops all (o::rest)::K):=BT hq g.a g.b g.c h
theorem A7 {rest:Pl} (h:DJ C D R Hf H ((d,v)::L) all (i::done) ps ls rest K) (ho:all[i]?=some o:=by exact rfl) (hq:Quiet C R H L o v:=by (apply D6; exact rfl; exact rfl)) (g:GWz C L all o d:=by exact ⟨rfl,rfl,rfl⟩) (hin:(ps.all (done.contains ·))=true:=by exact rfl):DJ C D R Hf H L all done ps ls (.q i rest) K:=CJ ho hq g.a g.b g.c hin h
theorem A6 {rest:Pl} (h:DJ C D R Hf H ((d,v)::L) all (i::done) (i::ps) ls rest K) (ho:all[i]?=some o:=by exact rfl) (hq:Quiet C R Hf L o v:=by (apply D6; exact rfl; exact rfl)) (g:GWz C L all o d:=by exact ⟨rfl,rfl,rfl⟩):DJ C D R Hf H L all done ps ls (.p i rest) K:=GF ho hq g.a g.b g.c h
theorem AF {rest:List Oper} (h:JK C D R H ((d,v)::L) (.ops all rest::K)) (hq:Quiet C R H L o v:=by (apply EU; exact rfl; exact rfl; (first|exact cell_own (by (repeat (first|exact .here|apply Mem.there)); first|done|fail) rfl|exact cellR (by assumption) (by (repeat (first|exact .here|apply Mem.there)); first|done|fail)|exact cellH (by assumption) (by (repeat (first|exact .here|apply Mem.there)); first|done|fail)|exact cell_ints (by (repeat (first|exact .here|apply Mem.there)); first|done|fail) (by omega)|exact cell_bools (by assumption) (by (repeat (first|exact .here|apply Mem.there)); first|done|fail)|exact cell_intsR (by (repeat (first|exact .here|apply Mem.there)); first|done|fail) (by omega)|exact cell_boolsR (by assumption) (by (repeat (first|exact .here|apply Mem.there)); first|done|fail)))) (g:GWz C L all o d:=by exact ⟨rfl,rfl,rfl⟩):JK C D R H L (.ops all (o::rest)::K):=BT hq g.a g.b g.c h
theorem AX {rest:Pl} (h:DJ C D R Hf H ((d,v)::L) all (i::done) ps ls rest K) (ho:all[i]?=some o:=by exact rfl) (hq:Quiet C R H L o v:=by (apply EU; exact rfl; exact rfl; (first|exact cell_own (by (repeat (first|exact .here|apply Mem.there)); first|done|fail) rfl|exact cellR (by assumption) (by (repeat (first|exact .here|apply Mem.there)); first|done|fail)|exact cellH (by assumption) (by (repeat (first|exact .here|apply Mem.there)); first|done|fail)|exact cell_ints (by (repeat (first|exact .here|apply Mem.there)); first|done|fail) (by omega)|exact cell_bools (by assumption) (by (repeat (first|exact .here|apply Mem.there)); first|done|fail)|exact cell_intsR (by (repeat (first|exact .here|apply Mem.there)); first|done|fail) (by omega)|exact cell_boolsR (by assumption) (by (repeat (first|exact .here|apply Mem.there)); first|done|fail)))) (g:GWz C L all o d:=by exact ⟨rfl,rfl,rfl⟩) (hin:(ps.all (done.contains ·))=true:=by exact rfl):DJ C D R Hf H L all done ps ls (.q i rest) K:=CJ ho hq g.a g.b g.c hin h
theorem GU {rest:Pl} (h:DJ C D R Hf H ((d,v)::L) all (i::done) (i::ps) ls rest K) (ho:all[i]?=some o:=by exact rfl) (hq:Quiet C R Hf L o v:=by (apply EU; exact rfl; exact rfl; (first|exact cell_own (by (repeat (first|exact .here|apply Mem.there)); first|done|fail) rfl|exact cellR (by assumption) (by (repeat (first|exact .here|apply Mem.there)); first|done|fail)|exact cellH (by assumption) (by (repeat (first|exact .here|apply Mem.there)); first|done|fail)|exact cell_ints (by (repeat (first|exact .here|apply Mem.there)); first|done|fail) (by omega)|exact cell_bools (by assumption) (by (repeat (first|exact .here|apply Mem.there)); first|done|fail)|exact cell_intsR (by (repeat (first|exact .here|apply Mem.there)); first|done|fail) (by omega)|exact cell_boolsR (by assumption) (by (repeat (first|exact .here|apply Mem.there)); first|done|fail)))) (g:GWz C L all o d:=by exact ⟨rfl,rfl,rfl⟩):DJ C D R Hf H L all done ps ls (.p i rest) K:=GF ho hq g.a g.b g.c h
theorem AG {rest:List Oper} (h:JK C D R H ((d,v)::L) (.ops all rest::K)) (hq:Quiet C R H L o v:=by (apply FV; exact rfl; exact rfl)) (g:GWz C L all o d:=by exact ⟨rfl,rfl,rfl⟩):JK C D R H L (.ops all (o::rest)::K):=BT hq g.a g.b g.c h
theorem A2 {rest:Pl} (h:DJ C D R Hf H ((d,v)::L) all (i::done) ps ls rest K) (ho:all[i]?=some o:=by exact rfl) (hq:Quiet C R H L o v:=by (apply FV; exact rfl; exact rfl)) (g:GWz C L all o d:=by exact ⟨rfl,rfl,rfl⟩) (hin:(ps.all (done.contains ·))=true:=by exact rfl):DJ C D R Hf H L all done ps ls (.q i rest) K:=CJ ho hq g.a g.b g.c hin h
theorem E6 {rest:Pl} (h:DJ C D R Hf H ((d,v)::L) all (i::done) (i::ps) ls rest K) (ho:all[i]?=some o:=by exact rfl) (hq:Quiet C R Hf L o v:=by (apply FV; exact rfl; exact rfl)) (g:GWz C L all o d:=by exact ⟨rfl,rfl,rfl⟩):DJ C D R Hf H L all done ps ls (.p i rest) K:=GF ho hq g.a g.b g.c h
theorem C0 {rest:List Oper} (h:JK C D R H ((d,v)::L) (.ops all rest::K)) (hq:Quiet C R H L o v:=by (apply GG; exact rfl; exact rfl)) (g:GWz C L all o d:=by exact ⟨rfl,rfl,rfl⟩):JK C D R H L (.ops all (o::rest)::K):=BT hq g.a g.b g.c h
theorem CY {rest:Pl} (h:DJ C D R Hf H ((d,v)::L) all (i::done) ps ls rest K) (ho:all[i]?=some o:=by exact rfl) (hq:Quiet C R H L o v:=by (apply GG; exact rfl; exact rfl)) (g:GWz C L all o d:=by exact ⟨rfl,rfl,rfl⟩) (hin:(ps.all (done.contains ·))=true:=by exact rfl):DJ C D R Hf H L all done ps ls (.q i rest) K:=CJ ho hq g.a g.b g.c hin h
theorem DQ {rest:List Oper} (h:JK C D R H ((d,v)::L) (.ops all rest::K)) (hq:Quiet C R H L o v:=by (apply EJ; exact rfl; exact rfl)) (g:GWz C L all o d:=by exact ⟨rfl,rfl,rfl⟩):JK C D R H L (.ops all (o::rest)::K):=BT hq g.a g.b g.c h
theorem C7 {rest:Pl} (h:DJ C D R Hf H ((d,v)::L) all (i::done) ps ls rest K) (ho:all[i]?=some o:=by exact rfl) (hq:Quiet C R H L o v:=by (apply EJ; exact rfl; exact rfl)) (g:GWz C L all o d:=by exact ⟨rfl,rfl,rfl⟩) (hin:(ps.all (done.contains ·))=true:=by exact rfl):DJ C D R Hf H L all done ps ls (.q i rest) K:=CJ ho hq g.a g.b g.c hin h
theorem zp_fld {rest:Pl} (h:DJ C D R Hf H ((d,v)::L) all (i::done) (i::ps) ls rest K) (ho:all[i]?=some o:=by exact rfl) (hq:Quiet C R Hf L o v:=by (apply EJ; exact rfl; exact rfl)) (g:GWz C L all o d:=by exact ⟨rfl,rfl,rfl⟩):DJ C D R Hf H L all done ps ls (.p i rest) K:=GF ho hq g.a g.b g.c h
theorem DH {rest:List Oper} (h:JK C D R H ((d,v)::L) (.ops all rest::K)) (hq:Quiet C R H L o v:=by (apply q_idx0; exact rfl; exact rfl; exact rfl; exact rfl; omega)) (g:GWz C L all o d:=by exact ⟨rfl,rfl,rfl⟩):JK C D R H L (.ops all (o::rest)::K):=BT hq g.a g.b g.c h
theorem DE {rest:List Oper} (h:JK C D R H ((d,v)::L) (.ops all rest::K)) (hq:Quiet C R H L o v:=by (apply FW; exact rfl; exact rfl; exact rfl; exact rfl; omega)) (g:GWz C L all o d:=by exact ⟨rfl,rfl,rfl⟩):JK C D R H L (.ops all (o::rest)::K):=BT hq g.a g.b g.c h
theorem GV {rest:Pl} (h:DJ C D R Hf H ((d,v)::L) all (i::done) ps ls rest K) (ho:all[i]?=some o:=by exact rfl) (hq:Quiet C R H L o v:=by (apply FW; exact rfl; exact rfl; exact rfl; exact rfl; omega)) (g:GWz C L all o d:=by exact ⟨rfl,rfl,rfl⟩) (hin:(ps.all (done.contains ·))=true:=by exact rfl):DJ C D R Hf H L all done ps ls (.q i rest) K:=CJ ho hq g.a g.b g.c hin h
theorem CA {rest:List Oper} (h:JK C D R H ((d,v)::L) (.ops all rest::K)) (hq:Quiet C R H L o v:=by (apply GD; exact rfl; exact rfl; exact rfl; exact rfl; omega)) (g:GWz C L all o d:=by exact ⟨rfl,rfl,rfl⟩):JK C D R H L (.ops all (o::rest)::K):=BT hq g.a g.b g.c h
theorem CE {rest:Pl} (h:DJ C D R Hf H ((d,v)::L) all (i::done) ps ls rest K) (ho:all[i]?=some o:=by exact rfl) (hq:Quiet C R H L o v:=by (apply GD; exact rfl; exact rfl; exact rfl; exact rfl; omega)) (g:GWz C L all o d:=by exact ⟨rfl,rfl,rfl⟩) (hin:(ps.all (done.contains ·))=true:=by exact rfl):DJ C D R Hf H L all done ps ls (.q i rest) K:=CJ ho hq g.a g.b g.c hin h
theorem DX {rest:List Oper} (h:JK C D R H ((d,v)::L) (.ops all rest::K)) (hq:Quiet C R H L o v:=by (apply FD; exact rfl; exact rfl; exact rfl; exact rfl; omega)) (g:GWz C L all o d:=by exact ⟨rfl,rfl,rfl⟩):JK C D R H L (.ops all (o::rest)::K):=BT hq g.a g.b g.c h
theorem D8 {rest:Pl} (h:DJ C D R Hf H ((d,v)::L) all (i::done) ps ls rest K) (ho:all[i]?=some o:=by exact rfl) (hq:Quiet C R H L o v:=by (apply FD; exact rfl; exact rfl; exact rfl; exact rfl; omega)) (g:GWz C L all o d:=by exact ⟨rfl,rfl,rfl⟩) (hin:(ps.all (done.contains ·))=true:=by exact rfl):DJ C D R Hf H L all done ps ls (.q i rest) K:=CJ ho hq g.a g.b g.c hin h
theorem AV {rest:List Oper} (h:JK C D R H ((d,v)::L) (.ops all rest::K)) (hq:Quiet C R H L o v:=by (apply FB; exact rfl; exact rfl)) (g:GWz C L all o d:=by exact ⟨rfl,rfl,rfl⟩):JK C D R H L (.ops all (o::rest)::K):=BT hq g.a g.b g.c h
theorem BY {rest:Pl} (h:DJ C D R Hf H ((d,v)::L) all (i::done) ps ls rest K) (ho:all[i]?=some o:=by exact rfl) (hq:Quiet C R H L o v:=by (apply FB; exact rfl; exact rfl)) (g:GWz C L all o d:=by exact ⟨rfl,rfl,rfl⟩) (hin:(ps.all (done.contains ·))=true:=by exact rfl):DJ C D R Hf H L all done ps ls (.q i rest) K:=CJ ho hq g.a g.b g.c hin h
theorem AP {rest:List Oper} (h:JK C D R H ((d,v)::L) (.ops all rest::K)) (hq:Quiet C R H L o v:=by (apply FC; exact rfl; exact rfl)) (g:GWz C L all o d:=by exact ⟨rfl,rfl,rfl⟩):JK C D R H L (.ops all (o::rest)::K):=BT hq g.a g.b g.c h
theorem CB {rest:Pl} (h:DJ C D R Hf H ((d,v)::L) all (i::done) ps ls rest K) (ho:all[i]?=some o:=by exact rfl) (hq:Quiet C R H L o v:=by (apply FC; exact rfl; exact rfl)) (g:GWz C L all o d:=by exact ⟨rfl,rfl,rfl⟩) (hin:(ps.all (done.contains ·))=true:=by exact rfl):DJ C D R Hf H L all done ps ls (.q i rest) K:=CJ ho hq g.a g.b g.c hin h
theorem BD {rest:List Oper} (h:JK C D R H ((d,v)::L) (.ops all rest::K)) (hq:Quiet C R H L o v:=by (apply q_len; exact rfl; exact rfl)) (g:GWz C L all o d:=by exact ⟨rfl,rfl,rfl⟩):JK C D R H L (.ops all (o::rest)::K):=BT hq g.a g.b g.c h
theorem C1 {rest:Pl} (h:DJ C D R Hf H ((d,v)::L) all (i::done) ps ls rest K) (ho:all[i]?=some o:=by exact rfl) (hq:Quiet C R H L o v:=by (apply q_len; exact rfl; exact rfl)) (g:GWz C L all o d:=by exact ⟨rfl,rfl,rfl⟩) (hin:(ps.all (done.contains ·))=true:=by exact rfl):DJ C D R Hf H L all done ps ls (.q i rest) K:=CJ ho hq g.a g.b g.c hin h
theorem BE {rest:List Oper} (h:JK C D R H ((d,v)::L) (.ops all rest::K)) (hq:Quiet C R H L o v:=by (apply q_not; exact rfl)) (g:GWz C L all o d:=by exact ⟨rfl,rfl,rfl⟩):JK C D R H L (.ops all (o::rest)::K):=BT hq g.a g.b g.c h
theorem DC {rest:Pl} (h:DJ C D R Hf H ((d,v)::L) all (i::done) ps ls rest K) (ho:all[i]?=some o:=by exact rfl) (hq:Quiet C R H L o v:=by (apply q_not; exact rfl)) (g:GWz C L all o d:=by exact ⟨rfl,rfl,rfl⟩) (hin:(ps.all (done.contains ·))=true:=by exact rfl):DJ C D R Hf H L all done ps ls (.q i rest) K:=CJ ho hq g.a g.b g.c hin h
theorem AU {rest:List Oper} (h:JK C D R H ((d,v)::L) (.ops all rest::K)) (hq:Quiet C R H L o v:=by (apply DV; exact rfl)) (g:GWz C L all o d:=by exact ⟨rfl,rfl,rfl⟩):JK C D R H L (.ops all (o::rest)::K):=BT hq g.a g.b g.c h
theorem A3 {rest:Pl} (h:DJ C D R Hf H ((d,v)::L) all (i::done) ps ls rest K) (ho:all[i]?=some o:=by exact rfl) (hq:Quiet C R H L o v:=by (apply DV; exact rfl)) (g:GWz C L all o d:=by exact ⟨rfl,rfl,rfl⟩) (hin:(ps.all (done.contains ·))=true:=by exact rfl):DJ C D R Hf H L all done ps ls (.q i rest) K:=CJ ho hq g.a g.b g.c hin h
theorem DF {rest:Pl} (h:DJ C D R Hf H ((d,v)::L) all (i::done) (i::ps) ls rest K) (ho:all[i]?=some o:=by exact rfl) (hq:Quiet C R Hf L o v:=by (apply DV; exact rfl)) (g:GWz C L all o d:=by exact ⟨rfl,rfl,rfl⟩):DJ C D R Hf H L all done ps ls (.p i rest) K:=GF ho hq g.a g.b g.c h
theorem BS {rest:List Oper} (h:JK C D R H ((d,v)::L) (.ops all rest::K)) (hq:Quiet C R H L o v:=by (apply q_inc; exact rfl; exact rfl; omega)) (g:GWz C L all o d:=by exact ⟨rfl,rfl,rfl⟩):JK C D R H L (.ops all (o::rest)::K):=BT hq g.a g.b g.c h
theorem FG {rest:Pl} (h:DJ C D R Hf H ((d,v)::L) all (i::done) ps ls rest K) (ho:all[i]?=some o:=by exact rfl) (hq:Quiet C R H L o v:=by (apply q_inc; exact rfl; exact rfl; omega)) (g:GWz C L all o d:=by exact ⟨rfl,rfl,rfl⟩) (hin:(ps.all (done.contains ·))=true:=by exact rfl):DJ C D R Hf H L all done ps ls (.q i rest) K:=CJ ho hq g.a g.b g.c hin h
theorem B7 {rest:List Oper} (h:JK C D R H ((d,v)::L) (.ops all rest::K)) (hq:Quiet C R H L o v:=by (apply q_lt; exact rfl; exact rfl; omega)) (g:GWz C L all o d:=by exact ⟨rfl,rfl,rfl⟩):JK C D R H L (.ops all (o::rest)::K):=BT hq g.a g.b g.c h
theorem F3 {rest:Pl} (h:DJ C D R Hf H ((d,v)::L) all (i::done) ps ls rest K) (ho:all[i]?=some o:=by exact rfl) (hq:Quiet C R H L o v:=by (apply q_lt; exact rfl; exact rfl; omega)) (g:GWz C L all o d:=by exact ⟨rfl,rfl,rfl⟩) (hin:(ps.all (done.contains ·))=true:=by exact rfl):DJ C D R Hf H L all done ps ls (.q i rest) K:=CJ ho hq g.a g.b g.c hin h
theorem BK {rest:List Oper} (h:JK C D R H ((d,v)::L) (.ops all rest::K)) (hq:Quiet C R H L o v:=by (apply q_ltF; exact rfl; exact rfl; omega)) (g:GWz C L all o d:=by exact ⟨rfl,rfl,rfl⟩):JK C D R H L (.ops all (o::rest)::K):=BT hq g.a g.b g.c h
theorem DR {rest:Pl} (h:DJ C D R Hf H ((d,v)::L) all (i::done) ps ls rest K) (ho:all[i]?=some o:=by exact rfl) (hq:Quiet C R H L o v:=by (apply q_ltF; exact rfl; exact rfl; omega)) (g:GWz C L all o d:=by exact ⟨rfl,rfl,rfl⟩) (hin:(ps.all (done.contains ·))=true:=by exact rfl):DJ C D R Hf H L all done ps ls (.q i rest) K:=CJ ho hq g.a g.b g.c hin h
theorem CN {rest:List Oper} (h:JK C D R H ((d,v)::L) (.ops all rest::K)) (hq:Quiet C R H L o v:=by (apply q_eq; exact rfl; exact rfl; omega)) (g:GWz C L all o d:=by exact ⟨rfl,rfl,rfl⟩):JK C D R H L (.ops all (o::rest)::K):=BT hq g.a g.b g.c h
theorem ED {rest:Pl} (h:DJ C D R Hf H ((d,v)::L) all (i::done) ps ls rest K) (ho:all[i]?=some o:=by exact rfl) (hq:Quiet C R H L o v:=by (apply q_eq; exact rfl; exact rfl; omega)) (g:GWz C L all o d:=by exact ⟨rfl,rfl,rfl⟩) (hin:(ps.all (done.contains ·))=true:=by exact rfl):DJ C D R Hf H L all done ps ls (.q i rest) K:=CJ ho hq g.a g.b g.c hin h
theorem B9 {rest:List Oper} (h:JK C D R H ((d,v)::L) (.ops all rest::K)) (hq:Quiet C R H L o v:=by (apply q_eqF; exact rfl; exact rfl; omega)) (g:GWz C L all o d:=by exact ⟨rfl,rfl,rfl⟩):JK C D R H L (.ops all (o::rest)::K):=BT hq g.a g.b g.c h
theorem D9 {rest:Pl} (h:DJ C D R Hf H ((d,v)::L) all (i::done) ps ls rest K) (ho:all[i]?=some o:=by exact rfl) (hq:Quiet C R H L o v:=by (apply q_eqF; exact rfl; exact rfl; omega)) (g:GWz C L all o d:=by exact ⟨rfl,rfl,rfl⟩) (hin:(ps.all (done.contains ·))=true:=by exact rfl):DJ C D R Hf H L all done ps ls (.q i rest) K:=CJ ho hq g.a g.b g.c hin h
theorem C8 {rest:List Oper} (h:JK C D R H ((d,v)::L) (.ops all rest::K)) (hq:Quiet C R H L o v:=by (apply q_ne; exact rfl; exact rfl; omega)) (g:GWz C L all o d:=by exact ⟨rfl,rfl,rfl⟩):JK C D R H L (.ops all (o::rest)::K):=BT hq g.a g.b g.c h
theorem zd_ne {rest:Pl} (h:DJ C D R Hf H ((d,v)::L) all (i::done) ps ls rest K) (ho:all[i]?=some o:=by exact rfl) (hq:Quiet C R H L o v:=by (apply q_ne; exact rfl; exact rfl; omega)) (g:GWz C L all o d:=by exact ⟨rfl,rfl,rfl⟩) (hin:(ps.all (done.contains ·))=true:=by exact rfl):DJ C D R Hf H L all done ps ls (.q i rest) K:=CJ ho hq g.a g.b g.c hin h
theorem BM {rest:List Oper} (h:JK C D R H ((d,v)::L) (.ops all rest::K)) (hq:Quiet C R H L o v:=by (apply q_neF; exact rfl; exact rfl; omega)) (g:GWz C L all o d:=by exact ⟨rfl,rfl,rfl⟩):JK C D R H L (.ops all (o::rest)::K):=BT hq g.a g.b g.c h
theorem F4 {rest:Pl} (h:DJ C D R Hf H ((d,v)::L) all (i::done) ps ls rest K) (ho:all[i]?=some o:=by exact rfl) (hq:Quiet C R H L o v:=by (apply q_neF; exact rfl; exact rfl; omega)) (g:GWz C L all o d:=by exact ⟨rfl,rfl,rfl⟩) (hin:(ps.all (done.contains ·))=true:=by exact rfl):DJ C D R Hf H L all done ps ls (.q i rest) K:=CJ ho hq g.a g.b g.c hin h
theorem DA {rest:List Oper} (h:JK C D R H ((d,v)::L) (.ops all rest::K)) (hq:Quiet C R H L o v:=by (apply q_gt; exact rfl; exact rfl; omega)) (g:GWz C L all o d:=by exact ⟨rfl,rfl,rfl⟩):JK C D R H L (.ops all (o::rest)::K):=BT hq g.a g.b g.c h
theorem EW {rest:Pl} (h:DJ C D R Hf H ((d,v)::L) all (i::done) ps ls rest K) (ho:all[i]?=some o:=by exact rfl) (hq:Quiet C R H L o v:=by (apply q_gt; exact rfl; exact rfl; omega)) (g:GWz C L all o d:=by exact ⟨rfl,rfl,rfl⟩) (hin:(ps.all (done.contains ·))=true:=by exact rfl):DJ C D R Hf H L all done ps ls (.q i rest) K:=CJ ho hq g.a g.b g.c hin h
theorem BO {rest:List Oper} (h:JK C D R H ((d,v)::L) (.ops all rest::K)) (hq:Quiet C R H L o v:=by (apply q_gtF; exact rfl; exact rfl; omega)) (g:GWz C L all o d:=by exact ⟨rfl,rfl,rfl⟩):JK C D R H L (.ops all (o::rest)::K):=BT hq g.a g.b g.c h
theorem D0 {rest:Pl} (h:DJ C D R Hf H ((d,v)::L) all (i::done) ps ls rest K) (ho:all[i]?=some o:=by exact rfl) (hq:Quiet C R H L o v:=by (apply q_gtF; exact rfl; exact rfl; omega)) (g:GWz C L all o d:=by exact ⟨rfl,rfl,rfl⟩) (hin:(ps.all (done.contains ·))=true:=by exact rfl):DJ C D R Hf H L all done ps ls (.q i rest) K:=CJ ho hq g.a g.b g.c hin h
theorem EE {rest:List Oper} (h:JK C D R H ((d,v)::L) (.ops all rest::K)) (hq:Quiet C R H L o v:=by (apply q_le; exact rfl; exact rfl; omega)) (g:GWz C L all o d:=by exact ⟨rfl,rfl,rfl⟩):JK C D R H L (.ops all (o::rest)::K):=BT hq g.a g.b g.c h
theorem zd_le {rest:Pl} (h:DJ C D R Hf H ((d,v)::L) all (i::done) ps ls rest K) (ho:all[i]?=some o:=by exact rfl) (hq:Quiet C R H L o v:=by (apply q_le; exact rfl; exact rfl; omega)) (g:GWz C L all o d:=by exact ⟨rfl,rfl,rfl⟩) (hin:(ps.all (done.contains ·))=true:=by exact rfl):DJ C D R Hf H L all done ps ls (.q i rest) K:=CJ ho hq g.a g.b g.c hin h
theorem FH {rest:List Oper} (h:JK C D R H ((d,v)::L) (.ops all rest::K)) (hq:Quiet C R H L o v:=by (apply q_leF; exact rfl; exact rfl; omega)) (g:GWz C L all o d:=by exact ⟨rfl,rfl,rfl⟩):JK C D R H L (.ops all (o::rest)::K):=BT hq g.a g.b g.c h
theorem zd_leF {rest:Pl} (h:DJ C D R Hf H ((d,v)::L) all (i::done) ps ls rest K) (ho:all[i]?=some o:=by exact rfl) (hq:Quiet C R H L o v:=by (apply q_leF; exact rfl; exact rfl; omega)) (g:GWz C L all o d:=by exact ⟨rfl,rfl,rfl⟩) (hin:(ps.all (done.contains ·))=true:=by exact rfl):DJ C D R Hf H L all done ps ls (.q i rest) K:=CJ ho hq g.a g.b g.c hin h
theorem C9 {rest:List Oper} (h:JK C D R H ((d,v)::L) (.ops all rest::K)) (hq:Quiet C R H L o v:=by (apply q_ge; exact rfl; exact rfl; omega)) (g:GWz C L all o d:=by exact ⟨rfl,rfl,rfl⟩):JK C D R H L (.ops all (o::rest)::K):=BT hq g.a g.b g.c h
theorem EX {rest:Pl} (h:DJ C D R Hf H ((d,v)::L) all (i::done) ps ls rest K) (ho:all[i]?=some o:=by exact rfl) (hq:Quiet C R H L o v:=by (apply q_ge; exact rfl; exact rfl; omega)) (g:GWz C L all o d:=by exact ⟨rfl,rfl,rfl⟩) (hin:(ps.all (done.contains ·))=true:=by exact rfl):DJ C D R Hf H L all done ps ls (.q i rest) K:=CJ ho hq g.a g.b g.c hin h
theorem CP {rest:List Oper} (h:JK C D R H ((d,v)::L) (.ops all rest::K)) (hq:Quiet C R H L o v:=by (apply q_geF; exact rfl; exact rfl; omega)) (g:GWz C L all o d:=by exact ⟨rfl,rfl,rfl⟩):JK C D R H L (.ops all (o::rest)::K):=BT hq g.a g.b g.c h
theorem EY {rest:Pl} (h:DJ C D R Hf H ((d,v)::L) all (i::done) ps ls rest K) (ho:all[i]?=some o:=by exact rfl) (hq:Quiet C R H L o v:=by (apply q_geF; exact rfl; exact rfl; omega)) (g:GWz C L all o d:=by exact ⟨rfl,rfl,rfl⟩) (hin:(ps.all (done.contains ·))=true:=by exact rfl):DJ C D R Hf H L all done ps ls (.q i rest) K:=CJ ho hq g.a g.b g.c hin h
theorem CK {rest:List Oper} (h:JK C D R H ((d,v)::L) (.ops all rest::K)) (hq:Quiet C R H L o v:=by (apply EV; exact rfl; exact rfl; omega; omega)) (g:GWz C L all o d:=by exact ⟨rfl,rfl,rfl⟩):JK C D R H L (.ops all (o::rest)::K):=BT hq g.a g.b g.c h
theorem CF {rest:Pl} (h:DJ C D R Hf H ((d,v)::L) all (i::done) ps ls rest K) (ho:all[i]?=some o:=by exact rfl) (hq:Quiet C R H L o v:=by (apply EV; exact rfl; exact rfl; omega; omega)) (g:GWz C L all o d:=by exact ⟨rfl,rfl,rfl⟩) (hin:(ps.all (done.contains ·))=true:=by exact rfl):DJ C D R Hf H L all done ps ls (.q i rest) K:=CJ ho hq g.a g.b g.c hin h
theorem CD {rest:List Oper} (h:JK C D R H ((d,v)::L) (.ops all rest::K)) (hq:Quiet C R H L o v:=by (apply GM; exact rfl; exact rfl; exact ⟨by omega,by omega⟩)) (g:GWz C L all o d:=by exact ⟨rfl,rfl,rfl⟩):JK C D R H L (.ops all (o::rest)::K):=BT hq g.a g.b g.c h
theorem DI {rest:Pl} (h:DJ C D R Hf H ((d,v)::L) all (i::done) ps ls rest K) (ho:all[i]?=some o:=by exact rfl) (hq:Quiet C R H L o v:=by (apply GM; exact rfl; exact rfl; exact ⟨by omega,by omega⟩)) (g:GWz C L all o d:=by exact ⟨rfl,rfl,rfl⟩) (hin:(ps.all (done.contains ·))=true:=by exact rfl):DJ C D R Hf H L all done ps ls (.q i rest) K:=CJ ho hq g.a g.b g.c hin h
theorem DM {rest:List Oper} (h:JK C D R H ((d,v)::L) (.ops all rest::K)) (hq:Quiet C R H L o v:=by (apply GN; exact rfl; exact rfl; exact ⟨by omega,by omega⟩)) (g:GWz C L all o d:=by exact ⟨rfl,rfl,rfl⟩):JK C D R H L (.ops all (o::rest)::K):=BT hq g.a g.b g.c h
theorem EG {rest:Pl} (h:DJ C D R Hf H ((d,v)::L) all (i::done) ps ls rest K) (ho:all[i]?=some o:=by exact rfl) (hq:Quiet C R H L o v:=by (apply GN; exact rfl; exact rfl; exact ⟨by omega,by omega⟩)) (g:GWz C L all o d:=by exact ⟨rfl,rfl,rfl⟩) (hin:(ps.all (done.contains ·))=true:=by exact rfl):DJ C D R Hf H L all done ps ls (.q i rest) K:=CJ ho hq g.a g.b g.c hin h
theorem FI {rest:List Oper} (h:JK C D R H ((d,v)::L) (.ops all rest::K)) (hq:Quiet C R H L o v:=by (apply q_mul; exact rfl; exact rfl; exact ⟨by omega,by omega⟩)) (g:GWz C L all o d:=by exact ⟨rfl,rfl,rfl⟩):JK C D R H L (.ops all (o::rest)::K):=BT hq g.a g.b g.c h
theorem GI {rest:Pl} (h:DJ C D R Hf H ((d,v)::L) all (i::done) ps ls rest K) (ho:all[i]?=some o:=by exact rfl) (hq:Quiet C R H L o v:=by (apply q_mul; exact rfl; exact rfl; exact ⟨by omega,by omega⟩)) (g:GWz C L all o d:=by exact ⟨rfl,rfl,rfl⟩) (hin:(ps.all (done.contains ·))=true:=by exact rfl):DJ C D R Hf H L all done ps ls (.q i rest) K:=CJ ho hq g.a g.b g.c hin h
theorem F5 {rest:List Oper} (h:JK C D R H ((d,v)::L) (.ops all rest::K)) (hq:Quiet C R H L o v:=by (apply q_quo; exact rfl; exact rfl; omega; omega; omega)) (g:GWz C L all o d:=by exact ⟨rfl,rfl,rfl⟩):JK C D R H L (.ops all (o::rest)::K):=BT hq g.a g.b g.c h
theorem GJ {rest:Pl} (h:DJ C D R Hf H ((d,v)::L) all (i::done) ps ls rest K) (ho:all[i]?=some o:=by exact rfl) (hq:Quiet C R H L o v:=by (apply q_quo; exact rfl; exact rfl; omega; omega; omega)) (g:GWz C L all o d:=by exact ⟨rfl,rfl,rfl⟩) (hin:(ps.all (done.contains ·))=true:=by exact rfl):DJ C D R Hf H L all done ps ls (.q i rest) K:=CJ ho hq g.a g.b g.c hin h
theorem zd_rem {rest:Pl} (h:DJ C D R Hf H ((d,v)::L) all (i::done) ps ls rest K) (ho:all[i]?=some o:=by exact rfl) (hq:Quiet C R H L o v:=by (apply q_rem; exact rfl; exact rfl; omega; omega)) (g:GWz C L all o d:=by exact ⟨rfl,rfl,rfl⟩) (hin:(ps.all (done.contains ·))=true:=by exact rfl):DJ C D R Hf H L all done ps ls (.q i rest) K:=CJ ho hq g.a g.b g.c hin h
theorem AQ {rest:List Oper} (h:JK C D R H ((d,v)::L) (.ops all rest::K)) (hq:Quiet C R H L o v:=by (apply CX; exact rfl; exact rfl; (first|(exact cells_own (by (repeat (first|exact .here|apply Mem.there)); first|done|fail); exact rfl)|(exact cellsR (by assumption) (by (repeat (first|exact .here|apply Mem.there)); first|done|fail); exact rfl)|(exact cellsH (by assumption) (by (repeat (first|exact .here|apply Mem.there)); first|done|fail); exact rfl)|(exact cellsP (by assumption) (by (repeat (first|exact .here|apply Mem.there)); first|done|fail); exact rfl)))) (g:GWz C L all o d:=by exact ⟨rfl,rfl,rfl⟩):JK C D R H L (.ops all (o::rest)::K):=BT hq g.a g.b g.c h
theorem BP {rest:Pl} (h:DJ C D R Hf H ((d,v)::L) all (i::done) ps ls rest K) (ho:all[i]?=some o:=by exact rfl) (hq:Quiet C R H L o v:=by (apply CX; exact rfl; exact rfl; (first|(exact cells_own (by (repeat (first|exact .here|apply Mem.there)); first|done|fail); exact rfl)|(exact cellsR (by assumption) (by (repeat (first|exact .here|apply Mem.there)); first|done|fail); exact rfl)|(exact cellsH (by assumption) (by (repeat (first|exact .here|apply Mem.there)); first|done|fail); exact rfl)|(exact cellsP (by assumption) (by (repeat (first|exact .here|apply Mem.there)); first|done|fail); exact rfl)))) (g:GWz C L all o d:=by exact ⟨rfl,rfl,rfl⟩) (hin:(ps.all (done.contains ·))=true:=by exact rfl):DJ C D R Hf H L all done ps ls (.q i rest) K:=CJ ho hq g.a g.b g.c hin h
theorem D5 {rest:Pl} (h:DJ C D R Hf H ((d,v)::L) all (i::done) (i::ps) ls rest K) (ho:all[i]?=some o:=by exact rfl) (hq:Quiet C R Hf L o v:=by (apply CX; exact rfl; exact rfl; (first|(exact cells_own (by (repeat (first|exact .here|apply Mem.there)); first|done|fail); exact rfl)|(exact cellsR (by assumption) (by (repeat (first|exact .here|apply Mem.there)); first|done|fail); exact rfl)|(exact cellsH (by assumption) (by (repeat (first|exact .here|apply Mem.there)); first|done|fail); exact rfl)|(exact cellsP (by assumption) (by (repeat (first|exact .here|apply Mem.there)); first|done|fail); exact rfl)))) (g:GWz C L all o d:=by exact ⟨rfl,rfl,rfl⟩):DJ C D R Hf H L all done ps ls (.p i rest) K:=GF ho hq g.a g.b g.c h
theorem FJ {rest:List Oper} (h:JK C D R H ((d,v)::L) (.ops all rest::K)) (hq:Quiet C R H L o v:=by (apply q_min; exact rfl; exact rfl)) (g:GWz C L all o d:=by exact ⟨rfl,rfl,rfl⟩):JK C D R H L (.ops all (o::rest)::K):=BT hq g.a g.b g.c h
theorem zd_min {rest:Pl} (h:DJ C D R Hf H ((d,v)::L) all (i::done) ps ls rest K) (ho:all[i]?=some o:=by exact rfl) (hq:Quiet C R H L o v:=by (apply q_min; exact rfl; exact rfl)) (g:GWz C L all o d:=by exact ⟨rfl,rfl,rfl⟩) (hin:(ps.all (done.contains ·))=true:=by exact rfl):DJ C D R Hf H L all done ps ls (.q i rest) K:=CJ ho hq g.a g.b g.c hin h
theorem EZ {rest:List Oper} (h:JK C D R H ((d,v)::L) (.ops all rest::K)) (hq:Quiet C R H L o v:=by (apply q_max; exact rfl; exact rfl)) (g:GWz C L all o d:=by exact ⟨rfl,rfl,rfl⟩):JK C D R H L (.ops all (o::rest)::K):=BT hq g.a g.b g.c h
theorem F6 {rest:Pl} (h:DJ C D R Hf H ((d,v)::L) all (i::done) ps ls rest K) (ho:all[i]?=some o:=by exact rfl) (hq:Quiet C R H L o v:=by (apply q_max; exact rfl; exact rfl)) (g:GWz C L all o d:=by exact ⟨rfl,rfl,rfl⟩) (hin:(ps.all (done.contains ·))=true:=by exact rfl):DJ C D R Hf H L all done ps ls (.q i rest) K:=CJ ho hq g.a g.b g.c hin h
theorem BZ {rest:List Oper} (h:JK C D R H ((d,v)::L) (.ops all rest::K)) (hq:Quiet C R H L o v:=by (apply FS; exact rfl; exact rfl)) (g:GWz C L all o d:=by exact ⟨rfl,rfl,rfl⟩):JK C D R H L (.ops all (o::rest)::K):=BT hq g.a g.b g.c h
theorem E0 {rest:List Oper} (h:JK C D R H ((d,v)::L) (.ops all rest::K)) (hq:Quiet C R H L o v:=by (apply GB; exact rfl; exact rfl; exact rfl)) (g:GWz C L all o d:=by exact ⟨rfl,rfl,rfl⟩):JK C D R H L (.ops all (o::rest)::K):=BT hq g.a g.b g.c h
theorem FL {rest:List Oper} (h:JK C D R H ((d,v)::L) (.ops all rest::K)) (hq:Quiet C R H L o v:=by (apply GT; exact rfl; exact rfl; exact rfl; exact ⟨by omega,by omega⟩)) (g:GWz C L all o d:=by exact ⟨rfl,rfl,rfl⟩):JK C D R H L (.ops all (o::rest)::K):=BT hq g.a g.b g.c h
theorem FM {rest:List Oper} (h:JK C D R H ((d,v)::L) (.ops all rest::K)) (hq:Quiet C R H L o v:=by (apply q_cap; exact rfl; exact rfl)) (g:GWz C L all o d:=by exact ⟨rfl,rfl,rfl⟩):JK C D R H L (.ops all (o::rest)::K):=BT hq g.a g.b g.c h
theorem DS {rest:List Oper} (h:JK C D R H ((d,v)::L) (.ops all rest::K)) (hq:Quiet C R H L o v:=by (apply GS; exact rfl; exact rfl; exact rfl; exact rfl; omega)) (g:GWz C L all o d:=by exact ⟨rfl,rfl,rfl⟩):JK C D R H L (.ops all (o::rest)::K):=BT hq g.a g.b g.c h
theorem CL {rest:List Oper} (h:JK C D R H ((d,v)::L) (.ops all rest::K)) (hq:Quiet C R H L o v:=by (apply EO; exact rfl; exact rfl; exact rfl; exact rfl; omega)) (g:GWz C L all o d:=by exact ⟨rfl,rfl,rfl⟩):JK C D R H L (.ops all (o::rest)::K):=BT hq g.a g.b g.c h
theorem CZ {rest:Pl} (h:DJ C D R Hf H ((d,v)::L) all (i::done) ps ls rest K) (ho:all[i]?=some o:=by exact rfl) (hq:Quiet C R H L o v:=by (apply EO; exact rfl; exact rfl; exact rfl; exact rfl; omega)) (g:GWz C L all o d:=by exact ⟨rfl,rfl,rfl⟩) (hin:(ps.all (done.contains ·))=true:=by exact rfl):DJ C D R Hf H L all done ps ls (.q i rest) K:=CJ ho hq g.a g.b g.c hin h
theorem B6 {rest:List Oper} (h:JK C D R H ((d,v)::L) (.ops all rest::K)) (hq:Quiet C R H L o v:=by (apply FZ; exact rfl; exact rfl; exact (by (repeat (first|exact Bld.nil|apply Bld.put rfl rfl rfl|apply Bld.keep rfl)); first|done|fail))) (g:GWz C L all o d:=by exact ⟨rfl,rfl,rfl⟩):JK C D R H L (.ops all (o::rest)::K):=BT hq g.a g.b g.c h
theorem C6 {rest:Pl} (h:DJ C D R Hf H ((d,v)::L) all (i::done) ps ls rest K) (ho:all[i]?=some o:=by exact rfl) (hq:Quiet C R H L o v:=by (apply FZ; exact rfl; exact rfl; exact (by (repeat (first|exact Bld.nil|apply Bld.put rfl rfl rfl|apply Bld.keep rfl)); first|done|fail))) (g:GWz C L all o d:=by exact ⟨rfl,rfl,rfl⟩) (hin:(ps.all (done.contains ·))=true:=by exact rfl):DJ C D R Hf H L all done ps ls (.q i rest) K:=CJ ho hq g.a g.b g.c hin h
theorem A4 {rest:List Oper} {post:Value→List PH→Prop} (h:∀ u H',post u H'→JK C D R H' ((d,u)::L) (.ops all rest::K)) (hl:Loud C R H L o post:=by (apply C5; exact rfl)) (g:GWz C L all o d:=by exact ⟨rfl,rfl,rfl⟩):JK C D R H L (.ops all (o::rest)::K):=BJ hl g.a g.b g.c h
theorem CC {rest:Pl} {post:Value→List PH→Prop} (h:∀ v H',post v H'→DJ C D R Hf H' ((d,v)::L) all (i::done) ps (i::ls) rest K) (ho:all[i]?=some o:=by exact rfl) (hl:Loud C R H L o post:=by (apply C5; exact rfl)) (g:GWz C L all o d:=by exact ⟨rfl,rfl,rfl⟩) (hsub:∀ v H',post v H'→∀ w,Sat C.N R H' w→Sat C.N R H w:=by (rintro _ _ ⟨b,rfl,rfl⟩ w hw; exact hw.tail)):ActOK C D R Hf H L all done ps ls i .e rest K:=a_e ho hl g.a g.b g.c hsub h
theorem B5 {rest:Pl} {post:Value→List PH→Prop} (h:∀ v H',post v H'→DJ C D R Hf H' ((d,v)::L) all (i::done) ps (i::ls) rest K) (ho:all[i]?=some o:=by exact rfl) (hl:Loud C R H L o post:=by (apply C5; exact rfl)) (g:GWz C L all o d:=by exact ⟨rfl,rfl,rfl⟩) (hsub:∀ v H',post v H'→∀ w,Sat C.N R H' w→Sat C.N R H w:=by (rintro _ _ ⟨b,rfl,rfl⟩ w hw; exact hw.tail)):DJ C D R Hf H L all done ps ls (.l i .e rest) K:=BQ (a_e ho hl g.a g.b g.c hsub h)
theorem CQ {rest:List Oper} {post:Value→List PH→Prop} (h:∀ u H',post u H'→JK C D R H' ((d,u)::L) (.ops all rest::K)) (hl:Loud C R H L o post:=by (apply GA; exact rfl; exact rfl)) (g:GWz C L all o d:=by exact ⟨rfl,rfl,rfl⟩):JK C D R H L (.ops all (o::rest)::K):=BJ hl g.a g.b g.c h
theorem BN {rest:List Oper} {post:Value→List PH→Prop} (h:∀ u H',post u H'→JK C D R H' ((d,u)::L) (.ops all rest::K)) (hl:Loud C R H L o post:=by (apply BW; exact rfl; exact rfl; exact rfl; exact rfl; exact rfl; exact (by (repeat (first|exact (fun v hv=>absurd hv List.not_mem_nil)|(refine List.forall_mem_cons.2 ⟨?_,?_⟩; (focus (first|exact rfl|assumption))))); first|done|fail); exact (by (repeat (first|exact Flat.nil|apply Flat.one rfl|apply Flat.agg2|apply Flat.agg3|apply Flat.agg1|apply Flat.agg4|apply Flat.agg5)); first|done|fail); exact rfl)) (g:GWz C L all o d:=by exact ⟨rfl,rfl,rfl⟩):JK C D R H L (.ops all (o::rest)::K):=BJ hl g.a g.b g.c h
theorem EQ {rest:Pl} {post:Value→List PH→Prop} (h:∀ v H',post v H'→DJ C D R Hf H' ((d,v)::L) all (i::done) ps (i::ls) rest K) (ho:all[i]?=some o:=by exact rfl) (hl:Loud C R H L o post:=by (apply BW; exact rfl; exact rfl; exact rfl; exact rfl; exact rfl; exact (by (repeat (first|exact (fun v hv=>absurd hv List.not_mem_nil)|(refine List.forall_mem_cons.2 ⟨?_,?_⟩; (focus (first|exact rfl|assumption))))); first|done|fail); exact (by (repeat (first|exact Flat.nil|apply Flat.one rfl|apply Flat.agg2|apply Flat.agg3|apply Flat.agg1|apply Flat.agg4|apply Flat.agg5)); first|done|fail); exact rfl)) (g:GWz C L all o d:=by exact ⟨rfl,rfl,rfl⟩) (hsub:∀ v H',post v H'→∀ w,Sat C.N R H' w→Sat C.N R H w:=by (rintro _ _ ⟨b,rfl,rfl⟩ w hw; exact hw.tail)):ActOK C D R Hf H L all done ps ls i .e rest K:=a_e ho hl g.a g.b g.c hsub h
theorem DT {rest:Pl} {post:Value→List PH→Prop} (h:∀ v H',post v H'→DJ C D R Hf H' ((d,v)::L) all (i::done) ps (i::ls) rest K) (ho:all[i]?=some o:=by exact rfl) (hl:Loud C R H L o post:=by (apply BW; exact rfl; exact rfl; exact rfl; exact rfl; exact rfl; exact (by (repeat (first|exact (fun v hv=>absurd hv List.not_mem_nil)|(refine List.forall_mem_cons.2 ⟨?_,?_⟩; (focus (first|exact rfl|assumption))))); first|done|fail); exact (by (repeat (first|exact Flat.nil|apply Flat.one rfl|apply Flat.agg2|apply Flat.agg3|apply Flat.agg1|apply Flat.agg4|apply Flat.agg5)); first|done|fail); exact rfl)) (g:GWz C L all o d:=by exact ⟨rfl,rfl,rfl⟩) (hsub:∀ v H',post v H'→∀ w,Sat C.N R H' w→Sat C.N R H w:=by (rintro _ _ ⟨b,rfl,rfl⟩ w hw; exact hw.tail)):DJ C D R Hf H L all done ps ls (.l i .e rest) K:=BQ (a_e ho hl g.a g.b g.c hsub h)
theorem CW {rest:List Oper} {post:Value→List PH→Prop} (h:∀ u H',post u H'→JK C D R H' ((d,u)::L) (.ops all rest::K)) (hl:Loud C R H L o post:=by (apply BL; exact rfl)) (g:GWz C L all o d:=by exact ⟨rfl,rfl,rfl⟩):JK C D R H L (.ops all (o::rest)::K):=BJ hl g.a g.b g.c h
theorem GW {rest:Pl} {post:Value→List PH→Prop} (h:∀ v H',post v H'→DJ C D R Hf H' ((d,v)::L) all (i::done) ps (i::ls) rest K) (ho:all[i]?=some o:=by exact rfl) (hl:Loud C R H L o post:=by (apply BL; exact rfl)) (g:GWz C L all o d:=by exact ⟨rfl,rfl,rfl⟩) (hsub:∀ v H',post v H'→∀ w,Sat C.N R H' w→Sat C.N R H w:=by (rintro _ _ ⟨b,rfl,rfl⟩ w hw; exact hw.tail)):ActOK C D R Hf H L all done ps ls i .e rest K:=a_e ho hl g.a g.b g.c hsub h
theorem GX {rest:Pl} {post:Value→List PH→Prop} (h:∀ v H',post v H'→DJ C D R Hf H' ((d,v)::L) all (i::done) ps (i::ls) rest K) (ho:all[i]?=some o:=by exact rfl) (hl:Loud C R H L o post:=by (apply BL; exact rfl)) (g:GWz C L all o d:=by exact ⟨rfl,rfl,rfl⟩) (hsub:∀ v H',post v H'→∀ w,Sat C.N R H' w→Sat C.N R H w:=by (rintro _ _ ⟨b,rfl,rfl⟩ w hw; exact hw.tail)):DJ C D R Hf H L all done ps ls (.l i .e rest) K:=BQ (a_e ho hl g.a g.b g.c hsub h)
theorem EB {rest:List Oper} {post:Value→List PH→Prop} (h:∀ u H',post u H'→JK C D R H' ((d,u)::L) (.ops all rest::K)) (hl:Loud C R H L o post:=by (apply DZ; exact rfl; exact rfl)) (g:GWz C L all o d:=by exact ⟨rfl,rfl,rfl⟩):JK C D R H L (.ops all (o::rest)::K):=BJ hl g.a g.b g.c h
theorem AY {all:Array Oper} {o:Oper} {rest:List Oper} {post:Value→List PH→Prop} (h:∀ u H',post u H'→JK C D R H' L (.ops all rest::K)) (hl:Loud C R H L o post:=by (apply BA; exact rfl; exact rfl; exact (by (repeat (first|exact .here|apply Take.there)); first|done|fail); exact (by (repeat (first|exact (fun v hv=>absurd hv List.not_mem_nil)|(refine List.forall_mem_cons.2 ⟨?_,?_⟩; (focus (first|exact rfl|assumption))))); first|done|fail); exact rfl; exact rfl)) (hg:wantE all L o=some true:=by exact rfl) (hd:o.dst=none:=by exact rfl):JK C D R H L (.ops all (o::rest)::K):=B4 hl hg hd h
theorem BC {all:Array Oper} {o:Oper} {rest:List Oper} {post:Value→List PH→Prop} (h:∀ u H',post u H'→JK C D R H' L (.ops all rest::K)) (hl:Loud C R H L o post:=by (apply FE; exact rfl; exact rfl; (first|exact rfl|assumption); exact rfl; exact (by (repeat (first|exact .here|apply Take.there)); first|done|fail); (focus (repeat (first|exact SetL.here|apply SetL.there)); done))) (hg:wantE all L o=some true:=by exact rfl) (hd:o.dst=none:=by exact rfl):JK C D R H L (.ops all (o::rest)::K):=B4 hl hg hd h
theorem CT {all:Array Oper} {done:List Nat} {i:Nat} {rest:Pl} {o:Oper} {post:Value→List PH→Prop} (h:∀ v H',post v H'→DJ C D R Hf H' L all (i::done) ps (i::ls) rest K) (ho:all[i]?=some o:=by exact rfl) (hl:Loud C R H L o post:=by (apply FE; exact rfl; exact rfl; (first|exact rfl|assumption); exact rfl; exact (by (repeat (first|exact .here|apply Take.there)); first|done|fail); (focus (repeat (first|exact SetL.here|apply SetL.there)); done))) (hg:wantE all L o=some true:=by exact rfl) (hd:o.dst=none:=by exact rfl) (hsub:∀ v H',post v H'→∀ w,Sat C.N R H' w→Sat C.N R Hf w:=by (rintro _ _ ⟨_,rfl⟩ w hw; exact hw.sel (by (repeat (first|exact Sel.nil|(apply Sel.cons; (focus ((repeat (first|exact .here|apply Mem.there|apply Take.there)); first|done|fail))))); first|done|fail))):DJ C D R Hf H L all done ps ls (.l i .b rest) K:=BQ (CO ho hl hg hd hsub h)
theorem A9 {P:Program} {fn:Func} {N:Bs} {M t:Nat} {R R0 H H':List PH} {L:Env} {K:List It} {post:Value→List PH→Prop} {v:Value} (hp:post v H') (hr:fn.results = #[.tmp t]:=by exact rfl) (hv:look L t=some v:=by exact rfl) (hR:∀ ρ∈R0,ρ∈R:=by exact rsubZ) (hH:Sel H H':=by exact selZ):JK ⟨none,P,FnQ P fn N R0 post,N,M⟩ [] R H L (.code .ret::K):=AK (res1 hr hv) hR hH hp
abbrev P0Z:Pl:=.q 0 (.q 1 (.q 2 (.q 3 (.q 4 (.q 5 (.q 6 (.q 7 (.q 8 (.q 9 (.q 10 (.q 11 (.q 12 (.q 13 (.q 14 (.q 15 (.q 16 (.q 17 (.q 18 (.q 19 .nil)))))))))))))))))))
abbrev P1Z:Pl:=.q 0 (.q 1 (.q 2 (.q 3 (.q 4 (.q 5 (.q 6 (.q 7 (.q 8 (.q 9 (.q 10 (.q 11 (.q 12 (.q 13 (.q 14 (.q 15 .nil)))))))))))))))
abbrev P2Z:Pl:=.q 0 (.q 1 (.q 2 (.q 3 (.q 4 (.q 5 (.q 6 (.q 7 (.q 8 (.q 9 (.q 10 (.q 11 (.q 12 .nil))))))))))))
abbrev P3Z:Pl:=.q 0 (.q 1 (.q 2 (.q 3 (.q 4 (.q 5 (.q 6 (.q 7 (.q 8 (.q 9 (.q 10 .nil))))))))))
abbrev P4Z:Pl:=.q 0 (.q 1 (.q 2 (.q 3 (.q 4 (.q 5 (.q 6 (.q 7 (.q 8 (.q 9 (.q 10 (.q 11 (.q 12 (.q 13 (.q 14 (.q 15 (.q 16 (.q 17 (.q 18 (.q 19 (.q 20 (.q 21 (.q 22 (.q 23 (.q 24 (.q 25 .nil)))))))))))))))))))))))))
abbrev P5Z:Pl:=.q 0 (.q 1 (.q 2 (.q 3 (.q 4 (.q 5 (.q 6 (.q 7 (.q 8 .nil))))))))
abbrev P6Z:Pl:=.q 0 (.q 1 (.q 2 (.q 3 (.q 4 (.q 5 (.q 6 (.q 7 (.q 8 (.q 9 (.q 10 (.q 11 (.q 12 (.q 13 .nil)))))))))))))
abbrev P7Z:Pl:=.q 0 (.q 1 (.q 2 (.q 3 (.q 4 (.q 5 (.q 6 (.q 7 (.q 8 (.q 9 .nil)))))))))
abbrev P8Z:Pl:=.q 0 (.q 1 (.q 2 (.q 3 (.q 4 (.q 5 (.q 6 (.q 7 (.q 8 (.q 9 (.q 10 (.q 11 (.q 12 (.q 13 (.q 14 .nil))))))))))))))
theorem rdB (b:Nat) (t:TypeId) (vs:List Value):RdN (sng b (.cells vs.toArray t (0,0))) b 0 vs:=fun j v hv=>by
 rw [rdc_sng,Nat.zero_add]
 simpa using hv
theorem rdQ {ρ:PH} {b:Nat} {xs ys:List Value} (h:RdN ρ b 0 (xs ++ ys)):RdP ρ b 0 xs:=⟨fun j v hv=>h j v (by
 rw [List.getElem?_append_left (List.getElem?_eq_some_iff.1 hv).1]
 exact hv)⟩
theorem rdC {ρ:PH} {b:Nat} {vs:List Value} {v:Value} (h:RdN ρ b 0 vs) (i:Nat) (e:vs[i]?=some v:=by rfl):rdc ρ b i=some v:=by
 have:=h i v e
 rwa [Nat.zero_add] at this
structure Wg (G:Prop):Prop where
  p:G
theorem Aa {J G:Prop} (g:G) (h:Wg G→J:=by intro g;refine AD ?_;refine AA ?_;exact g.1):J:=h ⟨g⟩
theorem Aaa {J G:Prop} (g:G) (h:Wg G→J:=by intro g;refine AC ?_;refine AE ?_;exact g.1):J:=h ⟨g⟩
theorem Aab {J G:Prop} (g:G) (h:Wg G→J:=by intro g;refine Aa ?_;refine AB ?_;exact g.1):J:=h ⟨g⟩
theorem Aac {J G:Prop} (g:G) (h:Wg G→J:=by intro g;refine AI rfl rfl rfl ?_;refine AI rfl rfl rfl ?_;exact g.1):J:=h ⟨g⟩
theorem Aad {J G:Prop} (g:G) (h:Wg G→J:=by intro g;refine AG ?_;refine AF ?_;exact g.1):J:=h ⟨g⟩
theorem Aae {J G:Prop} (g:G) (h:Wg G→J:=by intro g;refine AZ rfl rfl rfl rfl rfl ?_;refine AZ rfl rfl rfl rfl rfl ?_;exact g.1):J:=h ⟨g⟩
theorem Aaf {J G:Prop} (g:G) (h:Wg G→J:=by intro g;refine AM rfl ?_;refine AN ?_;exact g.1):J:=h ⟨g⟩
theorem Aag {J G:Prop} (g:G) (h:Wg G→J:=by intro g;refine AE ?_;refine Aaf ?_;exact g.1):J:=h ⟨g⟩
theorem Aah {J G:Prop} (g:G) (h:Wg G→J:=by intro g;refine AD ?_;refine Aab ?_;exact g.1):J:=h ⟨g⟩
theorem Aai {J G:Prop} (g:G) (h:Wg G→J:=by intro g;refine AE ?_;refine AW rfl ?_;exact g.1):J:=h ⟨g⟩
theorem Aaj {J G:Prop} (g:G) (h:Wg G→J:=by intro g;refine AC ?_;refine Aaa ?_;exact g.1):J:=h ⟨g⟩
theorem Aak {J G:Prop} (g:G) (h:Wg G→J:=by intro g;refine AB ?_;refine Aad ?_;exact g.1):J:=h ⟨g⟩
theorem Aal {J G:Prop} (g:G) (h:Wg G→J:=by intro g;refine Aa ?_;refine Aaa ?_;exact g.1):J:=h ⟨g⟩
theorem Aam {J G:Prop} (g:G) (h:Wg G→J:=by intro g;refine Aa ?_;refine Aad ?_;exact g.1):J:=h ⟨g⟩
theorem Aan {J G:Prop} (g:G) (h:Wg G→J:=by intro g;refine A2 ?_;refine AX ?_;exact g.1):J:=h ⟨g⟩
theorem Aao {J G:Prop} (g:G) (h:Wg G→J:=by intro g;refine AB ?_;refine AB ?_;exact g.1):J:=h ⟨g⟩
theorem Aap {J G:Prop} (g:G) (h:Wg G→J:=by intro g;refine AE ?_;refine AD ?_;exact g.1):J:=h ⟨g⟩
theorem Aaq {J G:Prop} (g:G) (h:Wg G→J:=by intro g;refine AR ?_;refine A8 ?_;exact g.1):J:=h ⟨g⟩
theorem Aar {J G:Prop} (g:G) (h:Wg G→J:=by intro g;refine Aab ?_;refine AB ?_;exact g.1):J:=h ⟨g⟩
theorem Aas {J G:Prop} (g:G) (h:Wg G→J:=by intro g;refine AB ?_;refine Aac ?_;exact g.1):J:=h ⟨g⟩
theorem Aat {J G:Prop} (g:G) (h:Wg G→J:=by intro g;refine AJ ?_;refine AJ ?_;exact g.1):J:=h ⟨g⟩
theorem Aau {J G:Prop} (g:G) (h:Wg G→J:=by intro g;refine Aa ?_;refine AQ ?_;exact g.1):J:=h ⟨g⟩
theorem Aav {J G:Prop} (g:G) (h:Wg G→J:=by intro g;refine AB ?_;refine AE ?_;exact g.1):J:=h ⟨g⟩
theorem Aaw {J G:Prop} (g:G) (h:Wg G→J:=by intro g;refine AL ?_;refine A3 ?_;exact g.1):J:=h ⟨g⟩
theorem Aax {J G:Prop} (g:G) (h:Wg G→J:=by intro g;refine Aat ?_;refine Aaj ?_;exact g.1):J:=h ⟨g⟩
theorem Aay {J G:Prop} (g:G) (h:Wg G→J:=by intro g;refine AM rfl ?_;refine BR rfl ?_;exact g.1):J:=h ⟨g⟩
theorem Aaz {J G:Prop} (g:G) (h:Wg G→J:=by intro g;refine A7 ?_;refine A6 ?_;exact g.1):J:=h ⟨g⟩
theorem Aa0 {J G:Prop} (g:G) (h:Wg G→J:=by intro g;refine Aaw ?_;refine Aan ?_;exact g.1):J:=h ⟨g⟩
theorem Aa1 {J G:Prop} (g:G) (h:Wg G→J:=by intro g;refine AW rfl ?_;refine AN ?_;exact g.1):J:=h ⟨g⟩
theorem Aa2 {J G:Prop} (g:G) (h:Wg G→J:=by intro g;refine AD ?_;refine A5 ?_;exact g.1):J:=h ⟨g⟩
theorem Aa3 {J G:Prop} (g:G) (h:Wg G→J:=by intro g;refine Aas ?_;refine AI rfl rfl rfl ?_;exact g.1):J:=h ⟨g⟩
theorem Aa4 {J G:Prop} (g:G) (h:Wg G→J:=by intro g;refine AP ?_;refine Aag ?_;exact g.1):J:=h ⟨g⟩
theorem Aa5 {J G:Prop} (g:G) (h:Wg G→J:=by intro g;refine AP ?_;refine Aak ?_;exact g.1):J:=h ⟨g⟩
theorem Aa6 {J G:Prop} (g:G) (h:Wg G→J:=by intro g;refine Aas ?_;refine Aac ?_;exact g.1):J:=h ⟨g⟩
theorem Aa7 {J G:Prop} (g:G) (h:Wg G→J:=by intro g;refine AB ?_;refine Aax ?_;exact g.1):J:=h ⟨g⟩
theorem Aa8 {J G:Prop} (g:G) (h:Wg G→J:=by intro g;refine Aaa ?_;refine Aah ?_;exact g.1):J:=h ⟨g⟩
theorem Aba {J G:Prop} (g:G) (h:Wg G→J:=by intro g;refine BM ?_;refine Aag ?_;exact g.1):J:=h ⟨g⟩
theorem Abb {J G:Prop} (g:G) (h:Wg G→J:=by intro g;refine BH ?_;refine AA ?_;exact g.1):J:=h ⟨g⟩
theorem Abc {J G:Prop} (g:G) (h:Wg G→J:=by intro g;refine AU ?_;refine AG ?_;exact g.1):J:=h ⟨g⟩
theorem Abd {J G:Prop} (g:G) (h:Wg G→J:=by intro g;refine Aae ?_;refine Aae ?_;exact g.1):J:=h ⟨g⟩
theorem Abe {J G:Prop} (g:G) (h:Wg G→J:=by intro g;refine BS ?_;refine Aav ?_;exact g.1):J:=h ⟨g⟩
theorem Abf {J G:Prop} (g:G) (h:Wg G→J:=by intro g;refine Abb ?_;refine Abe ?_;exact g.1):J:=h ⟨g⟩
theorem Abg {J G:Prop} (g:G) (h:Wg G→J:=by intro g;refine AD ?_;refine Aam ?_;exact g.1):J:=h ⟨g⟩
theorem Abh {J G:Prop} (g:G) (h:Wg G→J:=by intro g;refine AU ?_;refine Aad ?_;exact g.1):J:=h ⟨g⟩
theorem Abi {J G:Prop} (g:G) (h:Wg G→J:=by intro g;refine Aab ?_;refine Aaa ?_;exact g.1):J:=h ⟨g⟩
theorem Abj {J G:Prop} (g:G) (h:Wg G→J:=by intro g;refine B7 ?_;refine Aap ?_;refine Aa1 ?_;refine Aa2 ?_;exact g.1):J:=h ⟨g⟩
theorem Abk {J G:Prop} (g:G) (h:Wg G→J:=by intro g;refine AV ?_;refine Aai ?_;exact g.1):J:=h ⟨g⟩
theorem Abl {J G:Prop} (g:G) (h:Wg G→J:=by intro g;refine Aaz ?_;refine BQ ?_;exact g.1):J:=h ⟨g⟩
theorem Abm {J G:Prop} (g:G) (h:Wg G→J:=by intro g;refine AV ?_;refine Aaa ?_;exact g.1):J:=h ⟨g⟩
theorem Abn {J G:Prop} (g:G) (h:Wg G→J:=by intro g;refine Aa ?_;refine Abj ?_;exact g.1):J:=h ⟨g⟩
theorem Abo {J G:Prop} (g:G) (h:Wg G→J:=by intro g;refine AR ?_;refine Aaq ?_;exact g.1):J:=h ⟨g⟩
theorem Abp {J G:Prop} (g:G) (h:Wg G→J:=by intro g;refine AL ?_;refine AL ?_;exact g.1):J:=h ⟨g⟩
theorem Abq {J G:Prop} (g:G) (h:Wg G→J:=by intro g;refine Aao ?_;refine AB ?_;exact g.1):J:=h ⟨g⟩
theorem Abr {J G:Prop} (g:G) (h:Wg G→J:=by intro g;refine BE ?_;refine Aag ?_;exact g.1):J:=h ⟨g⟩
theorem Abt {J G:Prop} (g:G) (h:Wg G→J:=by intro g;refine AE ?_;refine Aab ?_;exact g.1):J:=h ⟨g⟩
theorem Abu {J G:Prop} (g:G) (h:Wg G→J:=by intro g;refine Aaa ?_;refine Aam ?_;exact g.1):J:=h ⟨g⟩
theorem Abv {J G:Prop} (g:G) (h:Wg G→J:=by intro g;refine Aaa ?_;refine Aab ?_;exact g.1):J:=h ⟨g⟩
theorem Abw {J G:Prop} (g:G) (h:Wg G→J:=by intro g;refine BK ?_;refine Aap ?_;refine Aay ?_;exact g.1):J:=h ⟨g⟩
theorem Abx {J G:Prop} (g:G) (h:Wg G→J:=by intro g;refine Aav ?_;refine A5 ?_;exact g.1):J:=h ⟨g⟩
theorem Aby {J G:Prop} (g:G) (h:Wg G→J:=by intro g;refine BD ?_;refine Abx ?_;exact g.1):J:=h ⟨g⟩
theorem Abz {J G:Prop} (g:G) (h:Wg G→J:=by intro g;refine AD ?_;refine Aau ?_;exact g.1):J:=h ⟨g⟩
theorem Ab0 {J G:Prop} (g:G) (h:Wg G→J:=by intro g;refine A8 ?_;refine Aaf ?_;exact g.1):J:=h ⟨g⟩
theorem Ab1 {J G:Prop} (g:G) (h:Wg G→J:=by intro g;refine BO ?_;refine Aa5 ?_;exact g.1):J:=h ⟨g⟩
theorem Ab2 {J G:Prop} (g:G) (h:Wg G→J:=by intro g;refine AL ?_;refine Aan ?_;exact g.1):J:=h ⟨g⟩
theorem Ab3 {J G:Prop} (g:G) (h:Wg G→J:=by intro g;refine Aak ?_;refine Aad ?_;exact g.1):J:=h ⟨g⟩
theorem Ab4 {J G:Prop} (g:G) (h:Wg G→J:=by intro g;refine CA ?_;refine AQ ?_;exact g.1):J:=h ⟨g⟩
theorem Ab5 {J G:Prop} (g:G) (h:Wg G→J:=by intro g;refine Aa ?_;refine Abw ?_;exact g.1):J:=h ⟨g⟩
theorem Ab6 {J G:Prop} (g:G) (h:Wg G→J:=by intro g;refine Aal ?_;refine Aah ?_;exact g.1):J:=h ⟨g⟩
theorem Ab7 {J G:Prop} (g:G) (h:Wg G→J:=by intro g;refine BD ?_;refine Aa8 ?_;exact g.1):J:=h ⟨g⟩
theorem Ab8 {J G:Prop} (g:G) (h:Wg G→J:=by intro g;refine B9 ?_;refine Aag ?_;exact g.1):J:=h ⟨g⟩
theorem Ab9 {J G:Prop} (g:G) (h:Wg G→J:=by intro g;refine Aaa ?_;refine AM rfl ?_;exact g.1):J:=h ⟨g⟩
theorem Ac {J G:Prop} (g:G) (h:Wg G→J:=by intro g;refine Aa ?_;refine AF ?_;exact g.1):J:=h ⟨g⟩
theorem Aca {J G:Prop} (g:G) (h:Wg G→J:=by intro g;refine Aaa ?_;refine Aar ?_;exact g.1):J:=h ⟨g⟩
theorem Acb {J G:Prop} (g:G) (h:Wg G→J:=by intro g;refine Aap ?_;refine Aam ?_;exact g.1):J:=h ⟨g⟩
theorem Acc {J G:Prop} (g:G) (h:Wg G→J:=by intro g;refine Abn ?_;refine Aa ?_;exact g.1):J:=h ⟨g⟩
theorem Acd {J G:Prop} (g:G) (h:Wg G→J:=by intro g;refine Aai ?_;refine Aal ?_;exact g.1):J:=h ⟨g⟩
theorem Ace {J G:Prop} (g:G) (h:Wg G→J:=by intro g;refine Abd ?_;refine Abd ?_;exact g.1):J:=h ⟨g⟩
theorem Acf {J G:Prop} (g:G) (h:Wg G→J:=by intro g;refine Aa6 ?_;refine AI rfl rfl rfl ?_;exact g.1):J:=h ⟨g⟩
theorem Acg {J G:Prop} (g:G) (h:Wg G→J:=by intro g;refine Aa0 ?_;refine Aa0 ?_;exact g.1):J:=h ⟨g⟩
theorem Ach {J G:Prop} (g:G) (h:Wg G→J:=by intro g;refine Aaa ?_;refine Aa ?_;exact g.1):J:=h ⟨g⟩
theorem Aci {J G:Prop} (g:G) (h:Wg G→J:=by intro g;refine A8 ?_;refine AW rfl ?_;exact g.1):J:=h ⟨g⟩
theorem Acj {J G:Prop} (g:G) (h:Wg G→J:=by intro g;refine AZ rfl rfl rfl rfl rfl ?_;refine CB ?_;exact g.1):J:=h ⟨g⟩
theorem Ack {J G:Prop} (g:G) (h:Wg G→J:=by intro g;refine AV ?_;refine Aa3 ?_;exact g.1):J:=h ⟨g⟩
theorem Acl {J G:Prop} (g:G) (h:Wg G→J:=by intro g;refine Aaw ?_;refine A2 ?_;exact g.1):J:=h ⟨g⟩
theorem Acm {J G:Prop} (g:G) (h:Wg G→J:=by intro g;refine AE ?_;refine Aa ?_;exact g.1):J:=h ⟨g⟩
theorem Acn {J G:Prop} (g:G) (h:Wg G→J:=by intro g;refine Aa ?_;refine Aaj ?_;exact g.1):J:=h ⟨g⟩
theorem Aco {J G:Prop} (g:G) (h:Wg G→J:=by intro g;refine Aab ?_;refine BE ?_;exact g.1):J:=h ⟨g⟩
theorem Acp {J G:Prop} (g:G) (h:Wg G→J:=by intro g;refine AA ?_;refine Aao ?_;exact g.1):J:=h ⟨g⟩
theorem Acq {J G:Prop} (g:G) (h:Wg G→J:=by intro g;refine AB ?_;refine Aat ?_;exact g.1):J:=h ⟨g⟩
theorem Acr {J G:Prop} (g:G) (h:Wg G→J:=by intro g;refine Aaz ?_;refine A6 ?_;exact g.1):J:=h ⟨g⟩
theorem Acs {J G:Prop} (g:G) (h:Wg G→J:=by intro g;refine AG ?_;refine AQ ?_;exact g.1):J:=h ⟨g⟩
theorem Acu {J G:Prop} (g:G) (h:Wg G→J:=by intro g;refine Aal ?_;refine Aar ?_;exact g.1):J:=h ⟨g⟩
theorem Acv {J G:Prop} (g:G) (h:Wg G→J:=by intro g;refine AD ?_;refine AD ?_;exact g.1):J:=h ⟨g⟩
theorem Acw {J G:Prop} (g:G) (h:Wg G→J:=by intro g;refine C7 ?_;refine AX ?_;exact g.1):J:=h ⟨g⟩
theorem Acx {J G:Prop} (g:G) (h:Wg G→J:=by intro g;refine AL ?_;refine Ace ?_;exact g.1):J:=h ⟨g⟩
theorem Acy {J G:Prop} (g:G) (h:Wg G→J:=by intro g;refine Aai ?_;refine Aa ?_;exact g.1):J:=h ⟨g⟩
theorem Acz {J G:Prop} (g:G) (h:Wg G→J:=by intro g;refine Aa7 ?_;refine Aah ?_;exact g.1):J:=h ⟨g⟩
theorem Ac0 {J G:Prop} (g:G) (h:Wg G→J:=by intro g;refine Aal ?_;refine Aab ?_;exact g.1):J:=h ⟨g⟩
theorem Ac1 {J G:Prop} (g:G) (h:Wg G→J:=by intro g;refine CY ?_;refine AX ?_;exact g.1):J:=h ⟨g⟩
theorem Ac2 {J G:Prop} (g:G) (h:Wg G→J:=by intro g;refine AP ?_;refine Aaa ?_;exact g.1):J:=h ⟨g⟩
theorem Ac3 {J G:Prop} (g:G) (h:Wg G→J:=by intro g;refine AV ?_;refine Aa6 ?_;exact g.1):J:=h ⟨g⟩
theorem Ac4 {J G:Prop} (g:G) (h:Wg G→J:=by intro g;refine AE ?_;refine Aam ?_;exact g.1):J:=h ⟨g⟩
theorem Ac5 {J G:Prop} (g:G) (h:Wg G→J:=by intro g;refine Aaa ?_;refine Aau ?_;exact g.1):J:=h ⟨g⟩
theorem Ac6 {J G:Prop} (g:G) (h:Wg G→J:=by intro g;refine Aaj ?_;refine Abz ?_;exact g.1):J:=h ⟨g⟩
theorem Ac7 {J G:Prop} (g:G) (h:Wg G→J:=by intro g;refine AA ?_;refine AB ?_;exact g.1):J:=h ⟨g⟩
theorem Ac8 {J G:Prop} (g:G) (h:Wg G→J:=by intro g;refine C0 ?_;refine AF ?_;exact g.1):J:=h ⟨g⟩
theorem Ac9 {J G:Prop} (g:G) (h:Wg G→J:=by intro g;refine Ab1 ?_;refine BD ?_;exact g.1):J:=h ⟨g⟩
theorem Ad {J G:Prop} (g:G) (h:Wg G→J:=by intro g;refine Aaa ?_;refine AD ?_;exact g.1):J:=h ⟨g⟩
theorem Ada {J G:Prop} (g:G) (h:Wg G→J:=by intro g;refine BE ?_;refine Aao ?_;exact g.1):J:=h ⟨g⟩
theorem Adb {J G:Prop} (g:G) (h:Wg G→J:=by intro g;refine BM ?_;refine Aa4 ?_;exact g.1):J:=h ⟨g⟩
theorem Adc {J G:Prop} (g:G) (h:Wg G→J:=by intro g;refine Abk ?_;refine Aa ?_;exact g.1):J:=h ⟨g⟩
theorem Add {J G:Prop} (g:G) (h:Wg G→J:=by intro g;refine Aba ?_;refine Aah ?_;exact g.1):J:=h ⟨g⟩
theorem Ade {J G:Prop} (g:G) (h:Wg G→J:=by intro g;refine Acc ?_;refine Ab4 ?_;exact g.1):J:=h ⟨g⟩
theorem Adf {J G:Prop} (g:G) (h:Wg G→J:=by intro g;refine CF ?_;refine CE ?_;exact g.1):J:=h ⟨g⟩
theorem Adg {J G:Prop} (g:G) (h:Wg G→J:=by intro g;refine BO ?_;refine Aag ?_;exact g.1):J:=h ⟨g⟩
theorem Adh {J G:Prop} (g:G) (h:Wg G→J:=by intro g;refine AE ?_;refine Aay ?_;exact g.1):J:=h ⟨g⟩
theorem Adi {J G:Prop} (g:G) (h:Wg G→J:=by intro g;refine AE ?_;refine Aah ?_;exact g.1):J:=h ⟨g⟩
theorem Adj {J G:Prop} (g:G) (h:Wg G→J:=by intro g;refine Aa6 ?_;refine Aac ?_;exact g.1):J:=h ⟨g⟩
theorem Adk {J G:Prop} (g:G) (h:Wg G→J:=by intro g;refine Aan ?_;refine Aan ?_;exact g.1):J:=h ⟨g⟩
theorem Adl {J G:Prop} (g:G) (h:Wg G→J:=by intro g;refine Aa5 ?_;refine Aad ?_;exact g.1):J:=h ⟨g⟩
theorem Adm {J G:Prop} (g:G) (h:Wg G→J:=by intro g;refine Ach ?_;refine Acs ?_;exact g.1):J:=h ⟨g⟩
theorem Adn {J G:Prop} (g:G) (h:Wg G→J:=by intro g;refine Aar ?_;refine Abc ?_;exact g.1):J:=h ⟨g⟩
theorem Ado {J G:Prop} (g:G) (h:Wg G→J:=by intro g;refine DA ?_;refine AP ?_;exact g.1):J:=h ⟨g⟩
theorem Adp {J G:Prop} (g:G) (h:Wg G→J:=by intro g;refine AE ?_;refine Abf ?_;exact g.1):J:=h ⟨g⟩
theorem Adq {J G:Prop} (g:G) (h:Wg G→J:=by intro g;refine Aab ?_;refine Aao ?_;exact g.1):J:=h ⟨g⟩
theorem Adr {J G:Prop} (g:G) (h:Wg G→J:=by intro g;refine Aaa ?_;refine Abg ?_;exact g.1):J:=h ⟨g⟩
theorem Ads {J G:Prop} (g:G) (h:Wg G→J:=by intro g;refine Aaa ?_;refine Abz ?_;exact g.1):J:=h ⟨g⟩
theorem Adt {J G:Prop} (g:G) (h:Wg G→J:=by intro g;refine Abp ?_;refine Adf ?_;exact g.1):J:=h ⟨g⟩
theorem Adu {J G:Prop} (g:G) (h:Wg G→J:=by intro g;refine Ab0 ?_;refine Abf ?_;exact g.1):J:=h ⟨g⟩
theorem Ady {J G:Prop} (g:G) (h:Wg G→J:=by intro g;refine Abt ?_;refine Ab7 ?_;refine Ab8 ?_;refine Aab ?_;refine Ab7 ?_;exact g.1):J:=h ⟨g⟩
theorem Adz {J G:Prop} (g:G) (h:Wg G→J:=by intro g;refine Abu ?_;refine Aad ?_;exact g.1):J:=h ⟨g⟩
theorem Ad0 {J G:Prop} (g:G) (h:Wg G→J:=by intro g;refine Aab ?_;refine Abh ?_;exact g.1):J:=h ⟨g⟩
theorem Ad1 {J G:Prop} (g:G) (h:Wg G→J:=by intro g;refine Aa7 ?_;refine Aar ?_;exact g.1):J:=h ⟨g⟩
theorem Ad2 {J G:Prop} (g:G) (h:Wg G→J:=by intro g;refine Aah ?_;refine Aba ?_;exact g.1):J:=h ⟨g⟩
end Go.Eng
namespace Go.Eng
variable {C:Cx} {D:List Deferred} {R H:List PH} {L:Env} {K:List It}
variable {dst:Option Tmp} {ty:TypeId} {pos:String} {aft:Array Edge} {g:Option (Nat × Bool)}
def ents:Nat→List (Int × Int)→List MapEntry
  | _,[]=>[]
  | i,kv::m=>⟨int kv.1,int kv.2,i⟩::ents (i+1) m
def mapO (m:List (Int × Int)):Obj:=.map (ents 0 m).toArray m.length
def midx (k:Int):List (Int × Int)→Option (Nat × Int)
  | []=>none
  | (a,v)::m=>if k=a then some (0,v) else (midx k m).map (fun p=>(p.1+1,p.2))
def mget (k:Int) (m:List (Int × Int)):Option Int:=(midx k m).map (·.2)
def mset (k v:Int):List (Int × Int)→List (Int × Int)
  | []=>[(k,v)]
  | (a,w)::m=>if k=a then (a,v)::m else (a,w)::mset k v m
theorem F1 {t:TypeId}:Loud C R H L ⟨dst,.makeMap t none,ty,pos,aft,g⟩ (fun v H'=>∃ b,v=.map (some b)∧H'=sng b (mapO [])::H):=by
  refine ⟨fun a w hx hs next Q hn=>?_⟩
  refine wpIn_value (v:=.map (some w.heap.size)) (w':=w.alloc (mapO [])) (by intro c; simp) ?_ (hn _ _ _ ⟨_,rfl,rfl⟩ (hs.alloc _))
  simp [execOp,Instr.makeMap,newObj]
  rfl
theorem run_checkKey {P:Program} {w:World} {kt:TypeId} {k:Int} (e:Bool) (n:Nat) (hkt:P.underlying kt=some (.int .i64)):(Instr.checkKey e (n+1) kt (int k)).run P w=.ok () w:=by
  simp [Instr.checkKey,Go.underlying,Sem.run,hkt,int]
end Go.Eng
namespace Go.Step
structure Ct where
  f:Int
  t:Int
  s:Int
  e:Int
  r:Int
  g:Int
  l:Int
def okCt (c:Ct):Prop:=(0≤c.f∧c.f≤15)∧(0≤c.t∧c.t≤15)∧(1≤c.r∧c.r≤1000)∧(1≤c.g∧c.g≤1048576)∧(0≤c.l∧c.l≤16)
instance (c:Ct):Decidable (okCt c):=inferInstanceAs (Decidable (_∧_))
def chkCt (c:Ct):Int:=if ¬ okCt c then 2 else if c.f=c.t then 1 else if c.s<0∨c.e≤c.s∨1099511627776-2*c.g<c.e then 2 else 0
def ovl (c d:Ct):Bool:=decide (chkCt c=0∧chkCt d=0∧c.f=d.f∧c.t=d.t∧c.s<d.e∧d.s<c.e)
theorem chkCt_se {c:Ct} (h:chkCt c=0):0≤c.s∧c.s<c.e∧c.e≤1099511627776:=by
  unfold chkCt at h
  split at h
  · omega
  · rename_i hk
    split at h
    · omega
    · split at h
      · omega
      · unfold okCt at hk
        omega
def firstE (e:Nat→Int):Nat→Int
  | 0=>0
  | n+1=>if firstE e n≠0 then firstE e n else e n
theorem firstE_ok {e:Nat→Int} {k:Nat} (h:firstE e k=0) (h2:e k=0):firstE e (k+1)=0:=by simp [firstE,h,h2]
theorem firstE_hit {e:Nat→Int} {k:Nat} (h:firstE e k=0) (h2:e k≠0):∀ n,k<n→firstE e n=e k
  | 0,hn=>by omega
  | n+1,hn=>by
    by_cases hk:k=n
    · subst hk; simp [firstE,h]
    · have ih:=firstE_hit h h2 n (by omega)
      simp [firstE,ih,h2]
theorem firstE_zero {e:Nat→Int}:∀ {n:Nat},firstE e n=0→∀ k,k<n→e k=0
  | 0,_,k,hk=>by omega
  | n+1,h,k,hk=>by
    unfold firstE at h
    split at h
    · contradiction
    · rename_i hc
      have hc':firstE e n=0:=Decidable.not_not.1 hc
      by_cases e':k=n
      · subst e'; exact h
      · exact firstE_zero hc' k (by omega)
theorem firstE_all {e:Nat→Int}:∀ {n:Nat},(∀ k,k<n→e k=0)→firstE e n=0
  | 0,_=>rfl
  | n+1,h=>firstE_ok (firstE_all (fun k hk=>h k (by omega))) (h n (by omega))
def quoE (qs:List Int) (i:Nat):Int:=match qs[i]? with
  | some q=>if q<0∨1073741824<q then 2 else 0
  | none=>0
def ctE (n:Nat) (cs:List Ct) (i:Nat):Int:=match cs[i]? with
  | some c=>if chkCt c≠0 then chkCt c else if (n:Int)≤c.f∨(n:Int)≤c.t then 2 else if (cs.take i).any (ovl c) then 14 else 0
  | none=>0
def chkPl (qs:List Int) (cs:List Ct):Int:=
  if qs.length<1∨16<qs.length∨64<cs.length then 4 else if firstE (quoE qs) qs.length≠0 then firstE (quoE qs) qs.length else firstE (ctE qs.length cs) cs.length
end Go.Step
namespace Go.Proofs.YtekcielcagdcmaaGreatDoor
open Go.Eng Go.Step
set_option maxRecDepth 100000
set_option maxHeartbeats 64000000
def encC (c:Ct):List Value:=[int c.f,int c.t,int c.s,int c.e,int c.r,int c.g,int c.l]
theorem encC_len (c:Ct):(encC c).length=7:=rfl
theorem within_spec (a l h:Int):Ans Tryz.prog (fv 10) [int a,int l,int h] [] (fun r=>(r=.bool true∧l≤a∧a≤h)∨(r=.bool false∧¬ (l≤a∧a≤h))):=by
 refine spec_in (cap:=[]) Tryz.func10 rfl rfl Tryz.ntmps10 rfl envZ (fun N β=>?_)
 by_cases h1:l≤a
 ·by_cases h2:a≤h
  ·refine AD ?_
   refine AA ?_;refine Aca ?_;refine C9 ?_;refine Abq ?_;refine EE ?_;refine Abm ?_;exact AK (res1 rfl rfl) rsubZ selZ ⟨rfl,.inl ⟨rfl,h1,h2⟩⟩
  ·refine AD ?_
   refine AA ?_;refine Aca ?_;refine C9 ?_;refine Abq ?_;refine FH ?_;refine Abm ?_
   exact AK (res1 rfl rfl) rsubZ selZ ⟨rfl,.inr ⟨rfl,by omega⟩⟩
 ·refine AD ?_
  refine AA ?_;refine Aca ?_;refine CP ?_;refine Aa3 ?_;refine Ac2 ?_
  exact AK (res1 rfl rfl) rsubZ selZ ⟨rfl,.inr ⟨rfl,by omega⟩⟩
theorem ctCheck_spec (c:Ct):Ans Tryz.prog (fv 4) [.agg #[int c.f,int c.t,int c.s,int c.e,int c.r,int c.g,int c.l]] [] (fun r=>r=int (chkCt c)):=by
 refine spec_in (cap:=[]) Tryz.func4 rfl rfl Tryz.ntmps4 rfl envZ (fun N β=>?_)
 repeat' (first
  | (refine AB ?_)
  | (refine AC ?_)
  | (refine AF ?_)
  | (refine AG ?_)
  | (refine AV ?_)
  | (refine AP ?_)
  | (refine BE ?_)
  | (refine DM ?_)
  | (refine FI ?_)
  | (refine AD ?_)
  | (refine AA ?_)
  | (refine AE ?_)
  | (refine AN ?_)
  | (refine AW rfl ?_)
  | (refine AM rfl ?_)
  | (refine AI rfl rfl rfl ?_)
  | (focus ((refine AT (within_spec _ _ _) rfl rfl rdZ rfl rfl ?_; rintro v (⟨rfl,h⟩|⟨rfl,h⟩))))
  | (refine CW ?_; rintro _ _ ⟨b,rfl,rfl⟩)
  | (focus ((refine EF rfl rfl (cmp_eq _ _) rfl rfl (fun h=>?_) (fun h=>?_))))
  | (focus ((refine EF rfl rfl (cmp_lt _ _) rfl rfl (fun h=>?_) (fun h=>?_))))
  | (focus ((refine EF rfl rfl (cmp_le _ _) rfl rfl (fun h=>?_) (fun h=>?_))))
  | fail)
 all_goals (refine AK (res1 rfl rfl) rsubZ selZ ⟨rfl,?_⟩)
 all_goals (unfold chkCt okCt; (repeat' split) <;> first|rfl|(exfalso; omega))
theorem overlap_spec (c d:Ct):Ans Tryz.prog (fv 55) [.agg #[int c.f,int c.t,int c.s,int c.e,int c.r,int c.g,int c.l],.agg #[int d.f,int d.t,int d.s,int d.e,int d.r,int d.g,int d.l]] [] (fun r=>r=.bool (ovl c d)):=by
 refine spec_in (cap:=[]) Tryz.func55 rfl rfl Tryz.ntmps55 rfl envZ (fun N β=>?_)
 have hc:=ctCheck_spec c
 have hd:=ctCheck_spec d
 have sc:=@chkCt_se c
 have sd:=@chkCt_se d
 unfold ovl
 generalize chkCt c=x at hc sc
 generalize chkCt d=y at hd sd
 repeat' (first
  | (refine AB ?_)
  | (refine AC ?_)
  | (refine AF ?_)
  | (refine AG ?_)
  | (refine AV ?_)
  | (refine AP ?_)
  | (refine AQ ?_)
  | (refine FJ ?_)
  | (refine EZ ?_)
  | (refine AD ?_)
  | (refine AA ?_)
  | (refine AE ?_)
  | (refine AN ?_)
  | (refine AW rfl ?_)
  | (refine AM rfl ?_)
  | (refine AI rfl rfl rfl ?_)
  | (focus ((refine AT hc rfl rfl rdZ rfl rfl ?_; rintro _ rfl)))
  | (focus ((refine AT hd rfl rfl rdZ rfl rfl ?_; rintro _ rfl)))
  | (refine CW ?_; rintro _ _ ⟨b,rfl,rfl⟩)
  | (focus ((refine EF rfl rfl (cmp_ne _ _) rfl rfl (fun h=>?_) (fun h=>?_))))
  | (focus ((refine EF rfl rfl (cmp_lt _ _) rfl rfl (fun h=>?_) (fun h=>?_))))
  | fail)
 all_goals (refine AK (res1 rfl rfl) rsubZ selZ ⟨rfl,?_⟩)
 all_goals (congr 1; first|exact (decide_eq_false (by omega)).symm|exact (decide_eq_true (by omega)).symm|(apply decide_eq_decide.2; constructor <;> intro <;> omega))
theorem indexC_spec (ρ:PH) (Rs:List PH) (v fn:Value) (l:List Ct) (p:Ct→Bool) (hv:SlE encC 7 ρ v l) (hl:l.length≤9223372036854775807) (hfn:∀ (i:Nat) (x:Ct),l[i]?=some x→Ans Tryz.prog fn [.agg (encC x).toArray] Rs (fun r=>r=.bool (p x))) :
  Ans Tryz.prog (fv 95) [v,fn] (ρ::Rs) (fun r=>(∃ (i:Nat) (x:Ct),l[i]?=some x∧p x=true∧(∀ (j:Nat) (y:Ct),j<i→l[j]?=some y→p y=false)∧r=int i)∨((∀ x∈l,p x=false)∧r=int (-1))):=by
 obtain ⟨q,c,rfl,hr⟩:=hv.val encC_len
 refine spec_in (cap:=[]) Tryz.func95 rfl rfl Tryz.ntmps95 rfl envZ (fun N β=>?_)
 refine Ab6 ?_;refine Aby ?_
 refine BU [0,1,7] (0:Nat) (fun k=>k≤l.length∧∀ (i:Nat) (x:Ct),i<k→l[i]?=some x→p x=false) (fun k=>[(8,int k)]) (fun _=>[]) (fun k=>l.length-k) pickZ ⟨by omega,fun i x h=>by omega⟩ covZ selZ ?_
 rintro k ⟨hk,hI⟩
 by_cases hlt:k<l.length
 ·have hx:=List.getElem?_eq_getElem hlt
  obtain ⟨b1,o1,rfl,hrd⟩:=hr k _ hx
  have hrd2:RdN ρ b1 (o1+k*7) (encC l[k]):=hrd
  have hf:=hfn k _ hx
  refine Abn ?_;refine Abi ?_;refine Adq ?_;refine Ab4 ?_
  refine AT hf rfl rfl (fun τ hτ=>.inl (by simp [hτ])) rfl rfl ?_
  rintro _ rfl
  cases hp:p l[k] with
  | true =>
   refine Aai ?_;refine Abi ?_;exact AK (res1 rfl rfl) rsubZ selZ ⟨rfl,.inl ⟨k,l[k],hx,hp,hI,rfl⟩⟩
  | false =>
   refine Aag ?_;refine Abf ?_
   refine BG (k+1) ⟨by omega,fun i x hi hix=>?_⟩ (by omega) covZ selZ
   by_cases e:i=k
   ·subst e; rw [hx] at hix; injection hix with hix; rw [← hix]; exact hp
   ·exact hI i x (by omega) hix
 ·refine AD ?_
  refine AA ?_;refine Abw ?_;refine Aal ?_
  refine AK (res1 rfl rfl) rsubZ selZ ⟨rfl,.inr ⟨fun x hx=>?_,rfl⟩⟩
  obtain ⟨i,hi,rfl⟩:=List.getElem_of_mem hx
  exact hI i _ (by omega) (List.getElem?_eq_getElem hi)
theorem contC_spec (ρ:PH) (Rs:List PH) (v fn:Value) (l:List Ct) (p:Ct→Bool) (hv:SlE encC 7 ρ v l) (hl:l.length≤9223372036854775807) (hfn:∀ (i:Nat) (x:Ct),l[i]?=some x→Ans Tryz.prog fn [.agg (encC x).toArray] Rs (fun r=>r=.bool (p x))) :
  Ans Tryz.prog (fv 53) [v,fn] (ρ::Rs) (fun r=>r=.bool (l.any p)):=by
 have hix:=indexC_spec ρ Rs v fn l p hv hl hfn
 obtain ⟨q,c,rfl,hr⟩:=hv.val encC_len
 refine spec_in (cap:=[]) Tryz.func53 rfl rfl Tryz.ntmps53 rfl envZ (fun N β=>?_)
 refine Acu ?_
 refine AT hix rfl rfl (fun τ hτ=>.inl (List.mem_cons_of_mem _ hτ)) rfl rfl ?_
 rintro _ (⟨i,x,hi,hp,_,rfl⟩|⟨hall2,rfl⟩)
 ·have hfl:l.any p=true:=List.any_eq_true.2 ⟨x,List.mem_of_getElem? hi,hp⟩
  refine C9 ?_;refine Aaa ?_
  exact AK (res1 rfl rfl) rsubZ selZ ⟨rfl,by rw [hfl]⟩
 ·have hfl:l.any p=false:=List.any_eq_false.2 (fun x hx=>by rw [hall2 x hx]; simp)
  refine CP ?_;refine Aaa ?_
  exact AK (res1 rfl rfl) rsubZ selZ ⟨rfl,by rw [hfl]⟩
theorem SlE.pre {α:Type} {enc:α→List Value} {s:Nat} {ρ:PH} {p:Option Addr} {n c:Nat} {l:List α} (h:SlE enc s ρ (.slice p n c) l) (he:∀ x,(enc x).length=s) {k:Nat} (hk:k≤l.length):SlE enc s ρ (.slice (cutP p c 0 s) k c) (l.take k):=by
 have hlen:(l.take k).length=k:=by rw [List.length_take]; omega
 have hfl:(l.take k).flatMap enc ++ (l.drop k).flatMap enc=l.flatMap enc:=by rw [← List.flatMap_append,List.take_append_drop]
 have hll:((l.take k).flatMap enc).length=k*s:=by
  have:=flat_len he (l.take k)
  rwa [hlen] at this
 unfold SlE;rw [hlen];refine ⟨hll,?_⟩
 by_cases h0:k=0
 ·subst h0; exact .inl ⟨rfl,_,_,rfl⟩
 ·obtain ⟨_,⟨hn,_⟩|⟨b,o,c',e,hr⟩⟩:=h
  ·omega
  ·simp only [Value.slice.injEq] at e
   obtain ⟨rfl,rfl,rfl⟩:=e
   refine .inr ⟨b,o,c,?_,fun j u hu=>hr j u ?_⟩
   ·unfold cutP
    split
    ·rfl
    ·simp [Addr.add]
   ·rw [← hfl,List.getElem?_append_left (by have:=(List.getElem?_eq_some_iff.1 hu).1; exact this)]
    exact hu
theorem planCheck1_spec (bt:Nat) (c d:Ct):Ans Tryz.prog (.func (.func 54) #[] #[.pointer (some ⟨bt,0,none⟩)]) [.agg (encC d).toArray] [sng bt (.cells #[int c.f,int c.t,int c.s,int c.e,int c.r,int c.g,int c.l] 23 (0,0))] (fun r=>r=.bool (ovl c d)):=by
 refine spec_in (cap:=[.pointer (some ⟨bt,0,none⟩)]) Tryz.func54 rfl rfl Tryz.ntmps54 rfl envZ (fun N β=>?_)
 have hb:RdN (sng bt (.cells #[int c.f,int c.t,int c.s,int c.e,int c.r,int c.g,int c.l] 23 (0,0))) bt 0 [int c.f,int c.t,int c.s,int c.e,int c.r,int c.g,int c.l]:=fun j u hu=>by rw [rdc_sng,Nat.zero_add]; simpa using hu
 refine Aa ?_;refine CW ?_; rintro _ _ ⟨b,rfl,rfl⟩;refine Ac5 ?_;refine AQ ?_;refine AT (overlap_spec c d) rfl rfl rdZ rfl rfl ?_;rintro _ rfl;refine Aaa ?_;exact A9 ⟨rfl,rfl⟩
theorem quoE_at {qs:List Int} {i:Nat} {q:Int} (h:qs[i]?=some q):quoE qs i=if q<0∨1073741824<q then 2 else 0:=by unfold quoE; rw [h]
theorem ctE_at {n:Nat} {cs:List Ct} {i:Nat} {c:Ct} (h:cs[i]?=some c):ctE n cs i=if chkCt c≠0 then chkCt c else if (n:Int)≤c.f∨(n:Int)≤c.t then 2 else if (cs.take i).any (ovl c) then 14 else 0:=by unfold ctE; rw [h]
abbrev CtAt (ρ:PH) (v:Value) (l:List Ct):Prop:=SlE encC 7 ρ v l
theorem ctRow {ρ:PH} {p:Option Addr} {l:List Ct} (h:RowsE encC 7 ρ p l) {i:Nat} {c:Ct} (hx:l[i]?=some c) :
  ∃ b o,p=some ⟨b,o,none⟩∧RdN ρ b (o+i*7) [int c.f,int c.t,int c.s,int c.e,int c.r,int c.g,int c.l]:=h i c hx
theorem planCheck_spec (ρ τ:PH) (pq pc:Option Addr) (kq kc:Nat) (qs:List Int) (cs:List Ct) (hq:IntsAt ρ (.slice pq qs.length kq) qs) (hc:CtAt τ (.slice pc cs.length kc) cs) (hcap:cs.length≤kc) (lq:qs.length≤9223372036854775807) (lc:cs.length≤9223372036854775807) :
  Ans Tryz.prog (fv 27) [.agg #[.slice pq qs.length kq,.slice pc cs.length kc]] [ρ,τ] (fun r=>r=int (chkPl qs cs)):=by
 have hc2:=hc
 obtain ⟨_,_,e,hrq⟩:=hq.val Eng.encI_len
 simp only [Value.slice.injEq] at e
 obtain ⟨rfl,_,rfl⟩:=e
 obtain ⟨_,_,e,hrc⟩:=hc.val encC_len
 simp only [Value.slice.injEq] at e
 obtain ⟨rfl,_,rfl⟩:=e
 refine spec_in (cap:=[]) Tryz.func27 rfl rfl Tryz.ntmps27 rfl envZ (fun N β=>?_)
 refine Aa ?_;refine BJ (BL rfl) rfl rfl rfl ?_;rintro _ _ ⟨b1,rfl,rfl⟩;refine AS (ρ:=sng b1 _) takeZ ?_
 have bx177_3:=rdB b1 33 [.slice pq qs.length kq,.slice pc cs.length kc]
 have c10:=rdC bx177_3 0
 have c11:=rdC bx177_3 1
 unfold chkPl
 by_cases hl1:qs.length<1
 ·rw [if_pos (.inl hl1)]
  refine Abu ?_;refine Ab7 ?_;refine B7 ?_;refine Aas ?_;refine Ac3 ?_;refine Abk ?_;refine Aal ?_;exact A9 ⟨rfl,rfl⟩
 by_cases hl2:16<qs.length
 ·rw [if_pos (.inr (.inl hl2))]
  refine Abu ?_;refine Ab7 ?_;refine BK ?_;refine Aao ?_;refine Ado ?_;refine Aa6 ?_;refine Abk ?_;refine Aal ?_;exact A9 ⟨rfl,rfl⟩
 by_cases hl3:64<cs.length
 ·rw [if_pos (.inr (.inr hl3))]
  refine Abu ?_;refine Ab7 ?_;refine BK ?_;refine Aao ?_;refine Ac9 ?_;refine Ado ?_;refine Acd ?_;exact A9 ⟨rfl,rfl⟩
 rw [if_neg (by omega)]
 refine Abu ?_;refine Ab7 ?_;refine BK ?_;refine Aao ?_;refine Ac9 ?_;refine BO ?_;refine Aa4 ?_;refine Abg ?_;refine Aby ?_
 refine BU [1,3,25,26] (0:Nat) (fun k=>k≤qs.length∧firstE (quoE qs) k=0) (fun k=>[(27,int k)]) (fun _=>[]) (fun k=>qs.length-k) pickZ ⟨by omega,rfl⟩ covZ selZ ?_
 rintro k ⟨hk,hI⟩
 by_cases hlt:k<qs.length
 ·have hx:=List.getElem?_eq_getElem hlt
  obtain ⟨b2,o2,rfl,g1⟩:=hrq.int hx
  have hE:=quoE_at hx
  generalize qs[k]=x at g1 hE
  by_cases hbad:x<0∨1073741824<x
  ·rw [if_pos hbad] at hE
   have hh:=firstE_hit hI (by rw [hE]; decide) _ hlt
   rw [hE] at hh
   rw [if_pos (by rw [hh]; decide),hh]
   by_cases hneg:x<0
   ·refine AD ?_
    refine AA ?_;refine Abj ?_;refine Aa ?_;refine DE ?_;refine AF ?_;refine Abv ?_;refine B7 ?_;refine Aas ?_;refine Abk ?_;refine Aal ?_;exact A9 ⟨rfl,rfl⟩
   ·refine AD ?_
    refine AA ?_;refine Abj ?_;refine Aa ?_;refine DE ?_;refine AF ?_;refine Abv ?_;refine BK ?_;refine Aao ?_;refine Ado ?_;refine Acd ?_;exact A9 ⟨rfl,rfl⟩
  ·rw [if_neg hbad] at hE
   refine Acc ?_;refine DE ?_;refine AF ?_;refine Abv ?_;refine BK ?_;refine Aao ?_;refine BO ?_;refine Aa4 ?_;refine Abf ?_
   exact BG (k+1) ⟨by omega,firstE_ok hI hE⟩ (by omega) covZ selZ
 have hke:k=qs.length:=by omega
 subst hke
 rw [if_neg (by rw [hI]; simp)]
 refine Ab5 ?_;refine Abg ?_;refine Aby ?_
 refine BU [1,3,39,40] (0:Nat) (fun k=>k≤cs.length∧firstE (ctE qs.length cs) k=0) (fun k=>[(41,int k)]) (fun _=>[]) (fun k=>cs.length-k) pickZ ⟨by omega,rfl⟩ covZ selZ ?_
 clear hI hk hlt;rintro k ⟨hk,hI⟩
 by_cases hlt:k<cs.length
 ·have hx:=List.getElem?_eq_getElem hlt
  obtain ⟨b2,o2,rfl,hrd⟩:=ctRow hrc hx
  have hE:=ctE_at (n:=qs.length) hx
  generalize cs[k]=c at hrd hE
  refine Abn ?_;refine Aab ?_;refine Ab4 ?_;refine A4 ?_; rintro _ _ ⟨b,rfl,rfl⟩;refine AC ?_;refine AY ?_; rintro _ _ ⟨rfl,rfl⟩;refine Aap ?_;refine Aau ?_
  revert b; intro b7
  skip
  refine AT (ctCheck_spec c) rfl rfl rdZ rfl rfl ?_;rintro _ rfl
  by_cases h0:chkCt c=0
  rotate_left
  ·rw [if_pos h0] at hE
   have hh:=firstE_hit hI (by rw [hE]; exact h0) _ hlt
   rw [hh,hE]
   generalize chkCt c=y at h0
   refine Abv ?_;refine C8 ?_;refine Aai ?_;refine Abi ?_;exact A9 ⟨rfl,rfl⟩
  rw [if_neg (by omega)] at hE
  by_cases hfar:(qs.length:Int)≤c.f∨(qs.length:Int)≤c.t
  ·rw [if_pos hfar] at hE
   have hh:=firstE_hit hI (by rw [hE]; decide) _ hlt
   rw [hh,hE]
   by_cases hf1:(qs.length:Int)≤c.f
   ·refine AC ?_
    refine Abt ?_;refine Aba ?_;refine Abg ?_;refine AB ?_;refine C9 ?_;refine Aa6 ?_;refine Abk ?_;refine Aal ?_;exact A9 ⟨rfl,rfl⟩
   ·refine AC ?_
    refine Abt ?_;refine Aba ?_;refine Abg ?_;refine AB ?_;refine CP ?_;refine Aak ?_;refine AB ?_;refine C9 ?_;refine AP ?_;refine Acd ?_;exact A9 ⟨rfl,rfl⟩
  rw [if_neg hfar] at hE;refine Abv ?_;refine Aba ?_;refine Abg ?_;refine AB ?_;refine CP ?_;refine Aak ?_;refine AB ?_;refine CP ?_;refine Aa4 ?_;refine Aam ?_;refine AB ?_;refine DS ?_;refine BZ ?_
  refine AT (contC_spec τ [sng b7 (.cells #[int c.f,int c.t,int c.s,int c.e,int c.r,int c.g,int c.l] 23 (0,0))] _ _ (cs.take k) (ovl c) (SlE.pre hc2 encC_len hk) (by rw [List.length_take]; omega) (fun i x _=>planCheck1_spec b7 c x)) rfl rfl rdZ rfl rfl ?_
  rintro _ rfl
  cases ho:(cs.take k).any (ovl c) with
  | true =>
   rw [ho,if_pos rfl] at hE
   have hh:=firstE_hit hI (by rw [hE]; decide) _ hlt
   rw [hh,hE];refine Acd ?_;exact A9 ⟨rfl,rfl⟩
  | false =>
   rw [ho,if_neg (by simp)] at hE
   refine Aag ?_;refine Abf ?_
   exact BG (k+1) ⟨by omega,firstE_ok hI hE⟩ (by omega) covZ selZ
 have hke:k=cs.length:=by omega
 subst hke;rw [hI];refine Ab5 ?_;refine Aal ?_;exact A9 ⟨rfl,rfl⟩
end Go.Proofs.YtekcielcagdcmaaGreatDoor
namespace Go.Step
structure Lv where
  a:Int
  v:Int
  deriving DecidableEq,Inhabited
def badL (l:Lv):Prop:=l.a<0∨1099511627776<l.a∨l.v < -1125899906842624∨1125899906842624<l.v
instance (l:Lv):Decidable (badL l):=by unfold badL; infer_instance
def chkL (pa pv:Int):List Lv→Int
  | []=>0
  | l::f=>if badL l then 2 else if l.a≤pa∨l.v=pv then 9 else chkL l.a l.v f
def chkS (f:List Lv):Int:=if 1000<f.length then 4 else chkL (-1) 0 f
def Asc (pa:Int):List Lv→Prop
  | []=>True
  | l::f=>pa<l.a∧l.a≤1099511627776∧(-1125899906842624≤l.v∧l.v≤1125899906842624)∧Asc l.a f
def vat (cur:Int):List Lv→Int→Int
  | [],_=>cur
  | l::f,t=>if l.a≤t then vat l.v f t else cur
def val (f:List Lv) (t:Int):Int:=vat 0 f t
end Go.Step
namespace Go.Step
end Go.Step
namespace Go.Step
end Go.Step
namespace Go.Step
def AscT (pa:Int):List Lv→Prop
  | []=>True
  | l::f=>pa<l.a∧l.a≤1099511627776∧AscT l.a f
end Go.Step
namespace Go.Step
open Go.Lib
abbrev SA (l:List Int):Prop:=l.Pairwise (· < ·)
def tms (f g:List Lv):List Int:=compact (((f ++ g).map (·.a)).mergeSort fun x y=>decide (x≤y))
def comb (F:Int→Int) (last:Int):List Int→List Lv
  | []=>[]
  | t::ts=>if F t≠last then ⟨t,F t⟩::comb F (F t) ts else comb F (F t) ts
def okV (v:Int):Prop:=-1125899906842624≤v∧v≤1125899906842624
def tv (F:Int→Int) (cur:Int):List Int→Int→Int
  | [],_=>cur
  | x::xs,t=>if x≤t then tv F (F x) xs t else cur
def CombP (F:Int→Int) (ts:List Int) (out:List Lv) (e:Int):Prop:=
  ((∃ t∈ts,¬ okV (F t))∧out=[]∧e=5)∨((∀ t∈ts,okV (F t))∧1000<(comb F 0 ts).length∧out=[]∧e=4)∨((∀ t∈ts,okV (F t))∧(comb F 0 ts).length≤1000∧out=comb F 0 ts∧e=0)
def SumR (f g out:List Lv) (e:Int):Prop:=
  ((chkS f≠0∨chkS g≠0)∧out=[]∧e=1)∨(chkS f=0∧chkS g=0∧CombP (fun t=>val f t+val g t) (tms f g) out e)
def bump (fr to d:Int):List Lv:=[⟨fr,d⟩,⟨to,0⟩]
def AddR (f:List Lv) (fr to d:Int) (out:List Lv) (e:Int):Prop:=
  (chkS f≠0∧out=[]∧e=1)∨(chkS f=0∧(¬ (0≤fr∧fr≤to∧to≤1099511627776)∨d < -2251799813685248∨2251799813685248<d)∧out=[]∧e=2) ∨
  (chkS f=0∧(0≤fr∧fr≤to∧to≤1099511627776)∧(-2251799813685248≤d∧d≤2251799813685248)∧fr=to∧out=f∧e=0) ∨
  (chkS f=0∧(0≤fr∧fr<to∧to≤1099511627776)∧(-2251799813685248≤d∧d≤2251799813685248)∧CombP (fun t=>val f t+val (bump fr to d) t) (tms f (bump fr to d)) out e)
end Go.Step
namespace Go.Step
structure Hd where
  n:Int
  a:Int
  b:Int
  s:Int
  k:Int
deriving DecidableEq
def okHd (nq:Nat) (h:Hd):Prop:=(0≤h.n∧h.n<nq)∧(0≤h.a∧h.a<h.b∧h.b≤1099511627776)∧(1≤h.s∧h.s≤65536)∧(0≤h.k∧h.k≤1152921504606846976)
instance (nq:Nat) (h:Hd):Decidable (okHd nq h):=inferInstanceAs (Decidable (_∧_))
def cmpI (a b:Int):Int:=if a<b then -1 else if b<a then 1 else 0
def orI:List Int→Int
  | []=>0
  | x::l=>if x≠0 then x else orI l
def stored (l:List Hd) (n t:Int):Int:=match l with
  | []=>0
  | h::l=>(if h.n=n∧h.a≤t∧t<h.b then h.s else 0)+stored l n t
def delta (l:List Hd) (n t:Int):Int:=match l with
  | []=>0
  | h::l=>(if h.n=n then (if h.a=t then h.s else 0)-(if h.b=t then h.s else 0) else 0)+delta l n t
def tmH (l:List Hd) (n:Int):List Int:=l.flatMap (fun h=>if h.n=n then [h.a,h.b] else [])
def hts (l:List Hd) (n:Int):List Int:=Lib.compact ((tmH l n).mergeSort fun x y=>decide (x≤y))
end Go.Step
namespace Go.Proofs.YtekcielcagdcmaaGreatDoor
open Go.Eng Go.Step
set_option maxRecDepth 100000
set_option maxHeartbeats 64000000
theorem isNaN_spec (a:Int):Ans Tryz.prog (fv 127) [int a] [] (fun r=>r=.bool false):=by
 refine spec_in (cap:=[]) Tryz.func127 rfl rfl Tryz.ntmps127 rfl envZ (fun N β=>?_)
 refine Acu ?_;refine BM ?_;refine Aaa ?_;exact A9 ⟨rfl,rfl⟩
theorem cmpI_spec (a b:Int):Ans Tryz.prog (fv 85) [int a,int b] [] (fun r=>r=int (cmpI a b)):=by
 refine spec_in (cap:=[]) Tryz.func85 rfl rfl Tryz.ntmps85 rfl envZ (fun N β=>?_)
 repeat' (first
  | (refine AB ?_)
  | (refine AC ?_)
  | (refine AD ?_)
  | (refine AA ?_)
  | (refine AE ?_)
  | (refine AN ?_)
  | (refine AW rfl ?_)
  | (refine AM rfl ?_)
  | (focus ((refine AT (isNaN_spec _) rfl rfl rdZ rfl rfl ?_; rintro _ rfl)))
  | (focus ((refine EF rfl rfl (cmp_lt _ _) rfl rfl (fun h=>?_) (fun h=>?_))))
  | fail)
 all_goals (refine AK (res1 rfl rfl) rsubZ selZ ⟨rfl,?_⟩; unfold cmpI; (repeat' split) <;> first|rfl|(exfalso; omega))
theorem orI_cons (x:Int) (l:List Int):orI (x::l)=if x≠0 then x else orI l:=rfl
theorem or_spec (ρ:PH) (v:Value) (l:List Int) (hv:IntsAt ρ v l) (hl:l.length≤1000):Ans Tryz.prog (fv 84) [v] [ρ] (fun r=>r=int (orI l)):=by
 obtain ⟨q,c,rfl,hr⟩:=hv.val Eng.encI_len
 refine spec_in (cap:=[]) Tryz.func84 rfl rfl Tryz.ntmps84 rfl envZ (fun N β=>?_)
 refine Aal ?_;refine Ab6 ?_;refine Aby ?_
 refine BU [3,6,7] (0:Nat) (fun k=>k≤l.length∧orI l=orI (l.drop k)) (fun k=>[(8,int k)]) (fun _=>[]) (fun k=>l.length-k) pickZ ⟨by omega,rfl⟩ covZ selZ ?_
 rintro k ⟨hk,hI⟩
 by_cases hlt:k<l.length
 ·have hx:=List.getElem?_eq_getElem hlt
  obtain ⟨b1,o1,rfl,g1⟩:=hr.int hx
  rw [List.drop_eq_getElem_cons hlt] at hI
  generalize l[k]=x at g1 hI
  rw [orI_cons] at hI
  by_cases h0:x=0
  ·rw [if_neg (by omega)] at hI
   refine Acc ?_;refine DE ?_;refine AF ?_;refine Aca ?_;refine Aba ?_;refine Abf ?_
   exact BG (k+1) ⟨by omega,hI⟩ (by omega) covZ selZ
  ·rw [if_pos h0] at hI
   rw [hI];refine Acc ?_;refine DE ?_;refine AF ?_;refine Aca ?_;refine C8 ?_;refine Aai ?_;refine Abi ?_;exact A9 ⟨rfl,rfl⟩
 ·rw [hI,List.drop_of_length_le (by omega)]
  refine Ab5 ?_;refine Abi ?_;exact A9 ⟨rfl,rfl⟩
def encH (h:Hd):List Value:=[int h.n,int h.a,int h.b,int h.s,int h.k]
abbrev HdAt (ρ:PH) (v:Value) (l:List Hd):Prop:=SlE encH 5 ρ v l
end Go.Proofs.YtekcielcagdcmaaGreatDoor
namespace Go.Step
open Go.Eng
def noteT (m:List (Int × Int)) (T:List Int) (t:Int):List Int:=if mget t m=none then T ++ [t] else T
structure InvD (D:Int→Int) (T:List Int) (m:List (Int × Int)):Prop where
  get:∀ t,mget t m=if t∈T then some (D t) else none
  out:∀ t,t∉T→D t=0
  nd:T.Pairwise (· ≠ ·)
structure InvL (l:List Hd) (n:Int) (T:List Int) (m:List (Int × Int)):Prop where
  d:InvD (delta l n) T m
  mem:∀ x,x∈T↔x∈tmH l n
  len:T.length≤2*l.length
structure InvN (l:List Hd) (n t nx:Int):Prop where
  no:nx<0→nx = -1∧∀ x∈tmH l n,x≤t
  yes:0≤nx→nx∈tmH l n∧t<nx∧∀ x∈tmH l n,t<x→nx≤x
end Go.Step
namespace Go.Proofs.YtekcielcagdcmaaGreatDoor
open Go.Eng Go.Step
set_option maxRecDepth 100000
set_option maxHeartbeats 64000000
end Go.Proofs.YtekcielcagdcmaaGreatDoor
namespace Go.Eng
open Go.Sort
end Go.Eng
namespace Go.Eng
open Go.Sort
end Go.Eng
namespace Go.Proofs
open Go.Shelf
end Go.Proofs
namespace Go.Proofs.YtekcielcagdcmaaGreatDoor
open Go.Eng Go.Step
set_option maxRecDepth 100000
set_option maxHeartbeats 64000000
end Go.Proofs.YtekcielcagdcmaaGreatDoor
namespace Go.Step
def fitB (qs:List Int) (l:List Hd):Bool:=l.all (fun h=>decide (stored l h.n h.a≤qs.getD h.n.toNat 0))
end Go.Step
namespace Go.Proofs.YtekcielcagdcmaaGreatDoor
open Go.Eng Go.Step
set_option maxRecDepth 100000
set_option maxHeartbeats 64000000
end Go.Proofs.YtekcielcagdcmaaGreatDoor
namespace Go.Step
def frA (Q s:Int) (st:Int × List (Int × Int)) (t v:Int):Int × List (Int × Int):=
  if Q-v<s then (-1,if 0≤st.1∧st.1<t then st.2 ++ [(st.1,t)] else st.2) else (if st.1<0 then t else st.1,st.2)
def frL (Q s:Int) (st:Int × List (Int × Int)) (x:Lv):Int × List (Int × Int):=if x.a<1099511627776 then frA Q s st x.a x.v else st
def finA (st:Int × List (Int × Int)):List (Int × Int):=if 0≤st.1∧st.1<1099511627776 then st.2 ++ [(st.1,1099511627776)] else st.2
def frB (Q s:Int) (st:(Int × Bool) × List (Int × Int)) (x:Lv):(Int × Bool) × List (Int × Int):=
  ((if s≤Q-x.v∧st.1.2=false then x.a else st.1.1,decide (s≤Q-x.v)),if st.1.2=true∧Q-x.v<s∧st.1.1<x.a then st.2 ++ [(st.1.1,x.a)] else st.2)
def finB (st:(Int × Bool) × List (Int × Int)):List (Int × Int):=if st.1.2=true∧st.1.1<1099511627776 then st.2 ++ [(st.1.1,1099511627776)] else st.2
structure RlF (A:Int × List (Int × Int)) (B:(Int × Bool) × List (Int × Int)):Prop where
  o:A.2=B.2
  p:0≤B.1.1
  f:A.1=if B.1.2=true then B.1.1 else -1
def frS (Q s:Int) (f:List Lv) (k:Nat):Int × List (Int × Int):=(f.take k).foldl (frL Q s) (frA Q s (-1,[]) 0 0)
end Go.Step
namespace Go.Eng
variable {C:Cx} {D:List Deferred} {R H:List PH} {L:Env} {K:List It}
variable {dst:Option Tmp} {ty:TypeId} {pos:String} {aft:Array Edge} {g:Option (Nat × Bool)}
theorem OwnS.cells_at {e:TypeId} {s n b cap:Nat} {xs:List Value} {ρ:PH} (h:OwnS e s (.slice (some ⟨b,0,none⟩) n cap) n xs ρ):∃ cur,ρ=sng b (.cells cur e (0,0))∧n≤cap∧cap≤maxLen∧cur.size=cap*s∧cur.toList.take (n*s)=xs:=by
  obtain ⟨_,⟨h1,_⟩|⟨b',cap',cur,h1,rfl,h2,h3,h4,h5⟩⟩:=h
  · simp at h1
  · simp only [Value.slice.injEq,Option.some.injEq,Addr.mk.injEq,and_true,true_and] at h1
    obtain ⟨rfl,rfl⟩:=h1
    exact ⟨cur,rfl,h2,h3,h4,h5⟩
end Go.Eng
