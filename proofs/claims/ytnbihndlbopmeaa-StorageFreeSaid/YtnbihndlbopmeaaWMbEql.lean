/- Truth values and structs of numbers compared. No conditions. -/
import Derived.Test.YtnbihndlbopmeaaWMbCuts
import Derived.Laws.StructEq
set_option linter.all false
namespace Go.Eng
variable {C : Cx} {D : List Deferred} {R H : List PH} {L : Env} {K : List It}
section
variable {dst : Option Tmp} {ty : TypeId} {pos : String} {aft : Array Edge} {g : Option (Nat × Bool)}
variable {t yT : TypeId} {x y : Operand}
theorem q_eqBool {a b : Bool} (h1 : evalE L x = some (.bool a)) (h2 : evalE L y = some (.bool b)) (ht : C.P.underlying t = some .bool) : Quiet C R H L ⟨dst, .binOp .eql t x y yT, ty, pos, aft, g⟩ (.bool (a == b)) :=
  ⟨by intro c; simp, fun ac w hx _ => by
    have e1 := hx x (by simp [Op.operands]) _ h1
    have e2 := hx y (by simp [Op.operands]) _ h2
    have h3 := run_equalIn_bool' (P := C.P) w 9999 t a b ht
    simp only [Nat.reduceAdd] at h3
    simp [execOp, e1, e2, eqGuard, binOp, Op.equal, Op.maxDepth, h3]⟩
theorem q_neBool {a b : Bool} (h1 : evalE L x = some (.bool a)) (h2 : evalE L y = some (.bool b)) (ht : C.P.underlying t = some .bool) : Quiet C R H L ⟨dst, .binOp .neq t x y yT, ty, pos, aft, g⟩ (.bool (!(a == b))) :=
  ⟨by intro c; simp, fun ac w hx _ => by
    have e1 := hx x (by simp [Op.operands]) _ h1
    have e2 := hx y (by simp [Op.operands]) _ h2
    have h3 := run_equalIn_bool' (P := C.P) w 9999 t a b ht
    simp only [Nat.reduceAdd] at h3
    simp [execOp, e1, e2, eqGuard, binOp, Op.equal, Op.maxDepth, h3]⟩
/-- a struct of n numbers -/
def fldI (P : Program) (k : Nat) (f : Field) : Bool := f.name != "_" && f.offset == k && (match P.underlying f.type with | some (.int .i64) => true | _ => false)
def fldsI (P : Program) : Nat → List Field → Bool
  | _, [] => true
  | k, f :: fs => fldI P k f && fldsI P (k + 1) fs
def intsP (P : Program) (t : TypeId) (n : Nat) : Bool := match P.underlying t with
  | some (.struct fs) => fs.size == n && fldsI P 0 fs.toList
  | _ => false
theorem eqFields_ints {P : Program} (w : World) (d : Nat) (l m : List Int) : ∀ (fs : List Field) (k : Nat), fldsI P k fs = true → k + fs.length = l.length → l.length = m.length →
    (Op.eqFields (d + 1) (l.map int).toArray (m.map int).toArray fs).run P w = .ok (decide (l.drop k = m.drop k)) w
  | [], k, _, h, h2 => by
    rw [List.drop_of_length_le (by simp at h; omega), List.drop_of_length_le (by simp at h; omega)]
    simp [Op.eqFields]
  | f :: fs, k, hf, h, h2 => by
    simp only [fldsI, fldI, Bool.and_eq_true, bne_iff_ne, ne_eq, beq_iff_eq] at hf
    obtain ⟨⟨⟨h3, h4⟩, h5⟩, h6⟩ := hf
    have hu : P.underlying f.type = some (.int .i64) := by
      split at h5
      · assumption
      · simp at h5
    have ih := eqFields_ints w d l m fs (k + 1) h6 (by simp at h; omega) h2
    have hk : k < l.length := by simp at h; omega
    have hk2 : k < m.length := by omega
    have hp : ∀ (q : List Int) (hq : k < q.length), (part f.type (q.map int).toArray f.offset).run P w = .ok (int q[k]) w := fun q hq => by
      have hag : aggP P f.type = some false := by simp [aggP, hu]
      simp [part, run_isAgg hag, h4, hq]
    have hd : decide (l.drop k = m.drop k) = (decide (l[k] = m[k]) && decide (l.drop (k + 1) = m.drop (k + 1))) := by
      rw [List.drop_eq_getElem_cons hk, List.drop_eq_getElem_cons hk2, Bool.eq_iff_iff]
      simp only [List.cons.injEq, decide_eq_true_eq, Bool.and_eq_true]
    rw [hd]
    have he := run_equalIn_int (P := P) w d f.type .i64 .i64 l[k] m[k] hu
    simp only [Op.eqFields, h3, not_false_eq_true, if_true, Sem.run_bind, hp l hk, hp m hk2, Result.andThen_ok, he, ne_eq]
    by_cases hkm : l[k] = m[k]
    · simp only [hkm, beq_self_eq_true, Bool.not_true, Bool.false_eq_true, if_false, ih, decide_true, Bool.true_and]
    · have : (l[k] == m[k]) = false := by simpa using hkm
      simp only [this, hkm, Bool.not_false, if_true, Sem.run_pure, decide_false, Bool.false_and]
theorem intsP_of {P : Program} {n : Nat} (h : intsP P t n = true) : ∃ fs : Array Field, P.underlying t = some (.struct fs) ∧ fs.size = n ∧ fldsI P 0 fs.toList = true := by
  unfold intsP at h
  split at h
  · rename_i fs hu
    simp only [Bool.and_eq_true, beq_iff_eq] at h
    exact ⟨fs, hu, h.1, h.2⟩
  · simp at h
theorem run_eqInts {P : Program} (w : World) {l m : List Int} {n : Nat} (hi : intsP P t n = true) (hp : P.stoodInHeld t = false) (hl : l.length = n) (hm : m.length = n) : (Op.equalIn 10000 t (.agg (l.map int).toArray) (.agg (m.map int).toArray)).run P w = .ok (decide (l = m)) w := by
  obtain ⟨fs, hu, hs, hf⟩ := intsP_of hi
  have hfo : P.fieldsOf t = fs := by simp [Program.fieldsOf, hu]
  have h1 := run_equalIn_struct (P := P) w 9999 t (l.map int).toArray (m.map int).toArray (by rw [hfo]; exact hu) hp
  have h2 := eqFields_ints (P := P) w 9998 l m fs.toList 0 hf (by simp [hs, hl]) (by omega)
  rw [hfo] at h1
  simp only [Nat.reduceAdd] at h1 h2
  rw [h1, h2]; simp
theorem q_eqS (l m : List Int) {n : Nat} (h1 : evalE L x = some (.agg (l.map int).toArray)) (h2 : evalE L y = some (.agg (m.map int).toArray)) (hi : intsP C.P t n = true) (hp : C.P.stoodInHeld t = false) (hg : C.P.eqGuardType C.P.depth t = false) (hl : l.length = n) (hm : m.length = n) :
    Quiet C R H L ⟨dst, .binOp .eql t x y yT, ty, pos, aft, g⟩ (.bool (decide (l = m))) :=
  ⟨by intro c; simp, fun ac w hx _ => by
    have e1 := hx x (by simp [Op.operands]) _ h1
    have e2 := hx y (by simp [Op.operands]) _ h2
    have h3 := run_eql_struct (P := C.P) w t (l.map int).toArray (m.map int).toArray
    rw [run_eqInts w hi hp hl hm] at h3
    have h4 := run_eqGuard_agg (P := C.P) w .eql t x y (l.map int).toArray (m.map int).toArray hg
    simp [execOp, e1, e2, h3, h4]⟩
theorem q_neS (l m : List Int) {n : Nat} (h1 : evalE L x = some (.agg (l.map int).toArray)) (h2 : evalE L y = some (.agg (m.map int).toArray)) (hi : intsP C.P t n = true) (hp : C.P.stoodInHeld t = false) (hg : C.P.eqGuardType C.P.depth t = false) (hl : l.length = n) (hm : m.length = n) :
    Quiet C R H L ⟨dst, .binOp .neq t x y yT, ty, pos, aft, g⟩ (.bool (!decide (l = m))) :=
  ⟨by intro c; simp, fun ac w hx _ => by
    have e1 := hx x (by simp [Op.operands]) _ h1
    have e2 := hx y (by simp [Op.operands]) _ h2
    have h3 := run_neq_struct (P := C.P) w t (l.map int).toArray (m.map int).toArray
    rw [run_eqInts w hi hp hl hm] at h3
    have h4 := run_eqGuard_agg (P := C.P) w .neq t x y (l.map int).toArray (m.map int).toArray hg
    simp [execOp, e1, e2, h3, h4]⟩
end
end Go.Eng
