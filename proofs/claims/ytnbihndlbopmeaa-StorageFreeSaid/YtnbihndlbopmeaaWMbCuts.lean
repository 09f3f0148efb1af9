/- Cuts of slices, wherever these lie; results that are kept in memory. No conditions. -/
import Derived.Test.YtnbihndlbopmeaaWMbElems
set_option linter.all false
namespace Go.Eng
variable {C : Cx} {D : List Deferred} {R H : List PH} {L : Env} {K : List It}
/-- where a cut begins -/
def cutP (a : Option Addr) (c i s : Nat) : Option Addr := if c = i then a else a.map (·.add (i * s))
section
variable {dst : Option Tmp} {ty : TypeId} {pos : String} {aft : Array Edge} {g : Option (Nat × Bool)}
variable {t e : TypeId} {x y z : Operand} {a : Option Addr} {n c s : Nat} {k k2 : IntKind} {i j : Nat}
theorem q_cutHi (h : evalE L x = some (.slice a n c)) (hy : evalE L y = some (.int k (i : Int))) (ht : elemP C.P t = some e) (hs : szP C.P e = some s) (h1 : i ≤ c) :
    Quiet C R H L ⟨dst, .slice t x none (some y) none, ty, pos, aft, g⟩ (.slice (cutP a c 0 s) i c) :=
  ⟨by intro c; simp, fun ac w hx _ => by
    have e1 := hx x (by simp [Op.operands]) _ h
    have e2 := hx y (by simp [Op.operands]) _ hy
    simp [execOp, e1, e2, Instr.sliceAt, run_underlying (und_elem ht), Instr.slice, Instr.sliceBounds, Instr.sliceBound, asIntOf, run_sizeOf hs, h1, cutP]⟩
theorem q_cutLo (h : evalE L x = some (.slice a n c)) (hy : evalE L y = some (.int k (i : Int))) (ht : elemP C.P t = some e) (hs : szP C.P e = some s) (h1 : i ≤ n) :
    Quiet C R H L ⟨dst, .slice t x (some y) none none, ty, pos, aft, g⟩ (.slice (cutP a c i s) (n - i) (c - i)) :=
  ⟨by intro c; simp, fun ac w hx _ => by
    have e1 := hx x (by simp [Op.operands]) _ h
    have e2 := hx y (by simp [Op.operands]) _ hy
    simp [execOp, e1, e2, Instr.sliceAt, run_underlying (und_elem ht), Instr.slice, Instr.sliceBounds, Instr.sliceBound, asIntOf, run_sizeOf hs, h1, cutP]⟩
theorem q_cutLoHi (h : evalE L x = some (.slice a n c)) (hy : evalE L y = some (.int k (i : Int))) (hz : evalE L z = some (.int k2 (j : Int))) (ht : elemP C.P t = some e) (hs : szP C.P e = some s) (h1 : i ≤ j) (h2 : j ≤ c) :
    Quiet C R H L ⟨dst, .slice t x (some y) (some z) none, ty, pos, aft, g⟩ (.slice (cutP a c i s) (j - i) (c - i)) :=
  ⟨by intro c; simp, fun ac w hx _ => by
    have e1 := hx x (by simp [Op.operands]) _ h
    have e2 := hx y (by simp [Op.operands]) _ hy
    have e3 := hx z (by simp [Op.operands]) _ hz
    simp [execOp, e1, e2, e3, Instr.sliceAt, run_underlying (und_elem ht), Instr.slice, Instr.sliceBounds, Instr.sliceBound, asIntOf, run_sizeOf hs, h1, h2, cutP]⟩
theorem q_cutAll (h : evalE L x = some (.slice a n c)) (ht : elemP C.P t = some e) (hs : szP C.P e = some s) :
    Quiet C R H L ⟨dst, .slice t x none none none, ty, pos, aft, g⟩ (.slice (cutP a c 0 s) n c) :=
  ⟨by intro c; simp, fun ac w hx _ => by
    have e1 := hx x (by simp [Op.operands]) _ h
    simp [execOp, e1, Instr.sliceAt, run_underlying (und_elem ht), Instr.slice, Instr.sliceBounds, run_sizeOf hs, cutP]⟩
end
theorem q_toInt {dst : Option Tmp} {ty : TypeId} {pos : String} {aft : Array Edge} {g : Option (Nat × Bool)} {s d : TypeId} {x : Operand} {k' : IntKind} {n : Int} (h : evalE L x = some (.int k' n)) (hs : (C.P.underlying s).isSome = true) (hd : kindP C.P d = some .i64) (hr : In64 n) :
    Quiet C R H L ⟨dst, .convert s d x, ty, pos, aft, g⟩ (.int .i64 n) := q_conv h hs hd (wrap_in hr)
/-- a slice's room -/
def CapOK (v : Value) : Prop := ∃ p n c, v = .slice p n c ∧ n ≤ c
theorem CapOK.le {p : Option Addr} {n c : Nat} (h : CapOK (.slice p n c)) : n ≤ c := by
  obtain ⟨p', n', c', e, h⟩ := h
  simp only [Value.slice.injEq] at e
  obtain ⟨_, rfl, rfl⟩ := e
  exact h
theorem OwnS.capOK {e : TypeId} {s n : Nat} {v : Value} {xs : List Value} {σ : PH} (h : OwnS e s v n xs σ) : CapOK v := by
  obtain ⟨_, ⟨rfl, rfl, _⟩ | ⟨b, cap, cur, rfl, _, h1, _⟩⟩ := h
  · exact ⟨_, _, _, rfl, Nat.le_refl _⟩
  · exact ⟨_, _, _, rfl, h1⟩
theorem addr_add (b o m : Nat) : (⟨b, o, none⟩ : Addr).add m = ⟨b, o + m, none⟩ := Addr.add_lit ..
theorem flat_cut {α : Type} {enc : α → List Value} {s : Nat} (he : ∀ x, (enc x).length = s) : ∀ (l : List α) (i : Nat), i ≤ l.length → (l.drop i).flatMap enc = (l.flatMap enc).drop (i * s)
  | l, 0, _ => by simp
  | [], i + 1, h => by simp at h
  | x :: l, i + 1, h => by
    rw [List.drop_succ_cons, flat_cut he l i (by simpa using h), List.flatMap_cons, List.drop_append, List.drop_of_length_le (l := enc x) (by rw [he, Nat.add_mul]; omega), he]
    congr 1
    rw [Nat.add_mul]; omega
theorem flat_take {α : Type} {enc : α → List Value} {s : Nat} (he : ∀ x, (enc x).length = s) : ∀ (l : List α) (i : Nat), (l.take i).flatMap enc = (l.flatMap enc).take (i * s)
  | l, 0 => by simp
  | [], i + 1 => by simp
  | x :: l, i + 1 => by
    rw [List.take_succ_cons, List.flatMap_cons, flat_take he l i, List.flatMap_cons, List.take_append, List.take_of_length_le (l := enc x) (by rw [he, Nat.add_mul]; omega), he]
    congr 2
    rw [Nat.add_mul]; omega
theorem slE_cut {α : Type} {enc : α → List Value} {s : Nat} (he : ∀ x, (enc x).length = s) {ρ : PH} {a : Option Addr} {n c : Nat} {l : List α} (h : SlE enc s ρ (.slice a n c) l) (hc : l.length ≤ c) {i j : Nat} (h1 : i ≤ j) (h2 : j ≤ l.length) : SlE enc s ρ (.slice (cutP a c i s) (j - i) (c - i)) ((l.drop i).take (j - i)) := by
  have hlen : ((l.drop i).take (j - i)).length = j - i := by simp; omega
  refine ⟨by rw [flat_len he], ?_⟩
  by_cases h0 : j - i = 0
  · left
    exact ⟨by rw [hlen]; exact h0, _, _, by rw [h0]⟩
  · right
    obtain ⟨_, ⟨h3, _⟩ | ⟨b, o, c', e, hr⟩⟩ := h
    · omega
    · simp only [Value.slice.injEq] at e
      obtain ⟨rfl, rfl, rfl⟩ := e
      refine ⟨b, o + i * s, c - i, ?_, fun k u hu => ?_⟩
      · rw [hlen]
        unfold cutP
        rw [if_neg (by omega)]
        simp [addr_add]
      · rw [flat_take he, flat_cut he l i (by omega)] at hu
        have hk : k < (j - i) * s := by
          have := (List.getElem?_eq_some_iff.1 hu).1
          simp at this; omega
        rw [List.getElem?_take_of_lt hk, List.getElem?_drop] at hu
        have := hr _ u hu
        rwa [← Nat.add_assoc] at this
theorem slE_hi {α : Type} {enc : α → List Value} {s : Nat} (he : ∀ x, (enc x).length = s) {ρ : PH} {a : Option Addr} {n c : Nat} {l : List α} (h : SlE enc s ρ (.slice a n c) l) (hc : l.length ≤ c) {j : Nat} (h2 : j ≤ l.length) : SlE enc s ρ (.slice (cutP a c 0 s) j c) (l.take j) := by
  have := slE_cut he h hc (Nat.zero_le j) h2
  simpa using this
theorem slE_lo {α : Type} {enc : α → List Value} {s : Nat} (he : ∀ x, (enc x).length = s) {ρ : PH} {a : Option Addr} {n c : Nat} {l : List α} (h : SlE enc s ρ (.slice a n c) l) (hc : l.length ≤ c) {i : Nat} (h2 : i ≤ l.length) (hn : n = l.length) : SlE enc s ρ (.slice (cutP a c i s) (n - i) (c - i)) (l.drop i) := by
  subst hn
  have := slE_cut he h hc h2 (Nat.le_refl _)
  rwa [List.take_of_length_le (by simp)] at this
/-- results that are kept in memory -/
theorem resC2 {fn : Func} {N : Bs} {M : Nat} {P : Program} {t u b1 b2 : Nat} {T U : TypeId} {v1 v2 : Value} (hr : fn.results = #[.cell t T, .cell u U]) (ht : look L t = some (.pointer (some ⟨b1, 0, none⟩))) (hu : look L u = some (.pointer (some ⟨b2, 0, none⟩))) (a1 : aggP P T = some false) (a2 : aggP P U = some false)
    (c1 : Cell N R H b1 0 v1) (c2 : Cell N R H b2 0 v2) : ∀ a w, Frm M L a → Sat N R H w → (results fn a.tmps).run P w = .ok (.tuple #[v1, v2]) w := by
  intro a w hf hs
  have e1 : a.tmps[t]?.getD undef = .pointer (some ⟨b1, 0, none⟩) := by simpa using hf.get t _ ht
  have e2 : a.tmps[u]?.getD undef = .pointer (some ⟨b2, 0, none⟩) := by simpa using hf.get u _ hu
  simp [results, hr, e1, e2, loadVar, run_isAgg a1, run_isAgg a2, c1 w hs, c2 w hs, asAddr]
end Go.Eng
