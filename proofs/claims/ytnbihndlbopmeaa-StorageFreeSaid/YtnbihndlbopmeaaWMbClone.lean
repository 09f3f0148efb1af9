/- A slice against nil; nothing appended; a slice that the call owns, as a block of elements. No conditions. -/
import Derived.Test.YtnbihndlbopmeaaWMbElems
import Derived.Lib.LazyBuf
set_option linter.all false
namespace Go.Eng
variable {C : Cx} {D : List Deferred} {R H : List PH} {L : Env} {K : List It}
section
variable {dst : Option Tmp} {ty : TypeId} {pos : String} {aft : Array Edge} {g : Option (Nat × Bool)}
theorem q_nilS {x y : Operand} {t e yT : TypeId} {a : Option Addr} {n c : Nat} (h : evalE L x = some (.slice a n c)) (h2 : evalE L y = some (.slice none 0 0)) (ht : elemP C.P t = some e) :
    Quiet C R H L ⟨dst, .binOp .eql t x y yT, ty, pos, aft, g⟩ (.bool a.isNone) :=
  ⟨by intro c; simp, fun ac w hx _ => by
    have e1 := hx x (by simp [Op.operands]) _ h
    have e2 := hx y (by simp [Op.operands]) _ h2
    have hr := Go.run_eql_slice_nil (P := C.P) w t e a n c (und_elem ht)
    simp [execOp, e1, e2, eqGuard, hr]⟩
theorem q_nilSt {x y : Operand} {t e yT : TypeId} {n c : Nat} (h : evalE L x = some (.slice none n c)) (h2 : evalE L y = some (.slice none 0 0)) (ht : elemP C.P t = some e) :
    Quiet C R H L ⟨dst, .binOp .eql t x y yT, ty, pos, aft, g⟩ (.bool true) := q_nilS h h2 ht
theorem q_nilSf {x y : Operand} {t e yT : TypeId} {a : Addr} {n c : Nat} (h : evalE L x = some (.slice (some a) n c)) (h2 : evalE L y = some (.slice none 0 0)) (ht : elemP C.P t = some e) :
    Quiet C R H L ⟨dst, .binOp .eql t x y yT, ty, pos, aft, g⟩ (.bool false) := q_nilS h h2 ht
/-- nothing is appended -/
theorem q_append0 {x y : Operand} {t e : TypeId} {s b o n c c2 : Nat} {p : Option Addr} (hx : evalE L x = some (.slice (some ⟨b, o, none⟩) n c)) (hy : evalE L y = some (.slice p 0 c2)) (ht : elemP C.P t = some e) (hs : szP C.P e = some s) (hn : n ≤ c) :
    Quiet C R H L ⟨dst, .call ⟨.builtin .append, #[x, y], #[t, t]⟩, ty, pos, aft, g⟩ (.slice (some ⟨b, o, none⟩) n c) :=
  ⟨by intro c; simp, fun a w hxx _ => by
    have e1 := hxx x (by simp [Op.operands, Call.operands]) _ hx
    have e2 := hxx y (by simp [Op.operands, Call.operands]) _ hy
    have htu := und_elem ht
    obtain ⟨i, hi, his⟩ : ∃ i, C.P.info? e = some i ∧ i.size = s := by
      unfold szP at hs
      cases hi : C.P.info? e with
      | none => simp [hi] at hs
      | some i => simp only [hi, Option.some.injEq] at hs; exact ⟨i, rfl, hs⟩
    have hf : (Builtin.firstCells i.size 0 (.slice p 0 c2)).run C.P w = .ok #[] w := by
      cases p with
      | none => simp [Builtin.firstCells]
      | some ad => exact run_firstCells_some (P := C.P) w i.size 0 ad 0 c2 [] (by simp) (by simp)
    have hr : (Builtin.append_ #[t, t] ty #[.slice (some ⟨b, o, none⟩) n c, .slice p 0 c2]).run C.P w = .ok (.slice (some ⟨b, o, none⟩) n c) w := by
      simp [Builtin.append_, run_underlying htu, sizeOf, typeInfo, hi, Builtin.lenOf, hn, hf, storeCells]
    simp [execOp, resolve, e1, e2, invoke, builtin, hr]⟩
end
theorem OwnS.empty {e : TypeId} {size b : Nat} : OwnS e size (.slice (some ⟨b, 0, none⟩) 0 0) 0 [] (sng b (.cells #[] e (0, 0))) := ⟨by simp, .inr ⟨b, 0, #[], rfl, rfl, by omega, by simp, by simp, by simp⟩⟩
/-- an owned slice as its block: n elements, then room -/
theorem OwnS.block {α : Type} {enc : α → List Value} {s : Nat} {e : TypeId} {v : Value} {l : List α} {ρ : PH} (h : OwnS e s v l.length (l.flatMap enc) ρ) :
    (v = .slice none 0 0 ∧ l = [] ∧ ρ = emp) ∨ ∃ b cap cur, v = .slice (some ⟨b, 0, none⟩) l.length cap ∧ ρ = sng b (.cells cur e (0, 0)) ∧ l.length ≤ cap ∧ cap ≤ maxLen ∧ cur.size = cap * s ∧ cur.toList.take (l.length * s) = l.flatMap enc := by
  obtain ⟨_, ⟨rfl, h2, rfl⟩ | ⟨b, cap, cur, rfl, rfl, h1, h2, h3, h4⟩⟩ := h
  · exact .inl ⟨rfl, List.eq_nil_of_length_eq_zero h2, rfl⟩
  · exact .inr ⟨b, cap, cur, rfl, rfl, h1, h2, h3, h4⟩
/-- an element of an owned slice is written -/
theorem l_storeO {dst : Option Tmp} {ty : TypeId} {pos : String} {aft : Array Edge} {g : Option (Nat × Bool)} {α : Type} {enc : α → List Value} {s : Nat} (he : ∀ x, (enc x).length = s) {t e : TypeId} {x y : Operand} {b o cap : Nat} {l : List α} {a : α} {ρ : PH} {H' : List PH} (i : Nat)
    (hO : OwnS e s (.slice (some ⟨b, 0, none⟩) l.length cap) l.length (l.flatMap enc) ρ) (h : evalE L x = some (.pointer (some ⟨b, o, none⟩))) (ho : o = i * s) (hv : evalE L y = some (.agg (enc a).toArray)) (h1 : ∀ v ∈ enc a, v.oneCell' = true)
    (hn : szP C.P t = some s) (ht : Take ρ H H') (hi : i < l.length) :
    Loud C R H L ⟨dst, .store t x y, ty, pos, aft, g⟩ (fun u H2 => u = undef ∧ ∃ ρ', OwnS e s (.slice (some ⟨b, 0, none⟩) (l.set i a).length cap) (l.set i a).length ((l.set i a).flatMap enc) ρ' ∧ H2 = ρ' :: H') := by
  subst ho
  obtain ⟨h0, ⟨h2, _⟩ | ⟨b', cap', cur, h2, rfl, k1, k2, k3, k4⟩⟩ := hO
  · simp at h2
  · simp only [Value.slice.injEq, Option.some.injEq, Addr.mk.injEq, and_true, true_and] at h2
    obtain ⟨rfl, rfl⟩ := h2
    have hle : i * s + s ≤ l.length * s := by
      have := Nat.mul_le_mul_right s (show i + 1 ≤ l.length from hi)
      rw [Nat.add_mul] at this; omega
    have hle2 : l.length * s ≤ cap * s := Nat.mul_le_mul_right s k1
    have := l_storeA (C := C) (R := R) (L := L) (dst := dst) (ty := ty) (pos := pos) (aft := aft) (g := g) h hv h1 (by rw [he]; exact hn) ht (by rw [he]; omega)
    rw [he] at this
    refine ⟨fun ac w hx hs next Q hnx => this.run ac w hx hs next Q (fun v H2 w' hp hs' => ?_)⟩
    obtain ⟨rfl, rfl⟩ := hp
    refine hnx _ _ _ ⟨rfl, _, ⟨flat_len he _, .inr ⟨b, cap, _, rfl, rfl, by simpa using k1, k2, ?_, ?_⟩⟩, rfl⟩ hs'
    · simp only [List.size_toArray, List.length_append, List.length_take, List.length_drop, Array.length_toList, he]
      omega
    · rw [flat_set he l i a hi, ← k4, List.length_set]
      have e1 : (cur.toList.take (l.length * s)).take (i * s) = cur.toList.take (i * s) := by rw [List.take_take]; congr 1; omega
      have e2 : (cur.toList.take (l.length * s)).drop (i * s + s) = (cur.toList.drop (i * s + s)).take (l.length * s - (i * s + s)) := List.drop_take ..
      rw [e1, e2]
      have hl1 : (cur.toList.take (i * s)).length = i * s := by rw [List.length_take, Array.length_toList]; omega
      rw [List.append_assoc, List.append_assoc, List.take_append, hl1, List.take_of_length_le (by omega), List.take_append, he, List.take_of_length_le (l := enc a) (by rw [he]; omega)]
      congr 3
      omega
end Go.Eng
namespace Go.Eng
variable {C : Cx} {D : List Deferred} {R H : List PH} {L : Env} {K : List It}
theorem flat_set1 {α : Type} {enc : α → List Value} {s : Nat} (he : ∀ x, (enc x).length = s) {j : Nat} {v : Value} {a' : α} (hj : j < s) : ∀ (l : List α) (i : Nat) (a : α), l[i]? = some a → enc a' = (enc a).set j v → (l.flatMap enc).set (i * s + j) v = (l.set i a').flatMap enc
  | [], i, a, h, _ => by simp at h
  | y :: l, 0, a, h, h' => by
    simp at h; subst h
    simp only [List.flatMap_cons, Nat.zero_mul, Nat.zero_add, List.set_cons_zero]
    rw [List.set_append_left _ _ (by rw [he]; exact hj), h']
  | y :: l, i + 1, a, h, h' => by
    have ih := flat_set1 he hj l i a (by simpa using h) h'
    have hy : (enc y).length = s := he y
    simp only [List.flatMap_cons, List.set_cons_succ]
    have e : (i + 1) * s + j = (enc y).length + (i * s + j) := by rw [hy, Nat.add_mul]; omega
    rw [e, List.set_append_right _ _ (by omega), show (enc y).length + (i * s + j) - (enc y).length = i * s + j from by omega, ih]
/-- one cell of an element of an owned slice is written -/
theorem l_storeF {dst : Option Tmp} {ty : TypeId} {pos : String} {aft : Array Edge} {g : Option (Nat × Bool)} {α : Type} {enc : α → List Value} {s : Nat} (he : ∀ x, (enc x).length = s) {t e : TypeId} {x y : Operand} {b o cap : Nat} {l : List α} {a : α} {v : Value} {ρ : PH} {H' : List PH} (i j : Nat) (a' : α)
    (hO : OwnS e s (.slice (some ⟨b, 0, none⟩) l.length cap) l.length (l.flatMap enc) ρ) (h : evalE L x = some (.pointer (some ⟨b, o, none⟩))) (ho : o = i * s + j) (hj : j < s) (ha : l[i]? = some a) (ha' : enc a' = (enc a).set j v) (hv : evalE L y = some v) (h1 : v.oneCell' = true)
    (hn : szP C.P t = some 1) (ht : Take ρ H H') :
    Loud C R H L ⟨dst, .store t x y, ty, pos, aft, g⟩ (fun u H2 => u = undef ∧ ∃ ρ', OwnS e s (.slice (some ⟨b, 0, none⟩) (l.set i a').length cap) (l.set i a').length ((l.set i a').flatMap enc) ρ' ∧ H2 = ρ' :: H') := by
  subst ho
  have hi : i < l.length := (List.getElem?_eq_some_iff.1 ha).1
  obtain ⟨h0, ⟨h2, _⟩ | ⟨b', cap', cur, h2, rfl, k1, k2, k3, k4⟩⟩ := hO
  · simp at h2
  · simp only [Value.slice.injEq, Option.some.injEq, Addr.mk.injEq, and_true, true_and] at h2
    obtain ⟨rfl, rfl⟩ := h2
    have hle : i * s + s ≤ l.length * s := by
      have := Nat.mul_le_mul_right s (show i + 1 ≤ l.length from hi)
      rw [Nat.add_mul] at this; omega
    have hle2 : l.length * s ≤ cap * s := Nat.mul_le_mul_right s k1
    have := l_store (C := C) (R := R) (L := L) (dst := dst) (ty := ty) (pos := pos) (aft := aft) (g := g) h hv h1 hn ht (by omega)
    refine ⟨fun ac w hx hs next Q hnx => this.run ac w hx hs next Q (fun v H2 w' hp hs' => ?_)⟩
    obtain ⟨rfl, rfl⟩ := hp
    refine hnx _ _ _ ⟨rfl, _, ⟨flat_len he _, .inr ⟨b, cap, _, rfl, rfl, by simpa using k1, k2, by simpa using k3, ?_⟩⟩, rfl⟩ hs'
    rw [← flat_set1 he hj l i a ha ha', ← k4, List.length_set, Array.toList_setIfInBounds, List.take_set]
end Go.Eng
