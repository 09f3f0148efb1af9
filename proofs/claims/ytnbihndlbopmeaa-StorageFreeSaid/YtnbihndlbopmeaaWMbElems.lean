/- Blocks of elements of more than one cell each: made, written, read. No conditions. -/
import Derived.Test.YtnbihndlbopmeaaWMbFrame
set_option linter.all false
namespace Go.Eng
variable {C : Cx} {D : List Deferred} {R H : List PH} {L : Env} {K : List It}
def elems {α : Type} (enc : α → List Value) (l : List α) : Array Value := (l.flatMap enc).toArray
theorem elems_size {α : Type} {enc : α → List Value} {s : Nat} (he : ∀ x, (enc x).length = s) (l : List α) : (elems enc l).size = l.length * s := by simp [elems, flat_len he]
theorem elems_get {α : Type} {enc : α → List Value} {s : Nat} (he : ∀ x, (enc x).length = s) {l : List α} {i : Nat} {x : α} (hx : l[i]? = some x) {j : Nat} {v : Value} (hv : (enc x)[j]? = some v) : (elems enc l)[i * s + j]? = some v := by
  have := flat_get he l i x hx j v hv
  simpa [elems] using this
theorem flat_set {α : Type} {enc : α → List Value} {s : Nat} (he : ∀ x, (enc x).length = s) : ∀ (l : List α) (i : Nat) (x : α), i < l.length → (l.set i x).flatMap enc = (l.flatMap enc).take (i * s) ++ enc x ++ (l.flatMap enc).drop (i * s + s)
  | [], i, x, h => by simp at h
  | y :: l, 0, x, _ => by
    have : (enc y).length = s := he y
    simp only [List.set_cons_zero, List.flatMap_cons, Nat.zero_mul, List.take_zero, List.nil_append, Nat.zero_add]
    rw [← this, List.drop_left]
  | y :: l, i + 1, x, h => by
    have ih := flat_set he l i x (by simpa using h)
    have hy : (enc y).length = s := he y
    simp only [List.set_cons_succ, List.flatMap_cons]
    have e1 : (i + 1) * s = (enc y).length + i * s := by rw [hy, Nat.add_mul]; omega
    have e2 : (i + 1) * s + s = (enc y).length + (i * s + s) := by rw [e1]; omega
    have h1 : (enc y ++ l.flatMap enc).take ((enc y).length + i * s) = enc y ++ (l.flatMap enc).take (i * s) := by
      rw [List.take_append, List.take_of_length_le (l := enc y) (by omega)]
      congr 2
      omega
    have h2 : (enc y ++ l.flatMap enc).drop ((enc y).length + (i * s + s)) = (l.flatMap enc).drop (i * s + s) := by
      rw [List.drop_append, List.drop_of_length_le (l := enc y) (by omega), List.nil_append]
      congr 1
      omega
    rw [ih, e2, e1, h1, h2]
    simp
theorem slE_sng {α : Type} {enc : α → List Value} {s : Nat} (he : ∀ x, (enc x).length = s) {b : Nat} {l : List α} {t : TypeId} {fr : Nat × Nat} {c : Nat} : SlE enc s (sng b (.cells (elems enc l) t fr)) (.slice (some ⟨b, 0, none⟩) l.length c) l := by
  refine ⟨flat_len he l, .inr ⟨b, 0, c, rfl, fun j u hu => ?_⟩⟩
  rw [rdc_sng, Nat.zero_add]
  simpa [elems] using hu
section
variable {dst : Option Tmp} {ty : TypeId} {pos : String} {aft : Array Edge} {g : Option (Nat × Bool)}
theorem made_elems {α : Type} {enc : α → List Value} {s : Nat} {z : Value} {a : α} (hz : z.cells.toList = enc a) (he : (enc a).length = s) : ∀ n, madeCells z.cells (n * s) = elems enc (List.replicate n a) := by
  intro n
  have hs : z.cells.size = s := by rw [← he, ← hz]; simp
  apply Array.ext'
  have hl : ∀ n, ((List.replicate n a).flatMap enc).length = n * s := fun n => by
    induction n with
    | zero => simp
    | succ n ih => rw [List.replicate_succ, List.flatMap_cons, List.length_append, ih, he, Nat.add_mul]; omega
  have hget : ∀ n j, j < n * s → ((List.replicate n a).flatMap enc)[j]? = (enc a)[j % s]? := fun n => by
    induction n with
    | zero => intro j h; simp at h
    | succ n ih =>
      intro j hj
      rw [List.replicate_succ, List.flatMap_cons]
      by_cases hjs : j < s
      · rw [List.getElem?_append_left (by omega), Nat.mod_eq_of_lt hjs]
      · have h3 : j - s < n * s := by rw [Nat.add_mul] at hj; omega
        rw [List.getElem?_append_right (by omega), he, ih (j - s) h3, ← Nat.mod_eq_sub_mod (show j ≥ s by omega)]
  apply List.ext_getElem?
  intro j
  rw [Array.getElem?_toList, show (elems enc (List.replicate n a)).toList = (List.replicate n a).flatMap enc from by simp [elems]]
  by_cases hj : j < n * s
  · rw [hget n j hj]
    have h0 : 0 < s := by
      rcases Nat.eq_zero_or_pos s with h | h
      · rw [h] at hj; simp at hj
      · exact h
    have hm : j % s < z.cells.size := by rw [hs]; exact Nat.mod_lt _ h0
    simp only [madeCells]
    rw [Array.getElem?_map, Array.getElem?_range, if_pos hj, ← hz, Array.getElem?_toList]
    simp [hs, hm]
    rw [hs] at hm
    simp [hm, hs]
  · rw [List.getElem?_eq_none (by rw [hl]; omega)]
    rw [Array.getElem?_eq_none]
    rw [size_madeCells]; omega
theorem l_makeE {α : Type} {enc : α → List Value} {x y : Operand} {t e : TypeId} {s by_ : Nat} {z : Value} {k1 k2 : IntKind} {n : Nat} (a : α) (hx : evalE L x = some (.int k1 (n : Int))) (hy : evalE L y = some (.int k2 (n : Int))) (ht : elemP C.P t = some e) (hs : szP C.P e = some s) (hz : zeroP C.P e = some z) (hb : bytesP C.P e = some by_)
    (hza : z.cells.toList = enc a) (hea : (enc a).length = s) (hn : n ≤ 9223372036854775807) (hby : by_ * n ≤ 281474976710656) :
    Loud C R H L ⟨dst, .makeSlice t x y, ty, pos, aft, g⟩ (fun u H2 => ∃ b, u = .slice (some ⟨b, 0, none⟩) n n ∧ H2 = sng b (.cells (elems enc (List.replicate n a)) e (0, 0)) :: H) := by
  have := l_make (C := C) (R := R) (H := H) (dst := dst) (ty := ty) (pos := pos) (aft := aft) (g := g) hx hy ht hs hz hb hn hby
  rwa [made_elems hza hea] at this
/-- an element written whole -/
theorem l_storeE {α : Type} {enc : α → List Value} {s : Nat} (he : ∀ x, (enc x).length = s) {t T : TypeId} {x y : Operand} {b o : Nat} {l : List α} {a : α} {H' : List PH} (i : Nat) (h : evalE L x = some (.pointer (some ⟨b, o, none⟩))) (ho : o = i * s) (hv : evalE L y = some (.agg (enc a).toArray)) (h1 : ∀ v ∈ enc a, v.oneCell' = true)
    (hn : szP C.P t = some s) (ht : Take (sng b (.cells (elems enc l) T (0, 0))) H H') (hi : i < l.length) :
    Loud C R H L ⟨dst, .store t x y, ty, pos, aft, g⟩ (fun u H2 => u = undef ∧ H2 = sng b (.cells (elems enc (l.set i a)) T (0, 0)) :: H') := by
  subst ho
  have hle : i * s + s ≤ l.length * s := by
    have := Nat.mul_le_mul_right s (show i + 1 ≤ l.length from hi)
    rw [Nat.add_mul] at this; omega
  have := l_storeA (C := C) (R := R) (L := L) (dst := dst) (ty := ty) (pos := pos) (aft := aft) (g := g) h hv h1 (by rw [he]; exact hn) ht (by rw [he, elems_size he]; exact hle)
  rw [he] at this
  have e : (elems enc l).toList = l.flatMap enc := by simp [elems]
  rw [e, ← flat_set he l i a hi] at this
  exact this
theorem cell_elems {α : Type} {enc : α → List Value} {s : Nat} (he : ∀ x, (enc x).length = s) {N : Bs} {b o : Nat} {T : TypeId} {fr : Nat × Nat} {l : List α} {i j : Nat} {x : α} {v : Value} (hx : l[i]? = some x) (hv : (enc x)[j]? = some v) (ho : o = i * s + j) (m : Mem (sng b (.cells (elems enc l) T fr)) H) : Cell N R H b o v := by
  subst ho
  exact cell_own m (elems_get he hx hv)
/-- twice a number -/
theorem q_dbl {x y : Operand} {xT yT : TypeId} {j : Nat} (h1 : evalE L x = some (.int .i64 2)) (h2 : evalE L y = some (.int .i64 (j : Int))) (hr : j ≤ 4611686018427387903) : Quiet C R H L ⟨dst, .binOp .mul xT x y yT, ty, pos, aft, g⟩ (.int .i64 ((2 * j : Nat) : Int)) := by
  have := q_mul (C := C) (R := R) (H := H) (dst := dst) (ty := ty) (pos := pos) (aft := aft) (g := g) (xT := xT) (yT := yT) h1 h2 ⟨by omega, by omega⟩
  rwa [show 2 * (j : Int) = ((2 * j : Nat) : Int) from by omega] at this
end
end Go.Eng
