/- What grows a slice: zeros appended, any slice appended, a slice's own end appended to its beginning; cells cleared. No conditions. -/
import Derived.Test.YtnbihndlbopmeaaWMbClone
import Derived.Test.YtnbihndlbopmeaaWMbCuts
set_option linter.all false
namespace Go.Eng
variable {C : Cx} {D : List Deferred} {R H : List PH} {L : Env} {K : List It}
variable {dst : Option Tmp} {ty : TypeId} {pos : String} {aft : Array Edge} {g : Option (Nat × Bool)}
theorem q_cap {x : Operand} {t e : TypeId} {a : Option Addr} {n c : Nat} (h : evalE L x = some (.slice a n c)) (ht : elemP C.P t = some e) :
    Quiet C R H L ⟨dst, .call ⟨.builtin .cap, #[x], #[t]⟩, ty, pos, aft, g⟩ (.int .i64 (c : Int)) :=
  ⟨by intro c; simp, fun ac w hx _ => by
    have e1 := hx x (by simp [Op.operands, Call.operands]) _ h
    simp [execOp, resolve, e1, invoke, builtin, Builtin.cap_, run_underlying (und_elem ht), goInt]⟩
theorem und_kindI {P : Program} {t : TypeId} (h : kindP P t = some .i64) : P.underlying t = some (.int .i64) := und_kind h
theorem run_append_zeros {P : Program} (w : World) (t tx ty e : TypeId) (i : TypeInfo) (z : Value) (ht : P.underlying t = some (.slice e)) (hx : P.underlying tx = some (.int .i64)) (hi : P.info? e = some i) (hz : i.zero = some z) (n : Nat) (h0 : 0 < n) (hs : 0 < i.size)
    (h63 : (n : Int) ≤ 9223372036854775807) (h48 : n * i.bytes ≤ 281474976710656) :
    (Builtin.append_ #[t, tx] ty #[.slice none 0 0, .int .i64 (n : Int)]).run P w =
      .ok (.slice (some ⟨w.heap.size, 0, none⟩) n (grownCap w n 0 e)) (w.drew.alloc (.cells (Builtin.zeroCells z.cells n ++ Builtin.zeroCells z.cells (grownCap w n 0 e - n)) e)) := by
  have hn : ¬ (n = 0) := by omega
  have hwr : IntKind.i64.wrap (n : Int) = (n : Int) := wrap_in ⟨by omega, by omega⟩
  have hng : ¬ ((n : Int) < 0) := by omega
  have h63' : ¬ (9223372036854775807 < (n : Int)) := by omega
  have h48' : ¬ (281474976710656 < Builtin.nextslicecap n 0 * i.bytes) := by rw [nextslicecap_zero h0]; omega
  have h48'' : ¬ (281474976710656 < (n : Int) * (i.bytes : Int)) := by rw [← Int.natCast_mul]; omega
  have hm : ¬ (n * i.size = 0) := by
    have := Nat.mul_pos h0 hs
    omega
  have hmx : max (n : Int) 0 = (n : Int) := by omega
  simp [Builtin.append_, run_underlying ht, run_underlying hx, sizeOf, typeInfo, zeroValue, hi, hz, asInt, asIntOf, hwr, hng, hmx, h48'', hn, h63', h48', Question.forced, Builtin.firstCells, newRow, grownCap]
  intro h; exact absurd h hm
/-- zeros appended to nothing -/
theorem l_appendZ {x y : Operand} {t tx e : TypeId} {s by_ : Nat} {z : Value} {n : Nat} (hx : evalE L x = some (.slice none 0 0)) (hy : evalE L y = some (.int .i64 (n : Int))) (ht : elemP C.P t = some e) (htx : kindP C.P tx = some .i64) (hs : szP C.P e = some s) (hz : zeroP C.P e = some z) (hb : bytesP C.P e = some by_)
    (hzs : z.cells.size = s) (hs0 : 0 < s) (hn0 : 0 < n) (hmax : n ≤ maxLen) (hby : n * by_ ≤ 140737488355328) :
    Loud C R H L ⟨dst, .call ⟨.builtin .append, #[x, y], #[t, tx]⟩, ty, pos, aft, g⟩ (fun u H2 => ∃ b cap cur, u = .slice (some ⟨b, 0, none⟩) n cap ∧ H2 = sng b (.cells cur e (0, 0)) :: H ∧ n ≤ cap ∧ cap ≤ maxLen ∧ cur.size = cap * s) := by
  refine ⟨fun a w hxx hsat next Q hnx => ?_⟩
  obtain ⟨i, hi, rfl, hiz, rfl⟩ := info_of hs hz hb
  have htu := und_elem ht
  have e1 := hxx x (by simp [Op.operands, Call.operands]) _ hx
  have e2 := hxx y (by simp [Op.operands, Call.operands]) _ hy
  have hr := run_append_zeros (P := C.P) w t tx ty e i z htu (und_kindI htx) hi hiz n hn0 hs0 (by simp only [maxLen] at hmax; omega) (by omega)
  have hge := grownCap_ge w n 0 e
  have hcm : grownCap w n 0 e ≤ maxLen := grownCap_le_maxLen w n 0 e hmax
  have hsat2 := hsat.drew.alloc (.cells (Builtin.zeroCells z.cells n ++ Builtin.zeroCells z.cells (grownCap w n 0 e - n)) e)
  refine wpIn_value (by intro c; simp) ?_ (hnx _ _ _ ⟨w.heap.size, _, _, rfl, rfl, hge, hcm, ?_⟩ (by simpa using hsat2))
  · simp [execOp, resolve, e1, e2, invoke, builtin, hr]
  · simp only [Array.size_append, size_zeroCells, hzs, ← Nat.add_mul]
    congr 1
    omega
theorem OwnS.room {e : TypeId} {s b cap : Nat} {cur : Array Value} (h1 : cap ≤ maxLen) (h2 : cur.size = cap * s) : OwnS e s (.slice (some ⟨b, 0, none⟩) 0 cap) 0 [] (sng b (.cells cur e (0, 0))) :=
  ⟨by simp, .inr ⟨b, cap, cur, rfl, rfl, Nat.zero_le _, h1, h2, by simp⟩⟩
theorem cutP_zero (b cap s : Nat) : cutP (some ⟨b, 0, none⟩) cap 0 s = some ⟨b, 0, none⟩ := by
  unfold cutP
  split
  · rfl
  · simp [addr_add]
theorem cells_of_mem {N : Bs} {σ : PH} {b o : Nat} {vs : List Value} (m : σ ∈ R) (h : RdN σ b o vs) : Cells N R H b o vs := fun _ hs j v hv => rdc_cell (hs.r σ m) (h j v hv)
theorem cells_of_memH {N : Bs} {σ : PH} {b o : Nat} {vs : List Value} (m : σ ∈ H) (h : RdN σ b o vs) : Cells N R H b o vs := fun _ hs j v hv => rdc_cell (hs.h σ m) (h j v hv)
def encW (v : Value) : List Value := [v]
theorem encW_len (v : Value) : (encW v).length = 1 := rfl
/-- lengths added up -/
def totL {α : Type} (ls : List (List α)) : Nat := (ls.map List.length).foldr (· + ·) 0
theorem totL_cons {α : Type} (l : List α) (ls : List (List α)) : totL (l :: ls) = l.length + totL ls := rfl
theorem totL_flat {α : Type} : ∀ (ls : List (List α)), ls.flatten.length = totL ls
  | [] => rfl
  | l :: ls => by rw [List.flatten_cons, List.length_append, totL_flat ls, totL_cons]
theorem totL_take {α : Type} : ∀ (ls : List (List α)) (k : Nat) (l : List α), ls[k]? = some l → totL (ls.take (k + 1)) = totL (ls.take k) + l.length
  | [], k, l, h => by simp at h
  | x :: ls, 0, l, h => by simp at h; subst h; simp [totL]
  | x :: ls, k + 1, l, h => by
    have := totL_take ls k l (by simpa using h)
    rw [List.take_succ_cons, totL_cons, this, List.take_succ_cons, totL_cons]; omega
theorem totL_le {α : Type} : ∀ (ls : List (List α)) (k : Nat), totL (ls.take k) ≤ totL ls
  | [], k => by simp
  | x :: ls, 0 => by simp [totL]
  | x :: ls, k + 1 => by rw [List.take_succ_cons, totL_cons, totL_cons]; have := totL_le ls k; omega
theorem flat_succ {α : Type} (ls : List (List α)) (k : Nat) (l : List α) (h : ls[k]? = some l) : (ls.take (k + 1)).flatten = (ls.take k).flatten ++ l := by
  obtain ⟨hk, rfl⟩ := List.getElem?_eq_some_iff.1 h
  rw [List.take_succ_eq_append_getElem hk, List.flatten_append]
  simp only [List.flatten_cons, List.flatten_nil, List.append_nil]
/-- whatever slice is appended -/
theorem l_appendE {x y : Operand} {t e : TypeId} {s by_ : Nat} {z : Value} {v w0 : Value} {n m : Nat} {xs news : List Value} {ρ σ : PH} {H' : List PH}
    (hx : evalE L x = some v) (hy : evalE L y = some w0) (ht : elemP C.P t = some e) (hs : szP C.P e = some s) (hz : zeroP C.P e = some z) (hb : bytesP C.P e = some by_)
    (hzs : z.cells.size = s) (hown : OwnS e s v n xs ρ) (htk : Take ρ H H') (hw : SlAt σ s w0 m news) (hc : ∀ b o, RdN σ b o news → Cells C.N R H' b o news) (h1 : ∀ u ∈ news, u.oneCell' = true) (hmax : n + m ≤ maxLen) (hby : (n + m) * by_ ≤ 140737488355328) :
    Loud C R H L ⟨dst, .call ⟨.builtin .append, #[x, y], #[t, t]⟩, ty, pos, aft, g⟩ (fun u H2 => ∃ ρ', OwnS e s u (n + m) (xs ++ news) ρ' ∧ H2 = ρ' :: H') := by
  rcases Nat.eq_zero_or_pos m with h0 | h0
  · subst h0
    have hnews : news = [] := List.eq_nil_of_length_eq_zero (by have := hw.1; simpa using this)
    subst hnews
    obtain ⟨p, c2, rfl⟩ := hw.cap
    obtain ⟨i, hi, rfl, hiz, rfl⟩ := info_of hs hz hb
    have htu := und_elem ht
    refine ⟨fun a w hxx hsat next Q hnx => ?_⟩
    have e1 := hxx x (by simp [Op.operands, Call.operands]) _ hx
    have e2 := hxx y (by simp [Op.operands, Call.operands]) _ hy
    have hf : (Builtin.firstCells i.size 0 (.slice p 0 c2)).run C.P w = .ok #[] w := by
      cases p with
      | none => simp [Builtin.firstCells]
      | some ad => exact run_firstCells_some (P := C.P) w i.size 0 ad 0 c2 [] (by simp) (by simp)
    have hr : (Builtin.append_ #[t, t] ty #[v, .slice p 0 c2]).run C.P w = .ok v w := by
      obtain ⟨_, ⟨rfl, rfl, _⟩ | ⟨b, cap, cur, rfl, _, hle, _⟩⟩ := hown
      · simp [Builtin.append_, run_underlying htu, sizeOf, typeInfo, hi, Builtin.lenOf, hf]
      · simp [Builtin.append_, run_underlying htu, sizeOf, typeInfo, hi, Builtin.lenOf, hle, hf, storeCells]
    refine wpIn_value (by intro c; simp) ?_ (hnx v _ w ⟨ρ, by simpa using hown, rfl⟩ (hsat.take htk))
    simp [execOp, resolve, e1, e2, invoke, builtin, hr]
  · obtain ⟨b2, o2, c2, rfl, hr⟩ := hw.some h0
    exact l_append hx hy ht hs hz hb hzs hown htk (hc b2 o2 (fun j v hv => hr j v hv)) hw.1 h1 h0 hmax hby
end Go.Eng
