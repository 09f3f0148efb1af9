/- A slice's own end appended to its beginning; cells cleared. No conditions. -/
import Derived.Test.YtlpemhpfljhhbaaWMbGrow
set_option linter.all false
namespace Go.Eng
variable {C : Cx} {D : List Deferred} {R H : List PH} {L : Env} {K : List It}
variable {dst : Option Tmp} {ty : TypeId} {pos : String} {aft : Array Edge} {g : Option (Nat × Bool)}
/-- a cut with its room cut, too: in bounds -/
theorem q_cut3 {x y z u : Operand} {t e : TypeId} {a : Option Addr} {n c s i j m : Nat} {k k2 k3 : IntKind} (h : evalE L x = some (.slice a n c)) (hy : evalE L y = some (.int k (i : Int))) (hz : evalE L z = some (.int k2 (j : Int))) (hu : evalE L u = some (.int k3 (m : Int))) (ht : elemP C.P t = some e) (hs : szP C.P e = some s) (h1 : i ≤ j) (h2 : j ≤ m) (h3 : m ≤ c) :
    Quiet C R H L ⟨dst, .slice t x (some y) (some z) (some u), ty, pos, aft, g⟩ (.slice (cutP a m i s) (j - i) (m - i)) :=
  ⟨by intro c; simp, fun ac w hx _ => by
    have e1 := hx x (by simp [Op.operands]) _ h
    have e2 := hx y (by simp [Op.operands]) _ hy
    have e3 := hx z (by simp [Op.operands]) _ hz
    have e4 := hx u (by simp [Op.operands]) _ hu
    simp [execOp, e1, e2, e3, e4, Instr.sliceAt, run_underlying (und_elem ht), Instr.slice, Instr.sliceBounds, Instr.sliceBound, asIntOf, run_sizeOf hs, h1, h2, h3, cutP]⟩
theorem OwnS.cells_at {e : TypeId} {s n b cap : Nat} {xs : List Value} {ρ : PH} (h : OwnS e s (.slice (some ⟨b, 0, none⟩) n cap) n xs ρ) : ∃ cur, ρ = sng b (.cells cur e (0, 0)) ∧ n ≤ cap ∧ cap ≤ maxLen ∧ cur.size = cap * s ∧ cur.toList.take (n * s) = xs := by
  obtain ⟨_, ⟨h1, _⟩ | ⟨b', cap', cur, h1, rfl, h2, h3, h4, h5⟩⟩ := h
  · simp at h1
  · simp only [Value.slice.injEq, Option.some.injEq, Addr.mk.injEq, and_true, true_and] at h1
    obtain ⟨rfl, rfl⟩ := h1
    exact ⟨cur, rfl, h2, h3, h4, h5⟩
/-- a slice's end is appended to its beginning -/
theorem l_appendSelf {x y : Operand} {t e : TypeId} {s by_ : Nat} {z : Value} {b n cap i j : Nat} {xs : List Value} {ρ : PH} {H' : List PH}
    (hx : evalE L x = some (.slice (some ⟨b, 0, none⟩) i cap)) (hy : evalE L y = some (.slice (cutP (some ⟨b, 0, none⟩) cap j s) (n - j) (cap - j))) (ht : elemP C.P t = some e) (hs : szP C.P e = some s) (hz : zeroP C.P e = some z) (hb : bytesP C.P e = some by_)
    (hown : OwnS e s (.slice (some ⟨b, 0, none⟩) n cap) n xs ρ) (htk : Take ρ H H') (h1 : ∀ u ∈ xs, u.oneCell' = true) (hij : i ≤ j) (hjn : j ≤ n) :
    Loud C R H L ⟨dst, .call ⟨.builtin .append, #[x, y], #[t, t]⟩, ty, pos, aft, g⟩ (fun u H2 => u = .slice (some ⟨b, 0, none⟩) (i + (n - j)) cap ∧ ∃ ρ', OwnS e s (.slice (some ⟨b, 0, none⟩) (i + (n - j)) cap) (i + (n - j)) (xs.take (i * s) ++ xs.drop (j * s)) ρ' ∧ H2 = ρ' :: H') := by
  refine ⟨fun a w hxx hsat next Q hnx => ?_⟩
  have hxl : xs.length = n * s := hown.1
  obtain ⟨cur, rfl, hnc, hcm, hcs, htk2⟩ := hown.cells_at
  obtain ⟨ti, hi, rfl, hiz, rfl⟩ := info_of hs hz hb
  have htu := und_elem ht
  have e1 := hxx x (by simp [Op.operands, Call.operands]) _ hx
  have e2 := hxx y (by simp [Op.operands, Call.operands]) _ hy
  have hg : w.heap[b]? = some (.cells cur e (0, 0)) := hsat.own htk
  have his : i * ti.size ≤ j * ti.size := Nat.mul_le_mul_right _ hij
  have hjs : j * ti.size ≤ n * ti.size := Nat.mul_le_mul_right _ hjn
  have hns : n * ti.size ≤ cap * ti.size := Nat.mul_le_mul_right _ hnc
  have hex : ∀ (u : Value) (w' : World), (Builtin.append_ #[t, t] ty #[.slice (some ⟨b, 0, none⟩) i cap, .slice (cutP (some ⟨b, 0, none⟩) cap j ti.size) (n - j) (cap - j)]).run C.P w = .ok u w' →
      (execOp a.eval ⟨dst, .call ⟨.builtin .append, #[x, y], #[t, t]⟩, ty, pos, aft, g⟩).run C.P w = .ok (.value u) w' := by
    intro u w' hr
    simp [execOp, resolve, e1, e2, invoke, builtin, hr]
  have hti : cur.toList.take (i * ti.size) = xs.take (i * ti.size) := by rw [← htk2, List.take_take]; congr 1; omega
  rcases Nat.eq_zero_or_pos (n - j) with h0 | h0
  · have hjn' : j = n := by omega
    subst hjn'
    have hdr : xs.drop (j * ti.size) = [] := List.drop_of_length_le (by omega)
    rw [hdr, List.append_nil, h0, Nat.add_zero] at hnx
    have hf : (Builtin.firstCells ti.size 0 (.slice (cutP (some ⟨b, 0, none⟩) cap j ti.size) 0 (cap - j))).run C.P w = .ok #[] w := by
      cases hp : cutP (some ⟨b, 0, none⟩) cap j ti.size with
      | none => simp [Builtin.firstCells]
      | some ad => exact run_firstCells_some (P := C.P) w ti.size 0 ad 0 _ [] (by simp) (by simp)
    have hr : (Builtin.append_ #[t, t] ty #[.slice (some ⟨b, 0, none⟩) i cap, .slice (cutP (some ⟨b, 0, none⟩) cap j ti.size) (j - j) (cap - j)]).run C.P w = .ok (.slice (some ⟨b, 0, none⟩) i cap) w := by
      rw [h0]
      simp [Builtin.append_, run_underlying htu, sizeOf, typeInfo, hi, Builtin.lenOf, show i ≤ cap by omega, hf, storeCells]
    refine wpIn_value (by intro c; simp) (hex _ _ hr) (hnx _ _ _ ⟨rfl, _, ⟨by rw [List.length_take]; omega, .inr ⟨b, cap, cur, rfl, rfl, by omega, hcm, hcs, hti⟩⟩, rfl⟩ (hsat.take htk))
  · have hcut : cutP (some ⟨b, 0, none⟩) cap j ti.size = some ⟨b, j * ti.size, none⟩ := by
      unfold cutP
      rw [if_neg (by omega)]
      simp [addr_add]
    have hnl : (xs.drop (j * ti.size)).length = (n - j) * ti.size := by rw [List.length_drop, hxl, Nat.sub_mul]
    have hcell : ∀ q u, (xs.drop (j * ti.size))[q]? = some u → w.cell? ((⟨b, j * ti.size, none⟩ : Addr).add q) = some u := by
      intro q u hu
      rw [Addr.add_lit, cell_of_row w b _ cur e (0, 0) hg, ← Array.getElem?_toList]
      rw [List.getElem?_drop, ← htk2] at hu
      have hq : j * ti.size + q < n * ti.size := by
        have := (List.getElem?_eq_some_iff.1 hu).1
        simp at this; omega
      rwa [List.getElem?_take_of_lt hq] at hu
    have hroom : i + (n - j) ≤ cap := by omega
    have hle3 : (i + (n - j)) * ti.size ≤ cap * ti.size := Nat.mul_le_mul_right _ hroom
    have hfit : i * ti.size + (xs.drop (j * ti.size)).length ≤ cur.size := by rw [hnl, hcs, ← Nat.add_mul]; exact hle3
    have hr := run_append_room (P := C.P) w t ty e ti htu hi b i cap cur hg ⟨b, j * ti.size, none⟩ (n - j) (cap - j) (xs.drop (j * ti.size)) hnl hcell (fun u hu => h1 u (List.mem_of_mem_drop hu)) hroom hfit
    rw [← hcut] at hr
    refine wpIn_value (by intro c; simp) (hex _ _ hr) (hnx _ _ _ ⟨rfl, _, ⟨?_, .inr ⟨b, cap, _, rfl, rfl, hroom, hcm, ?_, ?_⟩⟩, rfl⟩ (hsat.turn htk ?_ (setRow_heap w b cur _ e _ hg) (fun k hk => setRow_other w b k _ hk)))
    · rw [List.length_append, hnl, List.length_take, hxl, Nat.add_mul]
      omega
    · simp only [List.size_toArray, List.length_append, List.length_take, List.length_drop, Array.length_toList]
      rw [List.length_drop] at hfit
      omega
    · have hlen : (cur.toList.take (i * ti.size) ++ xs.drop (j * ti.size)).length = (i + (n - j)) * ti.size := by
        rw [List.length_append, hnl, List.length_take, Array.length_toList, Nat.add_mul]; omega
      rw [← hlen, hti]
      exact List.take_left
    · simp
/-- cells behind an owned slice's end are cleared -/
theorem l_clearO {x : Operand} {t e : TypeId} {s by_ : Nat} {z : Value} {b n cap m c2 : Nat} {xs : List Value} {ρ : PH} {H' : List PH}
    (hx : evalE L x = some (.slice (cutP (some ⟨b, 0, none⟩) cap n s) m c2)) (ht : elemP C.P t = some e) (hs : szP C.P e = some s) (hz : zeroP C.P e = some z) (hb : bytesP C.P e = some by_) (hzs : z.cells.size = s) (hz1 : ∀ u ∈ z.cells.toList, u.oneCell' = true)
    (hown : OwnS e s (.slice (some ⟨b, 0, none⟩) n cap) n xs ρ) (htk : Take ρ H H') (hm : 0 < m) (hnm : n + m ≤ cap) :
    Loud C R H L ⟨dst, .call ⟨.builtin .clear, #[x], #[t]⟩, ty, pos, aft, g⟩ (fun u H2 => u = .tuple #[] ∧ ∃ ρ', OwnS e s (.slice (some ⟨b, 0, none⟩) n cap) n xs ρ' ∧ H2 = ρ' :: H') := by
  refine ⟨fun a w hxx hsat next Q hnx => ?_⟩
  have hxl : xs.length = n * s := hown.1
  obtain ⟨cur, rfl, hnc, hcm, hcs, htk2⟩ := hown.cells_at
  obtain ⟨ti, hi, rfl, hiz, rfl⟩ := info_of hs hz hb
  have htu := und_elem ht
  have e1 := hxx x (by simp [Op.operands, Call.operands]) _ hx
  have hg : w.heap[b]? = some (.cells cur e (0, 0)) := hsat.own htk
  have hcut : cutP (some ⟨b, 0, none⟩) cap n ti.size = some ⟨b, n * ti.size, none⟩ := by
    unfold cutP
    rw [if_neg (by omega)]
    simp [addr_add]
  have hle3 : (n + m) * ti.size ≤ cap * ti.size := Nat.mul_le_mul_right _ hnm
  have hzl : (Builtin.zeroCells z.cells m).toList.length = m * ti.size := by rw [Array.length_toList, size_zeroCells, hzs]
  have hone : ∀ v ∈ (Builtin.zeroCells z.cells m).toList, v.oneCell' = true := by
    intro v hv
    simp only [Builtin.zeroCells, Array.toList_map, List.mem_map] at hv
    obtain ⟨q, hq, rfl⟩ := hv
    have h0 : 0 < z.cells.size := by
      rcases Nat.eq_zero_or_pos z.cells.size with h | h
      · simp [h] at hq
      · exact h
    have hlt : q % z.cells.size < z.cells.size := Nat.mod_lt _ h0
    rw [getElem!_pos z.cells _ hlt]
    exact hz1 _ (by simp)
  have hst := run_storeCells_at C.P b (n * ti.size) e (Builtin.zeroCells z.cells m).toList 0 cur w hg (by rw [hzl, hcs, Nat.add_zero, ← Nat.add_mul]; exact hle3) hone
  have hm0 : m ≠ 0 := by omega
  have hr : (Builtin.clear_ #[t] ty #[.slice (some ⟨b, n * ti.size, none⟩) m c2]).run C.P w = .ok (.tuple #[]) (w.setRow b (cur.toList.take (n * ti.size + 0) ++ (Builtin.zeroCells z.cells m).toList ++ cur.toList.drop (n * ti.size + 0 + (Builtin.zeroCells z.cells m).toList.length)).toArray) := by
    obtain ⟨m', rfl⟩ : ∃ m', m = m' + 1 := ⟨m - 1, by omega⟩
    simp [Builtin.clear_, run_underlying htu, zeroValue, typeInfo, hi, hiz]
    simpa using congrArg (fun r => r.andThen fun _ w' => Result.ok (Value.tuple #[]) w') hst
  rw [hcut] at e1
  generalize hnew : (cur.toList.take (n * ti.size + 0) ++ (Builtin.zeroCells z.cells m).toList ++ cur.toList.drop (n * ti.size + 0 + (Builtin.zeroCells z.cells m).toList.length)).toArray = new at hr
  have hexec : (execOp a.eval ⟨dst, .call ⟨.builtin .clear, #[x], #[t]⟩, ty, pos, aft, g⟩).run C.P w = .ok (.value (.tuple #[])) (w.setRow b new) := by
    simp [execOp, resolve, e1, invoke, builtin, hr]
  refine wpIn_value (by intro c; simp) hexec (hnx _ _ _ ⟨rfl, _, ⟨hxl, .inr ⟨b, cap, new, rfl, rfl, hnc, hcm, ?_, ?_⟩⟩, rfl⟩ (hsat.turn htk ?_ (setRow_heap w b cur _ e _ hg) (fun k hk => setRow_other w b k _ hk)))
  · rw [← hnew]
    simp only [List.size_toArray, List.length_append, List.length_take, List.length_drop, Array.length_toList] at hzl ⊢
    rw [Nat.add_mul] at hle3
    omega
  · rw [← hnew]
    simp only
    rw [Nat.add_zero, htk2, List.append_assoc, ← hxl]
    exact List.take_left
  · simp
end Go.Eng
