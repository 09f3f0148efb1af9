/- Texts of this proof, one after the other; no conditions. -/
import Derived.Lib.AppendZerosOnto
import Derived.Lib.Overlaps
import Derived.Test.YtjbebmealbnmgaaWB2
import Derived.Test.YtjbebmealbnmgaaWB5
import Derived.Test.YtjbebmealbnmgaaWB4
set_option linter.all false
/- A slice's own end appended to its beginning; cells cleared. No conditions. -/
namespace Go.Eng
variable {C : Cx} {D : List Deferred} {R H : List PH} {L : Env} {K : List It}
variable {dst : Option Tmp} {ty : TypeId} {pos : String} {aft : Array Edge} {g : Option (Nat × Bool)}
/-- a cut with its room cut, too: in bounds -/
theorem q_cut3 {x y z u : Operand} {t e : TypeId} {a : Option Addr} {n c s i j m : Nat} {k k2 k3 : IntKind} (h : evalE L x = some (.slice a n c)) (hy : evalE L y = some (.int k (i : Int))) (hz : evalE L z = some (.int k2 (j : Int))) (hu : evalE L u = some (.int k3 (m : Int))) (ht : elemP C.P t = some e) (hs : szP C.P e = some s) (h1 : i ≤ j) (h2 : j ≤ m) (h3 : m ≤ c) :
    Quiet C R H L ⟨dst, .slice t x (some y) (some z) (some u), ty, pos, aft, g⟩ (.slice (cutP a m i s) (j - i) (m - i)) :=
  ⟨by intro c; simp, fun ac w hx _ => by
    have e1 := hx x (by simp [Op.operands]) _ h
    have e2 := hx y (by simp [Op.operands]) _ hy
    have e3 := hx z (by simp [Op.operands]) _ hz
    have e4 := hx u (by simp [Op.operands]) _ hu
    simp [execOp, e1, e2, e3, e4, Instr.sliceAt, run_underlying (und_elem ht), Instr.slice, Instr.sliceBounds, Instr.sliceBound, asIntOf, run_sizeOf hs, h1, h2, h3, cutP]⟩
theorem OwnS.cells_at {e : TypeId} {s n b cap : Nat} {xs : List Value} {ρ : PH} (h : OwnS e s (.slice (some ⟨b, 0, none⟩) n cap) n xs ρ) : ∃ cur, ρ = sng b (.cells cur e (0, 0)) ∧ n ≤ cap ∧ cap ≤ maxLen ∧ cur.size = cap * s ∧ cur.toList.take (n * s) = xs := by
  obtain ⟨_, ⟨h1, _⟩ | ⟨b', cap', cur, h1, rfl, h2, h3, h4, h5⟩⟩ := h
  · simp at h1
  · simp only [Value.slice.injEq, Option.some.injEq, Addr.mk.injEq, and_true, true_and] at h1
    obtain ⟨rfl, rfl⟩ := h1
    exact ⟨cur, rfl, h2, h3, h4, h5⟩
/-- a slice's end is appended to its beginning -/
theorem l_appendSelf {x y : Operand} {t e : TypeId} {s by_ : Nat} {z : Value} {b n cap i j : Nat} {xs : List Value} {ρ : PH} {H' : List PH}
    (hx : evalE L x = some (.slice (some ⟨b, 0, none⟩) i cap)) (hy : evalE L y = some (.slice (cutP (some ⟨b, 0, none⟩) cap j s) (n - j) (cap - j))) (ht : elemP C.P t = some e) (hs : szP C.P e = some s) (hz : zeroP C.P e = some z) (hb : bytesP C.P e = some by_)
    (hown : OwnS e s (.slice (some ⟨b, 0, none⟩) n cap) n xs ρ) (htk : Take ρ H H') (h1 : ∀ u ∈ xs, u.oneCell' = true) (hij : i ≤ j) (hjn : j ≤ n) :
    Loud C R H L ⟨dst, .call ⟨.builtin .append, #[x, y], #[t, t]⟩, ty, pos, aft, g⟩ (fun u H2 => u = .slice (some ⟨b, 0, none⟩) (i + (n - j)) cap ∧ ∃ ρ', OwnS e s (.slice (some ⟨b, 0, none⟩) (i + (n - j)) cap) (i + (n - j)) (xs.take (i * s) ++ xs.drop (j * s)) ρ' ∧ H2 = ρ' :: H') := by
  refine ⟨fun a w hxx hsat next Q hnx => ?_⟩
  have hxl : xs.length = n * s := hown.1
  obtain ⟨cur, rfl, hnc, hcm, hcs, htk2⟩ := hown.cells_at
  obtain ⟨ti, hi, rfl, hiz, rfl⟩ := info_of hs hz hb
  have htu := und_elem ht
  have e1 := hxx x (by simp [Op.operands, Call.operands]) _ hx
  have e2 := hxx y (by simp [Op.operands, Call.operands]) _ hy
  have hg : w.heap[b]? = some (.cells cur e (0, 0)) := hsat.own htk
  have his : i * ti.size ≤ j * ti.size := Nat.mul_le_mul_right _ hij
  have hjs : j * ti.size ≤ n * ti.size := Nat.mul_le_mul_right _ hjn
  have hns : n * ti.size ≤ cap * ti.size := Nat.mul_le_mul_right _ hnc
  have hex : ∀ (u : Value) (w' : World), (Builtin.append_ #[t, t] ty #[.slice (some ⟨b, 0, none⟩) i cap, .slice (cutP (some ⟨b, 0, none⟩) cap j ti.size) (n - j) (cap - j)]).run C.P w = .ok u w' →
      (execOp a.eval ⟨dst, .call ⟨.builtin .append, #[x, y], #[t, t]⟩, ty, pos, aft, g⟩).run C.P w = .ok (.value u) w' := by
    intro u w' hr
    simp [execOp, resolve, e1, e2, invoke, builtin, hr]
  have hti : cur.toList.take (i * ti.size) = xs.take (i * ti.size) := by rw [← htk2, List.take_take]; congr 1; omega
  rcases Nat.eq_zero_or_pos (n - j) with h0 | h0
  · have hjn' : j = n := by omega
    subst hjn'
    have hdr : xs.drop (j * ti.size) = [] := List.drop_of_length_le (by omega)
    rw [hdr, List.append_nil, h0, Nat.add_zero] at hnx
    have hf : (Builtin.firstCells ti.size 0 (.slice (cutP (some ⟨b, 0, none⟩) cap j ti.size) 0 (cap - j))).run C.P w = .ok #[] w := by
      cases hp : cutP (some ⟨b, 0, none⟩) cap j ti.size with
      | none => simp [Builtin.firstCells]
      | some ad => exact run_firstCells_some (P := C.P) w ti.size 0 ad 0 _ [] (by simp) (by simp)
    have hr : (Builtin.append_ #[t, t] ty #[.slice (some ⟨b, 0, none⟩) i cap, .slice (cutP (some ⟨b, 0, none⟩) cap j ti.size) (j - j) (cap - j)]).run C.P w = .ok (.slice (some ⟨b, 0, none⟩) i cap) w := by
      rw [h0]
      simp [Builtin.append_, run_underlying htu, sizeOf, typeInfo, hi, Builtin.lenOf, show i ≤ cap by omega, hf, storeCells]
    refine wpIn_value (by intro c; simp) (hex _ _ hr) (hnx _ _ _ ⟨rfl, _, ⟨by rw [List.length_take]; omega, .inr ⟨b, cap, cur, rfl, rfl, by omega, hcm, hcs, hti⟩⟩, rfl⟩ (hsat.take htk))
  · have hcut : cutP (some ⟨b, 0, none⟩) cap j ti.size = some ⟨b, j * ti.size, none⟩ := by
      unfold cutP
      rw [if_neg (by omega)]
      simp [addr_add]
    have hnl : (xs.drop (j * ti.size)).length = (n - j) * ti.size := by rw [List.length_drop, hxl, Nat.sub_mul]
    have hcell : ∀ q u, (xs.drop (j * ti.size))[q]? = some u → w.cell? ((⟨b, j * ti.size, none⟩ : Addr).add q) = some u := by
      intro q u hu
      rw [Addr.add_lit, cell_of_row w b _ cur e (0, 0) hg, ← Array.getElem?_toList]
      rw [List.getElem?_drop, ← htk2] at hu
      have hq : j * ti.size + q < n * ti.size := by
        have := (List.getElem?_eq_some_iff.1 hu).1
        simp at this; omega
      rwa [List.getElem?_take_of_lt hq] at hu
    have hroom : i + (n - j) ≤ cap := by omega
    have hle3 : (i + (n - j)) * ti.size ≤ cap * ti.size := Nat.mul_le_mul_right _ hroom
    have hfit : i * ti.size + (xs.drop (j * ti.size)).length ≤ cur.size := by rw [hnl, hcs, ← Nat.add_mul]; exact hle3
    have hr := run_append_room (P := C.P) w t ty e ti htu hi b i cap cur hg ⟨b, j * ti.size, none⟩ (n - j) (cap - j) (xs.drop (j * ti.size)) hnl hcell (fun u hu => h1 u (List.mem_of_mem_drop hu)) hroom hfit
    rw [← hcut] at hr
    refine wpIn_value (by intro c; simp) (hex _ _ hr) (hnx _ _ _ ⟨rfl, _, ⟨?_, .inr ⟨b, cap, _, rfl, rfl, hroom, hcm, ?_, ?_⟩⟩, rfl⟩ (hsat.turn htk ?_ (setRow_heap w b cur _ e _ hg) (fun k hk => setRow_other w b k _ hk)))
    · rw [List.length_append, hnl, List.length_take, hxl, Nat.add_mul]
      omega
    · simp only [List.size_toArray, List.length_append, List.length_take, List.length_drop, Array.length_toList]
      rw [List.length_drop] at hfit
      omega
    · have hlen : (cur.toList.take (i * ti.size) ++ xs.drop (j * ti.size)).length = (i + (n - j)) * ti.size := by
        rw [List.length_append, hnl, List.length_take, Array.length_toList, Nat.add_mul]; omega
      rw [← hlen, hti]
      exact List.take_left
    · simp
/-- cells behind an owned slice's end are cleared -/
theorem l_clearO {x : Operand} {t e : TypeId} {s by_ : Nat} {z : Value} {b n cap m c2 : Nat} {xs : List Value} {ρ : PH} {H' : List PH}
    (hx : evalE L x = some (.slice (cutP (some ⟨b, 0, none⟩) cap n s) m c2)) (ht : elemP C.P t = some e) (hs : szP C.P e = some s) (hz : zeroP C.P e = some z) (hb : bytesP C.P e = some by_) (hzs : z.cells.size = s) (hz1 : ∀ u ∈ z.cells.toList, u.oneCell' = true)
    (hown : OwnS e s (.slice (some ⟨b, 0, none⟩) n cap) n xs ρ) (htk : Take ρ H H') (hm : 0 < m) (hnm : n + m ≤ cap) :
    Loud C R H L ⟨dst, .call ⟨.builtin .clear, #[x], #[t]⟩, ty, pos, aft, g⟩ (fun u H2 => u = .tuple #[] ∧ ∃ ρ', OwnS e s (.slice (some ⟨b, 0, none⟩) n cap) n xs ρ' ∧ H2 = ρ' :: H') := by
  refine ⟨fun a w hxx hsat next Q hnx => ?_⟩
  have hxl : xs.length = n * s := hown.1
  obtain ⟨cur, rfl, hnc, hcm, hcs, htk2⟩ := hown.cells_at
  obtain ⟨ti, hi, rfl, hiz, rfl⟩ := info_of hs hz hb
  have htu := und_elem ht
  have e1 := hxx x (by simp [Op.operands, Call.operands]) _ hx
  have hg : w.heap[b]? = some (.cells cur e (0, 0)) := hsat.own htk
  have hcut : cutP (some ⟨b, 0, none⟩) cap n ti.size = some ⟨b, n * ti.size, none⟩ := by
    unfold cutP
    rw [if_neg (by omega)]
    simp [addr_add]
  have hle3 : (n + m) * ti.size ≤ cap * ti.size := Nat.mul_le_mul_right _ hnm
  have hzl : (Builtin.zeroCells z.cells m).toList.length = m * ti.size := by rw [Array.length_toList, size_zeroCells, hzs]
  have hone : ∀ v ∈ (Builtin.zeroCells z.cells m).toList, v.oneCell' = true := by
    intro v hv
    simp only [Builtin.zeroCells, Array.toList_map, List.mem_map] at hv
    obtain ⟨q, hq, rfl⟩ := hv
    have h0 : 0 < z.cells.size := by
      rcases Nat.eq_zero_or_pos z.cells.size with h | h
      · simp [h] at hq
      · exact h
    have hlt : q % z.cells.size < z.cells.size := Nat.mod_lt _ h0
    rw [getElem!_pos z.cells _ hlt]
    exact hz1 _ (by simp)
  have hst := run_storeCells_at C.P b (n * ti.size) e (Builtin.zeroCells z.cells m).toList 0 cur w hg (by rw [hzl, hcs, Nat.add_zero, ← Nat.add_mul]; exact hle3) hone
  have hm0 : m ≠ 0 := by omega
  have hr : (Builtin.clear_ #[t] ty #[.slice (some ⟨b, n * ti.size, none⟩) m c2]).run C.P w = .ok (.tuple #[]) (w.setRow b (cur.toList.take (n * ti.size + 0) ++ (Builtin.zeroCells z.cells m).toList ++ cur.toList.drop (n * ti.size + 0 + (Builtin.zeroCells z.cells m).toList.length)).toArray) := by
    obtain ⟨m', rfl⟩ : ∃ m', m = m' + 1 := ⟨m - 1, by omega⟩
    simp [Builtin.clear_, run_underlying htu, zeroValue, typeInfo, hi, hiz]
    simpa using congrArg (fun r => r.andThen fun _ w' => Result.ok (Value.tuple #[]) w') hst
  rw [hcut] at e1
  generalize hnew : (cur.toList.take (n * ti.size + 0) ++ (Builtin.zeroCells z.cells m).toList ++ cur.toList.drop (n * ti.size + 0 + (Builtin.zeroCells z.cells m).toList.length)).toArray = new at hr
  have hexec : (execOp a.eval ⟨dst, .call ⟨.builtin .clear, #[x], #[t]⟩, ty, pos, aft, g⟩).run C.P w = .ok (.value (.tuple #[])) (w.setRow b new) := by
    simp [execOp, resolve, e1, invoke, builtin, hr]
  refine wpIn_value (by intro c; simp) hexec (hnx _ _ _ ⟨rfl, _, ⟨hxl, .inr ⟨b, cap, new, rfl, rfl, hnc, hcm, ?_, ?_⟩⟩, rfl⟩ (hsat.turn htk ?_ (setRow_heap w b cur _ e _ hg) (fun k hk => setRow_other w b k _ hk)))
  · rw [← hnew]
    simp only [List.size_toArray, List.length_append, List.length_take, List.length_drop, Array.length_toList] at hzl ⊢
    rw [Nat.add_mul] at hle3
    omega
  · rw [← hnew]
    simp only
    rw [Nat.add_zero, htk2, List.append_assoc, ← hxl]
    exact List.take_left
  · simp
end Go.Eng
/- Copies into an owned block; zeros appended to a beginning of an owned block that has no room; slices.overlaps of two blocks. No conditions. -/
namespace Go.Eng
variable {C : Cx} {D : List Deferred} {R H : List PH} {L : Env} {K : List It}
variable {dst : Option Tmp} {ty : TypeId} {pos : String} {aft : Array Edge} {g : Option (Nat × Bool)}
/-- cells of a block are written over by a copy -/
theorem l_copyO {x y : Operand} {t t2 e : TypeId} {s b o dl dc sl sc b2 o2 : Nat} {cur : Array Value} {news : List Value} {H' : List PH}
    (hx : evalE L x = some (.slice (some ⟨b, o, none⟩) dl dc)) (hy : evalE L y = some (.slice (some ⟨b2, o2, none⟩) sl sc)) (ht : elemP C.P t = some e) (hs : szP C.P e = some s)
    (htk : Take (sng b (.cells cur e (0, 0))) H H') (hc : Cells C.N R H b2 o2 news) (hn : news.length = Nat.min sl dl * s) (h1 : ∀ u ∈ news, u.oneCell' = true) (hfit : o + news.length ≤ cur.size) :
    Loud C R H L ⟨dst, .call ⟨.builtin .copy, #[x, y], #[t, t2]⟩, ty, pos, aft, g⟩ (fun u H2 => u = .int .i64 ((Nat.min sl dl : Nat) : Int) ∧ H2 = sng b (.cells (cur.toList.take o ++ news ++ cur.toList.drop (o + news.length)).toArray e (0, 0)) :: H') := by
  refine ⟨fun a w hxx hsat next Q hnx => ?_⟩
  obtain ⟨ti, hi, rfl⟩ : ∃ i, C.P.info? e = some i ∧ i.size = s := by
    unfold szP at hs
    cases hi : C.P.info? e with
    | none => simp [hi] at hs
    | some i => simp only [hi, Option.some.injEq] at hs; exact ⟨i, rfl, hs⟩
  have htu := und_elem ht
  have e1 := hxx x (by simp [Op.operands, Call.operands]) _ hx
  have e2 := hxx y (by simp [Op.operands, Call.operands]) _ hy
  have hg : w.heap[b]? = some (.cells cur e (0, 0)) := hsat.own htk
  have hf : (Builtin.firstCells ti.size (Nat.min sl dl) (.slice (some ⟨b2, o2, none⟩) sl sc)).run C.P w = .ok news.toArray w := run_firstCells_some (P := C.P) w ti.size (Nat.min sl dl) ⟨b2, o2, none⟩ sl sc news hn (hc.cell hsat)
  have hst := run_storeCells_at C.P b o e news 0 cur w hg (by simpa using hfit) h1
  have hr : (Builtin.copy_ #[t, t2] ty #[.slice (some ⟨b, o, none⟩) dl dc, .slice (some ⟨b2, o2, none⟩) sl sc]).run C.P w = .ok (.int .i64 ((Nat.min sl dl : Nat) : Int)) (w.setRow b (cur.toList.take o ++ news ++ cur.toList.drop (o + news.length)).toArray) := by
    simp [Builtin.copy_, run_underlying htu, Builtin.lenOf, sizeOf, typeInfo, hi, hf, goInt]
    simpa using congrArg (fun r => r.andThen fun _ w' => Result.ok (Value.int .i64 ((Nat.min sl dl : Nat) : Int)) w') hst
  generalize hnew : (cur.toList.take o ++ news ++ cur.toList.drop (o + news.length)).toArray = new at hr hnx
  have hexec : (execOp a.eval ⟨dst, .call ⟨.builtin .copy, #[x, y], #[t, t2]⟩, ty, pos, aft, g⟩).run C.P w = .ok (.value (.int .i64 ((Nat.min sl dl : Nat) : Int))) (w.setRow b new) := by
    simp [execOp, resolve, e1, e2, invoke, builtin, hr]
  refine wpIn_value (by intro c; simp) hexec (hnx _ _ _ ⟨rfl, rfl⟩ (hsat.turn htk ?_ (setRow_heap w b cur _ e _ hg) (fun k hk => setRow_other w b k _ hk)))
  simp
/-- a beginning of a block, with zeros appended for which there is no room: a new block -/
theorem l_appendZG {x y : Operand} {t tx e : TypeId} {s by_ b i k cap : Nat} {z : Value} {olds : List Value} (hx : evalE L x = some (.slice (some ⟨b, 0, none⟩) i cap)) (hy : evalE L y = some (.int .i64 (k : Int))) (ht : elemP C.P t = some e) (htx : kindP C.P tx = some .i64) (hs : szP C.P e = some s) (hz : zeroP C.P e = some z) (hb : bytesP C.P e = some by_)
    (hzs : z.cells.size = s) (hs0 : 0 < s) (hk : 0 < k) (hc : Cells C.N R H b 0 olds) (hol : olds.length = i * s) (hno : cap < i + k) (hmax : i + k ≤ maxLen) (hby : (i + k) * by_ ≤ 140737488355328) :
    Loud C R H L ⟨dst, .call ⟨.builtin .append, #[x, y], #[t, tx]⟩, ty, pos, aft, g⟩ (fun u H2 => ∃ b' cap' cur, (u = .slice (some ⟨b', 0, none⟩) (i + k) cap' ∧ H2 = sng b' (.cells cur e (0, 0)) :: H) ∧ i + k ≤ cap' ∧ cap' ≤ maxLen ∧ cur.size = cap' * s ∧ cur.toList.take (i * s) = olds) := by
  refine ⟨fun a w hxx hsat next Q hnx => ?_⟩
  obtain ⟨ti, hi, rfl, hiz, rfl⟩ := info_of hs hz hb
  have htu := und_elem ht
  have e1 := hxx x (by simp [Op.operands, Call.operands]) _ hx
  have e2 := hxx y (by simp [Op.operands, Call.operands]) _ hy
  have hold : (Builtin.firstCells ti.size i (.slice (some ⟨b, 0, none⟩) i cap)).run C.P w.drew = .ok olds.toArray w.drew := run_firstCells_some (P := C.P) w.drew ti.size i ⟨b, 0, none⟩ i cap olds hol (hc.cell hsat.drew)
  have hkb : k * ti.bytes ≤ (i + k) * ti.bytes := Nat.mul_le_mul_right _ (by omega)
  have hr := Lib.run_append_grow_zeros (P := C.P) w t tx ty e ti z .i64 .i64 htu (und_kindI htx) hi hiz (some ⟨b, 0, none⟩) i cap olds hold k hk hs0 hno (by simp only [maxLen] at hmax; omega) (by omega) (growslice_fits (by omega) hby)
  have hge := grownCap_ge w (i + k) cap e
  have hcm : grownCap w (i + k) cap e ≤ maxLen := grownCap_le_maxLen w (i + k) cap e hmax
  have hsat2 := hsat.drew.alloc (.cells (olds.toArray ++ Builtin.zeroCells z.cells k ++ Builtin.zeroCells z.cells (grownCap w (i + k) cap e - (i + k))) e)
  refine wpIn_value (by intro c; simp) ?_ (hnx _ _ _ ⟨w.heap.size, _, _, ⟨rfl, rfl⟩, hge, hcm, ?_, ?_⟩ (by simpa using hsat2))
  · simp [execOp, resolve, e1, e2, invoke, builtin, hr]
  · simp only [Array.size_append, size_zeroCells, hzs, List.size_toArray, hol, ← Nat.add_mul]
    congr 1
    omega
  · rw [← hol]
    simp
/-- two slices in two blocks -/
theorem q_overlaps {f : FuncId} {fn : Func} {x y z : Operand} {tS tR e : TypeId} {ts : Array TypeId} {s b1 o1 l1 c1 b2 o2 l2 c2 : Nat} {cu1 cu2 : Array Value} {t1 t2 : TypeId} {ρ1 ρ2 : PH}
    (hf : C.P.funcs[f]? = some fn) (hname : (fn.name == "runtime.NumGoroutine") = false) (hb : fn.body.isNone = true) (hn : Extern.findNext fn = none) (he : Extern.find fn = some (Extern.SlicesOverlaps.overlaps #[tS, tS] #[tR]))
    (hz : evalE L z = some (.func (.func f) #[] #[])) (hx : evalE L x = some (.slice (some ⟨b1, o1, none⟩) l1 c1)) (hy : evalE L y = some (.slice (some ⟨b2, o2, none⟩) l2 c2)) (ht : elemP C.P tS = some e) (hs : szP C.P e = some s)
    (e1 : ρ1 = sng b1 (.cells cu1 t1 (0, 0))) (e2 : ρ2 = sng b2 (.cells cu2 t2 (0, 0))) (m1 : ρ1 ∈ R) (m2 : ρ2 ∈ H) (hk : cu2.size ≠ 0) :
    Quiet C R H L ⟨dst, .call ⟨.value z, #[x, y], ts⟩, ty, pos, aft, g⟩ (.bool false) :=
  ⟨by intro c; simp, fun a w hxx hsat => by
    have f1 := hxx x (by simp [Op.operands, Call.operands]) _ hx
    have f2 := hxx y (by simp [Op.operands, Call.operands]) _ hy
    have f3 := hxx z (by simp [Op.operands, Call.operands]) _ hz
    subst e1; subst e2
    have g1 : w.heap[b1]? = some (.cells cu1 t1 (0, 0)) := hsat.r _ m1 _ _ (sng_self _ _)
    have g2 : w.heap[b2]? = some (.cells cu2 t2 (0, 0)) := hsat.h _ m2 _ _ (sng_self _ _)
    have hne : b1 ≠ b2 := fun h => by
      subst h
      rcases hsat.rd _ m1 _ m2 b1 with h | h <;> simp [sng] at h
    have hov := Lib.run_overlaps_apart (P := C.P) w tS tR e (und_elem ht) s (run_sizeOf hs) ⟨b1, o1, none⟩ ⟨b2, o2, none⟩ l1 c1 l2 c2 hne t1 t2 cu1.size cu2.size (by simp [World.shape?, g1]) (by simp [World.shape?, g2]) hk (by simp [World.frozen?, g1]) (by simp [World.frozen?, g1])
    have hcall := run_callFunc_extern hf hname hb hn he #[.slice (some ⟨b1, o1, none⟩) l1 c1, .slice (some ⟨b2, o2, none⟩) l2 c2] w
    rw [hov] at hcall
    simp [execOp, resolve, f1, f2, f3, Deferred.ofValue, invoke, hcall]⟩
end Go.Eng
namespace Go.Eng
def insL {α : Type} (l : List α) (k : Nat) (h : α) : List α := l.take k ++ h :: l.drop k
theorem insL_len {α : Type} (l : List α) (k : Nat) (h : α) : (insL l k h).length = l.length + 1 := by
  unfold insL
  simp only [List.length_append, List.length_take, List.length_cons, List.length_drop]
  omega
theorem insL_end {α : Type} (l : List α) (h : α) : insL l l.length h = l ++ [h] := by simp [insL]
theorem cutP_at {b o c i s : Nat} (h : i < c) : cutP (some ⟨b, o, none⟩) c i s = some ⟨b, o + i * s, none⟩ := by
  unfold cutP
  rw [if_neg (by omega)]
  simp [addr_add]
theorem cutP_atE {b o c i s : Nat} (s' : Nat) (h : i < c) (hs : s = s') : cutP (some ⟨b, o, none⟩) c i s = some ⟨b, o + i * s', none⟩ := by subst hs; exact cutP_at h
theorem rdN_sng {b : Nat} {vs : List Value} {t : TypeId} {fr : Nat × Nat} : RdN (sng b (.cells vs.toArray t fr)) b 0 vs := fun j v hv => by
  rw [rdc_sng, Nat.zero_add]
  simpa using hv
theorem rdN_take {b : Nat} {cur : Array Value} {t : TypeId} {fr : Nat × Nat} {o : Nat} {vs : List Value} (h : ∀ j v, vs[j]? = some v → cur.toList[o + j]? = some v) : RdN (sng b (.cells cur t fr)) b o vs := fun j v hv => by
  rw [rdc_sng, ← Array.getElem?_toList]
  exact h j v hv
/-- the cells of an insertion where there is room: the end is moved up, then the new one is written -/
theorem ins_cells {α : Type} {enc : α → List Value} {s : Nat} (he : ∀ x, (enc x).length = s) (l : List α) (k : Nat) (h : α) (hk : k ≤ l.length) (c1 : List Value) (hc1 : c1.take (k * s) = (l.take k).flatMap enc) (rest : List Value) :
    ((c1.take (k * s) ++ enc h ++ (l.drop k).flatMap enc) ++ rest).take ((l.length + 1) * s) = (insL l k h).flatMap enc := by
  have hl : (c1.take (k * s) ++ enc h ++ (l.drop k).flatMap enc).length = (l.length + 1) * s := by
    rw [hc1, List.length_append, List.length_append, flat_len he, flat_len he, he, List.length_take, List.length_drop, Nat.min_eq_left hk]
    have : (l.length + 1) * s = (k + 1 + (l.length - k)) * s := by congr 1; omega
    rw [this, Nat.add_mul, Nat.add_mul]; omega
  rw [← hl, List.take_left, hc1]
  unfold insL
  rw [List.flatMap_append, List.flatMap_cons, List.append_assoc]
end Go.Eng
/- One more hold, holds released: plain. No conditions. -/
namespace Go.Step
open Go.Eng
/-- an element put behind all that are not greater -/
def insW {α : Type} (p : α → Bool) (l : List α) (h : α) : List α := l.takeWhile p ++ h :: l.dropWhile p
theorem insW_len {α : Type} (p : α → Bool) (l : List α) (h : α) : (insW p l h).length = l.length + 1 := by
  have := congrArg List.length (List.takeWhile_append_dropWhile (p := p) (l := l))
  unfold insW
  rw [List.length_append] at *
  rw [List.length_cons]; omega
theorem insW_mem {α : Type} (p : α → Bool) (l : List α) (h x : α) : x ∈ insW p l h ↔ x = h ∨ x ∈ l := by
  have e := List.takeWhile_append_dropWhile (p := p) (l := l)
  have : x ∈ l ↔ x ∈ l.takeWhile p ++ l.dropWhile p := by rw [e]
  unfold insW
  rw [this]
  simp only [List.mem_append, List.mem_cons]
  constructor
  · rintro (h | h | h)
    · exact .inr (.inl h)
    · exact .inl h
    · exact .inr (.inr h)
  · rintro (h | h | h)
    · exact .inr (.inl h)
    · exact .inl h
    · exact .inr (.inr h)
theorem insW_tail {α : Type} {cmp : α → α → Int} {h : α} (hanti : ∀ x, cmp x h = 0 → x = h) : ∀ (m : List α), (∀ x ∈ m, 0 ≤ cmp x h) → insW (fun x => decide (cmp x h ≤ 0)) m h = h :: m
  | [], _ => rfl
  | x :: m, hm => by
    have ih := insW_tail hanti m (fun y hy => hm y (by simp [hy]))
    have hx := hm x (by simp)
    unfold insW at ih ⊢
    by_cases c : cmp x h ≤ 0
    · have e := hanti x (by omega)
      subst e
      rw [List.takeWhile_cons_of_pos (by simpa using c), List.dropWhile_cons_of_pos (by simpa using c), List.cons_append, ih]
    · rw [List.takeWhile_cons_of_neg (by simpa using c), List.dropWhile_cons_of_neg (by simpa using c)]
      rfl
theorem insW_pre {α : Type} {p : α → Bool} {h : α} : ∀ (a b : List α), (∀ x ∈ a, p x = true) → insW p (a ++ b) h = a ++ insW p b h
  | [], b, _ => rfl
  | x :: a, b, hm => by
    have ih := insW_pre (h := h) a b (fun y hy => hm y (by simp [hy]))
    have hx := hm x (by simp)
    unfold insW at ih ⊢
    rw [List.cons_append, List.takeWhile_cons_of_pos hx, List.dropWhile_cons_of_pos hx, List.cons_append, ih, List.cons_append]
theorem insL_W {α : Type} {cmp : α → α → Int} {h : α} (hanti : ∀ x, cmp x h = 0 → x = h) (l : List α) (k : Nat) (h1 : ∀ x ∈ l.take k, cmp x h < 0) (h2 : ∀ x ∈ l.drop k, 0 ≤ cmp x h) : insL l k h = insW (fun x => decide (cmp x h ≤ 0)) l h := by
  have e : insW (fun x => decide (cmp x h ≤ 0)) (l.take k ++ l.drop k) h = l.take k ++ insW (fun x => decide (cmp x h ≤ 0)) (l.drop k) h := insW_pre _ _ (fun x hx => by have := h1 x hx; simpa using (by omega : cmp x h ≤ 0))
  rw [List.take_append_drop] at e
  rw [e, insW_tail hanti _ h2]
  rfl
/-- the order of holds -/
def leH (x y : Hd) : Prop := x.n < y.n ∨ (x.n = y.n ∧ (x.a < y.a ∨ (x.a = y.a ∧ (x.b < y.b ∨ (x.b = y.b ∧ (x.k < y.k ∨ (x.k = y.k ∧ x.s ≤ y.s)))))))
theorem cmpI_cases (a b : Int) : (a < b ∧ cmpI a b = -1) ∨ (a = b ∧ cmpI a b = 0) ∨ (b < a ∧ cmpI a b = 1) := by
  unfold cmpI
  by_cases h : a < b
  · exact .inl ⟨h, by rw [if_pos h]⟩
  · by_cases h2 : b < a
    · exact .inr (.inr ⟨h2, by rw [if_neg h, if_pos h2]⟩)
    · exact .inr (.inl ⟨by omega, by rw [if_neg h, if_neg h2]⟩)
theorem orI_cmp (a b : Int) (l : List Int) : (a < b ∧ orI (cmpI a b :: l) = -1) ∨ (a = b ∧ orI (cmpI a b :: l) = orI l) ∨ (b < a ∧ orI (cmpI a b :: l) = 1) := by
  have e : orI (cmpI a b :: l) = if cmpI a b ≠ 0 then cmpI a b else orI l := rfl
  rcases cmpI_cases a b with ⟨h1, h2⟩ | ⟨h1, h2⟩ | ⟨h1, h2⟩
  · exact .inl ⟨h1, by rw [e, h2]; rfl⟩
  · exact .inr (.inl ⟨h1, by rw [e, h2]; rfl⟩)
  · exact .inr (.inr ⟨h1, by rw [e, h2]; rfl⟩)
theorem cmpHd_le (x y : Hd) : cmpHd x y ≤ 0 ↔ leH x y := by
  unfold cmpHd leH
  rcases orI_cmp x.n y.n [cmpI x.a y.a, cmpI x.b y.b, cmpI x.k y.k, cmpI x.s y.s] with ⟨h1, e⟩ | ⟨h1, e⟩ | ⟨h1, e⟩
  · rw [e]; omega
  · rw [e]
    rcases orI_cmp x.a y.a [cmpI x.b y.b, cmpI x.k y.k, cmpI x.s y.s] with ⟨h2, e⟩ | ⟨h2, e⟩ | ⟨h2, e⟩
    · rw [e]; omega
    · rw [e]
      rcases orI_cmp x.b y.b [cmpI x.k y.k, cmpI x.s y.s] with ⟨h3, e⟩ | ⟨h3, e⟩ | ⟨h3, e⟩
      · rw [e]; omega
      · rw [e]
        rcases orI_cmp x.k y.k [cmpI x.s y.s] with ⟨h4, e⟩ | ⟨h4, e⟩ | ⟨h4, e⟩
        · rw [e]; omega
        · rw [e]
          rcases orI_cmp x.s y.s [] with ⟨h5, e⟩ | ⟨h5, e⟩ | ⟨h5, e⟩
          · rw [e]; omega
          · rw [e]; simp only [orI]; omega
          · rw [e]; omega
        · rw [e]; omega
      · rw [e]; omega
    · rw [e]; omega
  · rw [e]; omega
theorem cmpHd_trans {x y z : Hd} (h1 : cmpHd x y ≤ 0) (h2 : cmpHd y z ≤ 0) : cmpHd x z ≤ 0 := by
  rw [cmpHd_le] at *
  unfold leH at *
  omega
theorem cmpHd_anti {x y : Hd} (h : cmpHd x y = 0) : x = y := by
  have h1 := (cmpHd_le x y).1 (by omega)
  have h2 := (cmpHd_le y x).1 (by have := cmpHd_neg x y; omega)
  unfold leH at *
  obtain ⟨a, b, c, d, e⟩ := x
  obtain ⟨a', b', c', d', e'⟩ := y
  simp only [Hd.mk.injEq] at *
  omega
theorem cmpHd_refl (x : Hd) : cmpHd x x = 0 := by
  have h := cmpHd_neg x x
  omega
theorem cmpHd_lt_trans {x y z : Hd} (h1 : cmpHd x y ≤ 0) (h2 : cmpHd y z < 0) : cmpHd x z < 0 := by
  have h3 := cmpHd_trans h1 (by omega : cmpHd y z ≤ 0)
  by_cases c : cmpHd x z = 0
  · have := cmpHd_anti c
    subst this
    have := cmpHd_neg x y
    omega
  · omega
abbrev SortH (l : List Hd) : Prop := l.Pairwise (fun x y => cmpHd x y ≤ 0)
theorem sortH_of {nq : Nat} {l : List Hd} (h : firstE (hdE nq l) l.length = 0) : SortH l := by
  rw [SortH, List.pairwise_iff_getElem]
  have step : ∀ i (hi : i + 1 < l.length), cmpHd l[i] l[i + 1] ≤ 0 := fun i hi => by
    have h2 := firstE_zero h (i + 1) hi
    rw [hdE_at (List.getElem?_eq_getElem hi)] at h2
    have e : l.getD (i + 1 - 1) l[i + 1] = l[i] := by simp [List.getD_eq_getElem?_getD, List.getElem?_eq_getElem (by omega : i < l.length)]
    rw [e] at h2
    by_cases c : okHd nq l[i + 1]
    · rw [if_neg (by simpa using c)] at h2
      by_cases c2 : 0 < cmpHd l[i] l[i + 1]
      · rw [if_pos ⟨by omega, c2⟩] at h2; omega
      · omega
    · rw [if_pos c] at h2; omega
  intro i j hi hj hij
  induction j with
  | zero => omega
  | succ j ih =>
    by_cases c : i = j
    · subst c; exact step i hj
    · exact cmpHd_trans (ih (by omega) (by omega)) (step j hj)
theorem sortH_first {nq : Nat} {l : List Hd} (hok : ∀ x ∈ l, okHd nq x) (hs : SortH l) : firstE (hdE nq l) l.length = 0 := by
  refine firstE_all (fun k hk => ?_)
  rw [hdE_at (List.getElem?_eq_getElem hk), if_neg (by simpa using hok _ (List.getElem_mem hk))]
  refine if_neg (fun ⟨h0, h1⟩ => ?_)
  have e : l.getD (k - 1) l[k] = l[k - 1] := by simp [List.getD_eq_getElem?_getD, List.getElem?_eq_getElem (by omega : k - 1 < l.length)]
  rw [e] at h1
  have := List.pairwise_iff_getElem.1 hs (k - 1) k (by omega) hk (by omega)
  omega
def insH (l : List Hd) (h : Hd) : List Hd := insW (fun x => decide (cmpHd x h ≤ 0)) l h
theorem insH_sort {l : List Hd} (hs : SortH l) (h : Hd) : SortH (insH l h) := by
  have e := List.takeWhile_append_dropWhile (p := fun x => decide (cmpHd x h ≤ 0)) (l := l)
  unfold insH insW
  have hs2 : SortH (l.takeWhile (fun x => decide (cmpHd x h ≤ 0)) ++ l.dropWhile (fun x => decide (cmpHd x h ≤ 0))) := by rw [e]; exact hs
  obtain ⟨p1, p2, p3⟩ := List.pairwise_append.1 hs2
  have ht : ∀ x ∈ l.takeWhile (fun x => decide (cmpHd x h ≤ 0)), cmpHd x h ≤ 0 := fun x hx => by
    have := List.all_eq_true.1 (List.all_takeWhile (p := fun x => decide (cmpHd x h ≤ 0)) (l := l)) x hx
    simpa using this
  have hd : ∀ x ∈ l.dropWhile (fun x => decide (cmpHd x h ≤ 0)), cmpHd h x ≤ 0 := by
    generalize hm : l.dropWhile (fun x => decide (cmpHd x h ≤ 0)) = m at *
    cases m with
    | nil => simp
    | cons y m =>
      have hy : ¬ cmpHd y h ≤ 0 := by
        have := List.head?_dropWhile_not (fun x => decide (cmpHd x h ≤ 0)) l
        rw [hm] at this
        simpa using this
      have hy2 : cmpHd h y ≤ 0 := by have := cmpHd_neg h y; omega
      intro x hx
      rcases List.mem_cons.1 hx with rfl | hx
      · exact hy2
      · exact cmpHd_trans hy2 ((List.pairwise_cons.1 p2).1 x hx)
  refine List.pairwise_append.2 ⟨p1, List.pairwise_cons.2 ⟨hd, p2⟩, fun x hx y hy => ?_⟩
  rcases List.mem_cons.1 hy with rfl | hy
  · exact ht x hx
  · exact p3 x hx y hy
theorem stored_append (a b : List Hd) (n t : Int) : stored (a ++ b) n t = stored a n t + stored b n t := by
  induction a with
  | nil => simp [stored]
  | cons h a ih => simp only [List.cons_append, stored, ih]; omega
theorem stored_ins (l : List Hd) (h : Hd) (n t : Int) : stored (insH l h) n t = stored l n t + if h.n = n ∧ h.a ≤ t ∧ t < h.b then h.s else 0 := by
  have e := List.takeWhile_append_dropWhile (p := fun x => decide (cmpHd x h ≤ 0)) (l := l)
  have e2 : stored l n t = stored (l.takeWhile (fun x => decide (cmpHd x h ≤ 0))) n t + stored (l.dropWhile (fun x => decide (cmpHd x h ≤ 0))) n t := by rw [← stored_append, e]
  unfold insH insW
  rw [stored_append, e2]
  simp only [stored]
  omega
theorem stored_filter (p : Hd → Bool) (n t : Int) : ∀ (l : List Hd), (∀ h ∈ l, 0 ≤ h.s) → stored (l.filter p) n t ≤ stored l n t
  | [], _ => by simp
  | h :: l, H => by
    have ih := stored_filter p n t l (fun x hx => H x (by simp [hx]))
    have h0 := H h (by simp)
    rw [List.filter_cons]
    cases p h <;> simp only [stored, if_true, Bool.false_eq_true, if_false] <;> split <;> omega
theorem fitB_iff {qs : List Int} {l : List Hd} : fitB qs l = true ↔ ∀ h ∈ l, stored l h.n h.a ≤ qs.getD h.n.toNat 0 := by
  unfold fitB
  rw [List.all_eq_true]
  simp
/-- whether one more fits, by its node alone -/
theorem fit_ins {qs : List Int} {l : List Hd} {h : Hd} (hok : ∀ x ∈ l, okHd qs.length x) (hh : okHd qs.length h) (hf : fitB qs l = true) (hQ : 0 ≤ qs.getD h.n.toNat 0) : fitB qs (insH l h) = decide (mostL (lvH (insH l h) h.n) ≤ qs.getD h.n.toNat 0) := by
  have hok2 : ∀ x ∈ insH l h, okHd qs.length x := fun x hx => by
    rcases (insW_mem _ l h x).1 hx with rfl | hx
    · exact hh
    · exact hok x hx
  rw [fitB_iff] at hf
  by_cases c : mostL (lvH (insH l h) h.n) ≤ qs.getD h.n.toNat 0
  · rw [decide_eq_true c, fitB_iff]
    have c2 := (most_fits hok2 hQ).1 c
    intro x hx
    by_cases e : x.n = h.n
    · rw [e]; exact c2 x hx e
    · rcases (insW_mem _ l h x).1 hx with rfl | hx2
      · exact absurd rfl e
      · rw [stored_ins, if_neg (fun k => e k.1.symm), Int.add_zero]; exact hf x hx2
  · rw [decide_eq_false c]
    by_cases d : fitB qs (insH l h) = true
    · refine absurd ((most_fits hok2 hQ).2 (fun x hx e => ?_)) c
      have := fitB_iff.1 d x hx
      rw [e] at this; exact this
    · simpa using d
/-- one more hold -/
def addR (qs : List Int) (cs : List Ct) (l : List Hd) (h : Hd) : List Hd × Int :=
  if chkH qs cs l ≠ 0 then ([], 1) else if ¬ okHd qs.length h then ([], 2) else if l.length = 512 then ([], 4) else if fitB qs (insH l h) then (insH l h, 0) else ([], 15)
def relH (l : List Hd) (k : Int) : List Hd := l.filter (fun h => decide (h.k ≠ k))
end Go.Step
/- The parts of an interval, found one by one. No program in sight. No conditions. -/
namespace Go.Step
theorem partsFrom_end (to : Int) : ∀ (g : List Lv) (now : Int), partsFrom to to now g = []
  | [], _ => by simp [partsFrom]
  | l :: g, now => by simp only [partsFrom]; rw [if_pos (.inr (Int.le_refl _))]; exact partsFrom_end to g now
theorem partsFrom_skip {n to now : Int} : ∀ (g1 g2 : List Lv), (∀ l ∈ g1, l.a ≤ n) → partsFrom n to now (g1 ++ g2) = partsFrom n to now g2
  | [], _, _ => rfl
  | l :: g1, g2, h => by
    simp only [List.cons_append, partsFrom]
    rw [if_pos (.inl (h l (by simp)))]
    exact partsFrom_skip g1 g2 (fun m hm => h m (by simp [hm]))
/-- where the part that begins at fr ends -/
def nx (fr to : Int) : List Lv → Int
  | [] => to
  | l :: f => if fr < l.a then min l.a to else nx fr to f
theorem nx_bd {fr to : Int} (h : fr < to) : ∀ f : List Lv, fr < nx fr to f ∧ nx fr to f ≤ to
  | [] => ⟨h, Int.le_refl _⟩
  | l :: f => by
    simp only [nx]
    split
    · omega
    · exact nx_bd h f
theorem nx_asc {fr to : Int} : ∀ {f : List Lv} {p : Int}, Asc p f → fr < p → p < nx fr to f ∨ nx fr to f = to
  | [], _, _, _ => .inr rfl
  | l :: f, p, h, hp => by
    simp only [nx]
    have := h.1
    rw [if_pos (by omega)]
    omega
theorem nx_step {fr to : Int} {l : Lv} {f : List Lv} {p : Int} (h : Asc p (l :: f)) : nx fr to (l :: f) = if fr < l.a ∧ l.a < nx fr to f then l.a else nx fr to f := by
  have hle : fr < l.a → ∀ g : List Lv, Asc l.a g → min l.a to ≤ nx fr to g := by
    intro h1 g hg
    rcases nx_asc (to := to) hg h1 with h2 | h2 <;> omega
  have hle2 : ∀ g : List Lv, nx fr to g ≤ to := by
    intro g
    induction g with
    | nil => exact Int.le_refl _
    | cons m g ih => simp only [nx]; split <;> omega
  simp only [nx]
  by_cases h1 : fr < l.a
  · rw [if_pos h1]
    have h3 := hle h1 f h.2.2.2
    have h4 := hle2 f
    rcases nx_asc (to := to) h.2.2.2 h1 with h2 | h2
    · rw [if_pos ⟨h1, h2⟩]; omega
    · by_cases h5 : l.a < to
      · rw [if_pos ⟨h1, by omega⟩]; omega
      · rw [if_neg (by omega)]; omega
  · rw [if_neg h1, if_neg (by omega)]
theorem nx_split {fr to : Int} : ∀ (g1 g2 : List Lv), (∀ l ∈ g1, l.a ≤ fr) → nx fr to (g1 ++ g2) = nx fr to g2
  | [], _, _ => rfl
  | l :: g1, g2, h => by
    simp only [List.cons_append, nx]
    rw [if_neg (by have := h l (by simp); omega)]
    exact nx_split g1 g2 (fun m hm => h m (by simp [hm]))
theorem asc_split {fr : Int} : ∀ {f : List Lv} {p : Int}, Asc p f → ∃ g1 g2, f = g1 ++ g2 ∧ (∀ l ∈ g1, l.a ≤ fr) ∧ (∀ l, g2.head? = some l → fr < l.a) ∧ ∃ q, Asc q g2
  | [], p, h => ⟨[], [], rfl, by simp, by simp, p, h⟩
  | l :: f, p, h => by
    by_cases hl : l.a ≤ fr
    · obtain ⟨g1, g2, h1, h2, h3, h4⟩ := asc_split (fr := fr) h.2.2.2
      refine ⟨l :: g1, g2, by rw [h1]; rfl, fun m hm => ?_, h3, h4⟩
      simp at hm
      rcases hm with rfl | hm
      · exact hl
      · exact h2 m hm
    · exact ⟨[], l :: f, rfl, by simp, fun m hm => by simp at hm; subst hm; omega, p, h⟩
theorem parts_step {f : List Lv} {p fr to : Int} (hA : Asc p f) (h : fr < to) : partsFrom fr to (val f fr) f = ((fr, nx fr to f), val f fr) :: partsFrom (nx fr to f) to (val f (nx fr to f)) f := by
  obtain ⟨g1, g2, rfl, h1, h2, q, h3⟩ := asc_split (fr := fr) hA
  have hn := nx_split (to := to) g1 g2 h1
  generalize hv : val (g1 ++ g2) fr = now
  rw [hn, partsFrom_skip g1 g2 h1]
  cases g2 with
  | nil =>
    simp only [nx, partsFrom]
    rw [if_pos h, partsFrom_end]
  | cons l g3 =>
    have hl := h2 l rfl
    simp only [nx]
    rw [if_pos hl]
    simp only [partsFrom]
    rw [if_neg (by omega)]
    congr 1
    by_cases hlt : l.a < to
    · have hm : min l.a to = l.a := by omega
      rw [hm]
      have hall : ∀ m ∈ g1 ++ [l], m.a ≤ l.a := fun m hm => by
        simp at hm
        rcases hm with hm | rfl
        · have := h1 m hm; omega
        · exact Int.le_refl _
      have e : g1 ++ l :: g3 = (g1 ++ [l]) ++ g3 := by simp
      have hval : val (g1 ++ l :: g3) l.a = l.v := by
        unfold val
        rw [e, vat_append _ _ 0 l.a hall, vat_late _ _ l.a (fun m hm => (h3.2.2.2.gt m (List.mem_of_mem_head? (by simpa using hm))).1)]
        exact vat_last g1 l 0 l.a (fun m hm => hall m (by simp [hm])) (Int.le_refl _)
      rw [hval, e, partsFrom_skip _ g3 hall]
    · have hm : min l.a to = to := by omega
      rw [hm, partsFrom_end, partsFrom_end]
theorem partsFrom_len {to : Int} : ∀ (g : List Lv) (fr now : Int), (partsFrom fr to now g).length ≤ g.length + 1
  | [], fr, now => by simp only [partsFrom]; split <;> simp
  | l :: g, fr, now => by
    simp only [partsFrom]
    split
    · have := partsFrom_len (to := to) g fr now; simp; omega
    · have := partsFrom_len (to := to) g (min l.a to) l.v; simp; omega
def lens (ps : List ((Int × Int) × Int)) : Int := ps.foldr (fun p s => (p.1.2 - p.1.1) + s) 0
theorem lens_cons (p : (Int × Int) × Int) (ps : List ((Int × Int) × Int)) : lens (p :: ps) = (p.1.2 - p.1.1) + lens ps := rfl
theorem area_cons (p : (Int × Int) × Int) (ps : List ((Int × Int) × Int)) : area (p :: ps) = p.2 * (p.1.2 - p.1.1) + area ps := rfl
theorem partsFrom_lens {to : Int} : ∀ (g : List Lv) (fr now : Int), fr ≤ to → lens (partsFrom fr to now g) = to - fr
  | [], fr, now, h => by
    simp only [partsFrom]
    split
    · simp [lens]
    · simp [lens]; omega
  | l :: g, fr, now, h => by
    simp only [partsFrom]
    split
    · exact partsFrom_lens g fr now h
    · rename_i hs
      rw [lens_cons, partsFrom_lens g (min l.a to) l.v (by omega)]
      dsimp only; omega
theorem area_bd {M : Int} (hM : 0 ≤ M) : ∀ (ps : List ((Int × Int) × Int)), (∀ q ∈ ps, -M ≤ q.2 ∧ q.2 ≤ M ∧ q.1.1 ≤ q.1.2) → -(M * lens ps) ≤ area ps ∧ area ps ≤ M * lens ps ∧ 0 ≤ lens ps ∧ ∀ i, lens (ps.take i) ≤ lens ps
  | [], _ => by simp [lens, area]
  | q :: ps, h => by
    obtain ⟨h1, h2, h3, h4⟩ := area_bd hM ps (fun x hx => h x (by simp [hx]))
    obtain ⟨a1, a2, a3⟩ := h q (by simp)
    have e1 : q.2 * (q.1.2 - q.1.1) ≤ M * (q.1.2 - q.1.1) := Int.mul_le_mul_of_nonneg_right a2 (by omega)
    have e2 : (-M) * (q.1.2 - q.1.1) ≤ q.2 * (q.1.2 - q.1.1) := Int.mul_le_mul_of_nonneg_right a1 (by omega)
    rw [Int.neg_mul] at e2
    rw [area_cons, lens_cons, Int.mul_add]
    refine ⟨by omega, by omega, by omega, fun i => ?_⟩
    cases i with
    | zero => simp [lens] at h3 ⊢; omega
    | succ i => rw [List.take_succ_cons, lens_cons]; have := h4 i; omega
end Go.Step
/- The greatest and the least value, where a function is low; the times of two functions, merged. No program in sight. No conditions. -/
namespace Go.Step
abbrev Pt := (Int × Int) × Int
def foldP (op : Int → Int → Int) (a : Int) (ps : List Pt) : Int := ps.foldl (fun s p => op s p.2) a
theorem foldP_take (op : Int → Int → Int) (a : Int) (ps : List Pt) (i : Nat) (q : Pt) (h : ps[i]? = some q) : foldP op a (ps.take (i + 1)) = op (foldP op a (ps.take i)) q.2 := by
  obtain ⟨hi, rfl⟩ := List.getElem?_eq_some_iff.1 h
  unfold foldP
  rw [List.take_succ_eq_append_getElem hi, List.foldl_append]; rfl
/-- the value in an interval that is preferred -/
def bestR (op : Int → Int → Int) (f : List Lv) (fr to : Int) : Int :=
  if chkS f = 0 ∧ (0 ≤ fr ∧ fr ≤ to ∧ to ≤ 1099511627776) ∧ fr ≠ to then foldP op (val f fr) (parts f fr to) else 0
/-- one part more, of those that are low -/
def bstep (limit : Int) (out : List (Int × Int)) (p : Pt) : List (Int × Int) :=
  if limit < p.2 then out else match out.getLast? with
    | some q => if q.2 = p.1.1 then out.dropLast ++ [(q.1, p.1.2)] else out ++ [p.1]
    | none => out ++ [p.1]
def lowP (limit : Int) (ps : List Pt) : List (Int × Int) := ps.foldl (bstep limit) []
theorem lowP_take (limit : Int) (ps : List Pt) (i : Nat) (q : Pt) (h : ps[i]? = some q) : lowP limit (ps.take (i + 1)) = bstep limit (lowP limit (ps.take i)) q := by
  obtain ⟨hi, rfl⟩ := List.getElem?_eq_some_iff.1 h
  unfold lowP
  rw [List.take_succ_eq_append_getElem hi, List.foldl_append]; rfl
theorem bstep_len (limit : Int) (out : List (Int × Int)) (p : Pt) : (bstep limit out p).length ≤ out.length + 1 := by
  unfold bstep
  split
  · omega
  · split
    · rename_i q hq
      split
      · have : out ≠ [] := by intro h; subst h; simp at hq
        have := List.length_pos_iff.2 this
        rw [List.length_append, List.length_dropLast, List.length_singleton]; omega
      · simp
    · simp
theorem lowP_len (limit : Int) (ps : List Pt) : ∀ i, (lowP limit (ps.take i)).length ≤ i
  | 0 => by simp [lowP]
  | i + 1 => by
    have ih := lowP_len limit ps i
    by_cases h : i < ps.length
    · rw [lowP_take limit ps i _ (List.getElem?_eq_getElem h)]
      have := bstep_len limit (lowP limit (ps.take i)) ps[i]
      omega
    · rw [List.take_of_length_le (by omega)]
      rw [List.take_of_length_le (by omega)] at ih
      omega
/-- what Below answers -/
def lowR (f : List Lv) (limit fr to : Int) : List (Int × Int) × Int :=
  if chkS f = 0 then (if 0 ≤ fr ∧ fr ≤ to ∧ to ≤ 1099511627776 then (lowP limit (parts f fr to), 0) else ([], 2)) else ([], 1)
/-! times, merged -/
structure TInv (f g : List Lv) (i k : Nat) (out : List Int) : Prop where
  sa : SA out
  mem : ∀ x, x ∈ out ↔ ∃ l ∈ f.take i ++ g.take k, l.a = x
  f : ∀ x ∈ out, ∀ l ∈ f.drop i, x ≤ l.a
  g : ∀ x ∈ out, ∀ l ∈ g.drop k, x ≤ l.a
/-- the next time: behind the last one, or the same -/
def nextT (out : List Int) (t : Int) : List Int := if out = [] ∨ out.getD (out.length - 1) 0 ≠ t then out ++ [t] else out
theorem nextT_ok {out : List Int} {t : Int} (h : SA out) (hle : ∀ x ∈ out, x ≤ t) : SA (nextT out t) ∧ ∀ x, x ∈ nextT out t ↔ x ∈ out ∨ x = t := by
  unfold nextT
  by_cases hc : out = [] ∨ out.getD (out.length - 1) 0 ≠ t
  · rw [if_pos hc]
    refine ⟨List.pairwise_append.2 ⟨h, by simp, fun x hx y hy => ?_⟩, fun x => by simp⟩
    simp at hy; subst hy
    rcases hc with rfl | hc
    · simp at hx
    · obtain ⟨i, hi, rfl⟩ := List.getElem_of_mem hx
      have hlast : out.length - 1 < out.length := by omega
      have e : out.getD (out.length - 1) 0 = out[out.length - 1] := by simp [List.getD_eq_getElem?_getD, hlast]
      rw [e] at hc
      have h1 := hle out[out.length - 1] (List.getElem_mem _)
      rcases Nat.lt_or_ge i (out.length - 1) with h2 | h2
      · have := List.pairwise_iff_getElem.1 h i (out.length - 1) hi hlast h2
        omega
      · have : i = out.length - 1 := by omega
        subst this; omega
  · rw [if_neg hc]
    simp only [not_or, Classical.not_not] at hc
    refine ⟨h, fun x => ⟨.inl, ?_⟩⟩
    rintro (hx | rfl)
    · exact hx
    · have : 0 < out.length := List.length_pos_iff.2 hc.1
      rw [← hc.2]
      simp [List.getD_eq_getElem?_getD, show out.length - 1 < out.length by omega]
theorem mem_drop_iff {α : Type} {f : List α} {i : Nat} (hi : i < f.length) (x : α) : x ∈ f.drop i ↔ x = f[i] ∨ x ∈ f.drop (i + 1) := by
  constructor
  · intro h
    rw [List.drop_eq_getElem_cons hi, List.mem_cons] at h
    exact h
  · intro h
    rw [List.drop_eq_getElem_cons hi, List.mem_cons]
    exact h
theorem mem_take_iff {α : Type} {f : List α} {i : Nat} (hi : i < f.length) (x : α) : x ∈ f.take (i + 1) ↔ x ∈ f.take i ∨ x = f[i] := by
  rw [List.take_succ_eq_append_getElem hi, List.mem_append, List.mem_singleton]
theorem drop_lt {f : List Lv} (hf : AscT (-1) f) {i : Nat} (hi : i < f.length) : ∀ l ∈ f.drop (i + 1), f[i].a < l.a := fun l hl => by
  obtain ⟨j, hj, rfl⟩ := List.getElem_of_mem hl
  rw [List.getElem_drop]
  rw [List.length_drop] at hj
  exact hf.idx i (i + 1 + j) _ _ (List.getElem?_eq_getElem hi) (List.getElem?_eq_getElem (by omega)) (by omega)
theorem drop_le {f : List Lv} (hf : AscT (-1) f) {i : Nat} (hi : i < f.length) : ∀ l ∈ f.drop i, f[i].a ≤ l.a := fun l hl => by
  rcases (mem_drop_iff hi l).1 hl with rfl | hl
  · exact Int.le_refl _
  · have := drop_lt hf hi l hl; omega
theorem TInv.stepF {f g : List Lv} (hf : AscT (-1) f) (hg : AscT (-1) g) {i k : Nat} {out : List Int} (h : TInv f g i k out) (hi : i < f.length) (hk : ∀ x, g[k]? = some x → f[i].a ≤ x.a) : TInv f g (i + 1) k (nextT out f[i].a) := by
  have hm : f[i] ∈ f.drop i := (mem_drop_iff hi _).2 (.inl rfl)
  obtain ⟨h1, h2⟩ := nextT_ok (t := f[i].a) h.sa (fun x hx => h.f x hx _ hm)
  refine ⟨h1, fun x => ?_, fun x hx l hl => ?_, fun x hx l hl => ?_⟩
  · rw [h2, h.mem]
    constructor
    · rintro (⟨l, hl, e⟩ | rfl)
      · refine ⟨l, ?_, e⟩
        rw [List.mem_append] at hl ⊢
        rcases hl with hl | hl
        · exact .inl ((mem_take_iff hi l).2 (.inl hl))
        · exact .inr hl
      · exact ⟨f[i], List.mem_append.2 (.inl ((mem_take_iff hi _).2 (.inr rfl))), rfl⟩
    · rintro ⟨l, hl, e⟩
      rw [List.mem_append, mem_take_iff hi] at hl
      rcases hl with (hl | rfl) | hl
      · exact .inl ⟨l, List.mem_append.2 (.inl hl), e⟩
      · exact .inr e.symm
      · exact .inl ⟨l, List.mem_append.2 (.inr hl), e⟩
  · have := drop_lt hf hi l hl
    rcases (h2 x).1 hx with hx | rfl
    · have := h.f x hx _ hm; omega
    · omega
  · rcases (h2 x).1 hx with hx | rfl
    · exact h.g x hx l hl
    · by_cases hkl : k < g.length
      · have a := drop_le hg hkl l hl
        have b := hk _ (List.getElem?_eq_getElem hkl)
        omega
      · rw [List.drop_of_length_le (by omega)] at hl; simp at hl
theorem TInv.stepG {f g : List Lv} (hf : AscT (-1) f) (hg : AscT (-1) g) {i k : Nat} {out : List Int} (h : TInv f g i k out) (hk : k < g.length) (hi : ∀ x, f[i]? = some x → g[k].a ≤ x.a) : TInv f g i (k + 1) (nextT out g[k].a) := by
  have hm : g[k] ∈ g.drop k := (mem_drop_iff hk _).2 (.inl rfl)
  obtain ⟨h1, h2⟩ := nextT_ok (t := g[k].a) h.sa (fun x hx => h.g x hx _ hm)
  refine ⟨h1, fun x => ?_, fun x hx l hl => ?_, fun x hx l hl => ?_⟩
  · rw [h2, h.mem]
    constructor
    · rintro (⟨l, hl, e⟩ | rfl)
      · refine ⟨l, ?_, e⟩
        rw [List.mem_append] at hl ⊢
        rcases hl with hl | hl
        · exact .inl hl
        · exact .inr ((mem_take_iff hk l).2 (.inl hl))
      · exact ⟨g[k], List.mem_append.2 (.inr ((mem_take_iff hk _).2 (.inr rfl))), rfl⟩
    · rintro ⟨l, hl, e⟩
      rw [List.mem_append, mem_take_iff hk] at hl
      rcases hl with hl | hl | rfl
      · exact .inl ⟨l, List.mem_append.2 (.inl hl), e⟩
      · exact .inl ⟨l, List.mem_append.2 (.inr hl), e⟩
      · exact .inr e.symm
  · rcases (h2 x).1 hx with hx | rfl
    · exact h.f x hx l hl
    · by_cases hil : i < f.length
      · have a := drop_le hf hil l hl
        have b := hi _ (List.getElem?_eq_getElem hil)
        omega
      · rw [List.drop_of_length_le (by omega)] at hl; simp at hl
  · have := drop_lt hg hk l hl
    rcases (h2 x).1 hx with hx | rfl
    · have := h.g x hx _ hm; omega
    · omega
theorem TInv.zero (f g : List Lv) : TInv f g 0 0 [] := ⟨by simp, by simp, by simp, by simp⟩
theorem TInv.done {f g : List Lv} {out : List Int} (h : TInv f g f.length g.length out) : out = tms f g := by
  obtain ⟨h1, h2⟩ := tms_sa f g
  refine SA.unique h.sa h1 (fun x => ?_)
  rw [h.mem, h2, List.take_length, List.take_length]
theorem SA.len : ∀ {out : List Int} {f : List Int}, SA out → (∀ x ∈ out, x ∈ f) → out.length ≤ f.length
  | [], _, _, _ => by simp
  | x :: out, f, h, hm => by
    have p := List.pairwise_cons.1 h
    have hx := hm x (by simp)
    have := SA.len (f := f.erase x) p.2 (fun y hy => by
      have h1 := hm y (by simp [hy])
      have h2 := p.1 y hy
      exact (List.mem_erase_of_ne (by omega)).2 h1)
    rw [List.length_erase_of_mem hx] at this
    have : 0 < f.length := List.length_pos_iff.2 (fun e => by subst e; simp at hx)
    simp; omega
theorem TInv.len {f g : List Lv} {i k : Nat} {out : List Int} (h : TInv f g i k out) : out.length ≤ f.length + g.length := by
  have := SA.len (f := (f ++ g).map (·.a)) h.sa (fun x hx => by
    obtain ⟨l, hl, rfl⟩ := (h.mem x).1 hx
    rw [List.mem_map]
    refine ⟨l, ?_, rfl⟩
    simp at hl ⊢
    rcases hl with hl | hl
    · exact .inl (List.mem_of_mem_take hl)
    · exact .inr (List.mem_of_mem_take hl))
  simpa using this
end Go.Step
namespace Go.Step
theorem AddR.err0 {f out : List Lv} {fr to d e : Int} (h : AddR f fr to d out e) (h0 : chkS f = 0) (hs : 0 ≤ fr ∧ fr ≤ to ∧ to ≤ 1099511627776) (hd : -2251799813685248 ≤ d ∧ d ≤ 2251799813685248) (hv : ∀ t, okV (val f t + if fr ≤ t ∧ t < to then d else 0)) (hl : f.length ≤ 998) : e = 0 := by
  rcases h with ⟨a, _⟩ | ⟨_, a, _⟩ | ⟨_, _, _, _, _, a⟩ | ⟨a, b, c, x⟩
  · exact absurd h0 a
  · omega
  · exact a
  · rcases x with ⟨⟨t, _, ht⟩, _⟩ | ⟨_, hbig, _⟩ | ⟨_, _, _, he⟩
    · have := hv t
      dsimp only at ht
      rw [bump_val fr to d t b.2.1] at ht
      exact absurd this ht
    · have h1 := comb_len (fun t => val f t + val (bump fr to d) t) (tms f (bump fr to d)) 0
      obtain ⟨hsa, hmem⟩ := tms_sa f (bump fr to d)
      have h2 := SA.len (f := (f ++ bump fr to d).map (·.a)) hsa (fun x hx => by
        obtain ⟨l, hl, rfl⟩ := (hmem x).1 hx
        exact List.mem_map.2 ⟨l, hl, rfl⟩)
      rw [List.length_map, List.length_append] at h2
      have : (bump fr to d).length = 2 := rfl
      omega
    · exact he
def ex6 : List Lv := [⟨2, 5⟩, ⟨4, 0⟩]
def ex6' : List Lv := [⟨2, 5⟩, ⟨3, 8⟩, ⟨4, 3⟩, ⟨6, 0⟩]
theorem ex6_val (t : Int) : val ex6 t + (if 3 ≤ t ∧ t < 6 then 3 else 0) = val ex6' t := by
  simp only [val, ex6, ex6', vat]
  by_cases h1 : 2 ≤ t <;> by_cases h2 : 4 ≤ t <;> by_cases h3 : 3 ≤ t <;> by_cases h4 : 6 ≤ t <;> simp [h1, h2, h3, h4] <;> omega
theorem ex6_add {out : List Lv} {e : Int} (h : AddR ex6 3 6 3 out e) : out = ex6' ∧ e = 0 := by
  have he : e = 0 := h.err0 (by decide) (by omega) (by omega) (fun t => by
    rw [ex6_val]
    unfold okV
    simp only [val, ex6', vat]
    repeat' split
    all_goals omega) (by decide)
  subst he
  obtain ⟨h1, h2, h3⟩ := h.ok
  exact ⟨chkS_unique h2 (by decide) (fun t ht => by rw [h3 t ht, ex6_val]), rfl⟩
theorem ex6_chk : chkS ex6' = 0 := by decide
theorem ex6_rates : rates ex6' = true := by decide
theorem ex6_int : cum ex6' 10 - cum ex6' 0 = 19 := by decide
theorem ex6_low : lowR ex6' 3 0 10 = ([(0, 2), (4, 10)], 0) := by decide
theorem ex6_most : bestR max ex6' 0 10 = 8 := by decide
end Go.Step
namespace Go.Step
theorem CombP.len {F : Int → Int} {ts : List Int} {out : List Lv} {e : Int} (h : CombP F ts out e) : out.length ≤ 1000 := by
  rcases h with ⟨_, rfl, _⟩ | ⟨_, _, rfl, _⟩ | ⟨_, h, rfl, _⟩
  · simp
  · simp
  · exact h
theorem AddR.len {f out : List Lv} {fr to d e : Int} (h : AddR f fr to d out e) : out.length ≤ 1000 := by
  rcases h with ⟨_, rfl, _⟩ | ⟨_, _, rfl, _⟩ | ⟨a, _, _, _, rfl, _⟩ | ⟨_, _, _, hP⟩
  · simp
  · simp
  · exact (chkS_ok a).1
  · exact hP.len
theorem SumR.len {f g out : List Lv} {e : Int} (h : SumR f g out e) : out.length ≤ 1000 := by
  rcases h with ⟨_, rfl, _⟩ | ⟨_, _, hP⟩
  · simp
  · exact hP.len
end Go.Step
namespace Go.Step
theorem tms_len (f g : List Lv) : (tms f g).length ≤ f.length + g.length := by
  obtain ⟨hsa, hmem⟩ := tms_sa f g
  have h2 := SA.len (f := (f ++ g).map (·.a)) hsa (fun x hx => by
    obtain ⟨l, hl, rfl⟩ := (hmem x).1 hx
    exact List.mem_map.2 ⟨l, hl, rfl⟩)
  rw [List.length_map, List.length_append] at h2
  exact h2
theorem CombP.len2 {F : Int → Int} {ts : List Int} {out : List Lv} {e : Int} (h : CombP F ts out e) : out.length ≤ ts.length := by
  rcases h with ⟨_, rfl, _⟩ | ⟨_, _, rfl, _⟩ | ⟨_, _, rfl, _⟩
  · simp
  · simp
  · exact comb_len F ts 0
theorem AddR.len2 {f out : List Lv} {fr to d e : Int} (h : AddR f fr to d out e) : out.length ≤ f.length + 2 := by
  rcases h with ⟨_, rfl, _⟩ | ⟨_, _, rfl, _⟩ | ⟨a, _, _, _, rfl, _⟩ | ⟨_, _, _, hP⟩
  · simp
  · simp
  · omega
  · have := hP.len2
    have := tms_len f (bump fr to d)
    have : (bump fr to d).length = 2 := rfl
    omega
theorem okV_val {f : List Lv} (h : chkS f = 0) (t : Int) : okV (val f t) := by
  have hA := (chkS_ok h).2
  rcases vat_mem f 0 t with e | ⟨l, hl, e⟩
  · unfold okV val; rw [e]; omega
  · unfold okV val
    rw [e]
    have := hA.gt l hl
    omega
theorem AddR.cond {f out : List Lv} {fr to d : Int} (h : AddR f fr to d out 0) : (0 ≤ fr ∧ fr ≤ to ∧ to ≤ 1099511627776) ∧ -2251799813685248 ≤ d ∧ d ≤ 2251799813685248 := by
  rcases h with ⟨_, _, h⟩ | ⟨_, _, _, h⟩ | ⟨_, b, c, _⟩ | ⟨_, b, c, _⟩
  · simp at h
  · simp at h
  · exact ⟨b, c⟩
  · exact ⟨by omega, c⟩
/-- adding is undone -/
theorem AddR.back {f p out : List Lv} {fr to d e : Int} (h : AddR f fr to d p 0) (hl : f.length ≤ 900) (h' : AddR p fr to (-d) out e) : e = 0 ∧ out = f := by
  obtain ⟨c1, c2, c3⟩ := h.cond
  obtain ⟨h1, h2, h3⟩ := h.ok
  have hlp := h.len2
  have hneg : ∀ t : Int, -1 ≤ t → val p t + (if fr ≤ t ∧ t < to then -d else 0) = val f t := fun t ht => by
    rw [h3 t ht]
    by_cases hc : fr ≤ t ∧ t < to
    · rw [if_pos hc, if_pos hc]; omega
    · rw [if_neg hc, if_neg hc]; omega
  have he : e = 0 := h'.err0 h2 c1 (by omega) (fun t => by
    by_cases ht : -1 ≤ t
    · rw [hneg t ht]; exact okV_val h1 t
    · rw [if_neg (by omega)]
      have := okV_val h2 t
      unfold okV at this ⊢
      omega) (by omega)
  subst he
  obtain ⟨_, k2, k3⟩ := h'.ok
  exact ⟨rfl, chkS_unique k2 h1 (fun t ht => by rw [k3 t ht, hneg t ht])⟩
theorem AddR.swap {f p q r s : List Lv} {a1 a2 a b1 b2 b : Int} (h1 : AddR f a1 a2 a p 0) (h2 : AddR p b1 b2 b q 0) (h3 : AddR f b1 b2 b r 0) (h4 : AddR r a1 a2 a s 0) : q = s := by
  obtain ⟨_, _, e1⟩ := h1.ok
  obtain ⟨_, k2, e2⟩ := h2.ok
  obtain ⟨_, _, e3⟩ := h3.ok
  obtain ⟨_, k4, e4⟩ := h4.ok
  exact chkS_unique k2 k4 (fun t ht => by rw [e2 t ht, e1 t ht, e4 t ht, e3 t ht]; omega)
theorem tms_comm (f g : List Lv) : tms f g = tms g f := by
  obtain ⟨a1, a2⟩ := tms_sa f g
  obtain ⟨b1, b2⟩ := tms_sa g f
  refine SA.unique a1 b1 (fun x => ?_)
  rw [a2, b2]
  constructor <;> (rintro ⟨l, hl, e⟩; exact ⟨l, by rw [List.mem_append] at hl ⊢; exact hl.symm, e⟩)
theorem SumR.comm {f g o : List Lv} {e : Int} (h : SumR f g o e) : SumR g f o e := by
  rcases h with ⟨a, b, c⟩ | ⟨a, b, c⟩
  · exact .inl ⟨a.symm, b, c⟩
  · refine .inr ⟨b, a, ?_⟩
    rw [tms_comm g f]
    have : (fun t => val g t + val f t) = (fun t => val f t + val g t) := funext (fun t => Int.add_comm _ _)
    rw [this]; exact c
theorem SumR.ok {f g o : List Lv} (h : SumR f g o 0) : chkS f = 0 ∧ chkS g = 0 ∧ chkS o = 0 ∧ ∀ t : Int, -1 ≤ t → val o t = val f t + val g t := by
  rcases h with ⟨_, _, h⟩ | ⟨a, b, c⟩
  · simp at h
  · obtain ⟨h1, h2⟩ := CombP.ok (op := (· + ·)) (chkS_ok a).2.t (chkS_ok b).2.t rfl c
    exact ⟨a, b, h1, h2⟩
theorem SumR.assoc {f g k fg gk l r : List Lv} (h1 : SumR f g fg 0) (h2 : SumR g k gk 0) (h3 : SumR fg k l 0) (h4 : SumR f gk r 0) : l = r := by
  obtain ⟨_, _, _, e1⟩ := h1.ok
  obtain ⟨_, _, _, e2⟩ := h2.ok
  obtain ⟨_, _, k3, e3⟩ := h3.ok
  obtain ⟨_, _, k4, e4⟩ := h4.ok
  exact chkS_unique k3 k4 (fun t ht => by rw [e3 t ht, e1 t ht, e4 t ht, e2 t ht]; omega)
end Go.Step
/- Parts cover an interval; greatest and least values are values. No program in sight. No conditions. -/
namespace Go.Step
theorem parts_cover0 (f : List Lv) (to : Int) : ∀ (g : List Lv) (p fr now : Int), Asc p g → fr ≤ to → (∀ t : Int, fr ≤ t → t < to → val f t = vat now (g.dropWhile (fun l => decide (l.a ≤ fr))) t) →
    (∀ t : Int, fr ≤ t → t < to → ∃ q ∈ partsFrom fr to now g, q.1.1 ≤ t ∧ t < q.1.2 ∧ val f t = q.2)
  | [], p, fr, now, _, h1, H => by
    intro t a b
    simp only [partsFrom]
    rw [if_pos (by omega)]
    exact ⟨_, List.mem_singleton.2 rfl, a, b, by rw [H t a b]; rfl⟩
  | l :: g, p, fr, now, hA, h1, H => by
    intro t a b
    simp only [partsFrom]
    by_cases hs : l.a ≤ fr ∨ to ≤ fr
    · rw [if_pos hs]
      refine parts_cover0 f to g l.a fr now hA.2.2.2 h1 (fun t a b => ?_) t a b
      rcases hs with hs | hs
      · rw [H t a b, List.dropWhile_cons_of_pos (by simpa using hs)]
      · omega
    · rw [if_neg hs]
      simp only [not_or] at hs
      have hdr : (l :: g).dropWhile (fun l => decide (l.a ≤ fr)) = l :: g := List.dropWhile_cons_of_neg (by simpa using hs.1)
      by_cases hlt : t < min l.a to
      · refine ⟨_, List.mem_cons_self .., a, hlt, ?_⟩
        rw [H t a b, hdr]
        simp only [vat]
        rw [if_neg (by omega)]
      · have hm : min l.a to = l.a := by omega
        obtain ⟨q, hq, k⟩ := parts_cover0 f to g l.a l.a l.v hA.2.2.2 (by omega) (fun t a b => by
          rw [H t (by omega) b, hdr, drop_none g l.a l.a hA.2.2.2 (Int.le_refl _)]
          simp only [vat]
          rw [if_pos a]) t (by omega) b
        exact ⟨q, List.mem_cons_of_mem _ (by rw [hm]; exact hq), k⟩
theorem parts_cover {f : List Lv} {p fr to : Int} (hA : Asc p f) (h1 : fr ≤ to) {t : Int} (a : fr ≤ t) (b : t < to) : ∃ q ∈ parts f fr to, q.1.1 ≤ t ∧ t < q.1.2 ∧ val f t = q.2 :=
  parts_cover0 f to f p fr (val f fr) hA h1 (fun t a _ => vat_drop f p 0 fr t hA a) t a b
theorem parts_starts {to : Int} : ∀ (g : List Lv) (fr now : Int), ∀ q ∈ partsFrom fr to now g, q.1.1 = fr ∨ ∃ l ∈ g, l.a = q.1.1
  | [], fr, now, q, hq => by
    simp only [partsFrom] at hq
    split at hq
    · simp at hq; subst hq; exact .inl rfl
    · simp at hq
  | l :: g, fr, now, q, hq => by
    simp only [partsFrom] at hq
    split at hq
    · rcases parts_starts g fr now q hq with h | ⟨m, hm, h⟩
      · exact .inl h
      · exact .inr ⟨m, by simp [hm], h⟩
    · simp only [List.mem_cons] at hq
      rcases hq with rfl | hq
      · exact .inl rfl
      · by_cases hlt : l.a < to
        · have hm : min l.a to = l.a := by omega
          rw [hm] at hq
          rcases parts_starts g l.a l.v q hq with h | ⟨m, hm, h⟩
          · exact .inr ⟨l, by simp, h.symm⟩
          · exact .inr ⟨m, by simp [hm], h⟩
        · have hm : min l.a to = to := by omega
          rw [hm, partsFrom_end] at hq
          simp at hq
theorem foldMax (ps : List Pt) : ∀ a : Int, a ≤ foldP max a ps ∧ (∀ q ∈ ps, q.2 ≤ foldP max a ps) ∧ (foldP max a ps = a ∨ ∃ q ∈ ps, foldP max a ps = q.2) := by
  induction ps with
  | nil => intro a; simp [foldP]
  | cons p ps ih =>
    intro a
    obtain ⟨h1, h2, h3⟩ := ih (max a p.2)
    have e : foldP max a (p :: ps) = foldP max (max a p.2) ps := rfl
    rw [e]
    refine ⟨by omega, fun q hq => ?_, ?_⟩
    · simp only [List.mem_cons] at hq
      rcases hq with rfl | hq
      · omega
      · exact h2 q hq
    · rcases h3 with h3 | ⟨q, hq, h3⟩
      · by_cases hc : a ≤ p.2
        · exact .inr ⟨p, by simp, by rw [h3]; omega⟩
        · exact .inl (by rw [h3]; omega)
      · exact .inr ⟨q, by simp [hq], h3⟩
theorem foldMin (ps : List Pt) : ∀ a : Int, foldP min a ps ≤ a ∧ (∀ q ∈ ps, foldP min a ps ≤ q.2) ∧ (foldP min a ps = a ∨ ∃ q ∈ ps, foldP min a ps = q.2) := by
  induction ps with
  | nil => intro a; simp [foldP]
  | cons p ps ih =>
    intro a
    obtain ⟨h1, h2, h3⟩ := ih (min a p.2)
    have e : foldP min a (p :: ps) = foldP min (min a p.2) ps := rfl
    rw [e]
    refine ⟨by omega, fun q hq => ?_, ?_⟩
    · simp only [List.mem_cons] at hq
      rcases hq with rfl | hq
      · omega
      · exact h2 q hq
    · rcases h3 with h3 | ⟨q, hq, h3⟩
      · by_cases hc : p.2 ≤ a
        · exact .inr ⟨p, by simp, by rw [h3]; omega⟩
        · exact .inl (by rw [h3]; omega)
      · exact .inr ⟨q, by simp [hq], h3⟩
/-- the times that a law looks at -/
def nearL (w1 x1 w2 x2 : Int) (ls : List (List Lv)) : List Int := [0, w1, x1, w2, x2, 1099511627776] ++ ls.flatMap (fun f => f.flatMap (fun l => [l.a - 1, l.a]))
theorem mem_near {w1 x1 w2 x2 : Int} {ls : List (List Lv)} {f : List Lv} {l : Lv} (hf : f ∈ ls) (hl : l ∈ f) : l.a ∈ nearL w1 x1 w2 x2 ls := by
  unfold nearL
  rw [List.mem_append]
  right
  rw [List.mem_flatMap]
  exact ⟨f, hf, List.mem_flatMap.2 ⟨l, hl, by simp⟩⟩
theorem best_laws {f : List Lv} {fr to : Int} (h0 : chkS f = 0) (hs : 0 ≤ fr ∧ fr ≤ to ∧ to ≤ 1099511627776) (hne : fr ≠ to) :
    (∀ t : Int, fr ≤ t → t < to → val f t ≤ bestR max f fr to ∧ bestR min f fr to ≤ val f t) ∧ (∃ t : Int, (t = fr ∨ ∃ l ∈ f, l.a = t) ∧ fr ≤ t ∧ t < to ∧ val f t = bestR max f fr to) ∧ (∃ t : Int, (t = fr ∨ ∃ l ∈ f, l.a = t) ∧ fr ≤ t ∧ t < to ∧ val f t = bestR min f fr to) := by
  have hA := (chkS_ok h0).2
  have e1 : bestR max f fr to = foldP max (val f fr) (parts f fr to) := by unfold bestR; rw [if_pos ⟨h0, hs, hne⟩]
  have e2 : bestR min f fr to = foldP min (val f fr) (parts f fr to) := by unfold bestR; rw [if_pos ⟨h0, hs, hne⟩]
  obtain ⟨m1, m2, m3⟩ := foldMax (parts f fr to) (val f fr)
  obtain ⟨n1, n2, n3⟩ := foldMin (parts f fr to) (val f fr)
  obtain ⟨_, hq⟩ := parts_area hA hs.1 hs.2.1
  rw [e1, e2]
  refine ⟨fun t a b => ?_, ?_, ?_⟩
  · obtain ⟨q, h1, _, _, h4⟩ := parts_cover hA hs.2.1 a b
    rw [h4]
    exact ⟨m2 q h1, n2 q h1⟩
  · rcases m3 with h | ⟨q, h1, h⟩
    · exact ⟨fr, .inl rfl, Int.le_refl _, by omega, h.symm⟩
    · obtain ⟨a1, a2, a3, a4⟩ := hq q h1
      exact ⟨q.1.1, parts_starts f fr _ q h1, a1, by omega, by rw [← a4, h]⟩
  · rcases n3 with h | ⟨q, h1, h⟩
    · exact ⟨fr, .inl rfl, Int.le_refl _, by omega, h.symm⟩
    · obtain ⟨a1, a2, a3, a4⟩ := hq q h1
      exact ⟨q.1.1, parts_starts f fr _ q h1, a1, by omega, by rw [← a4, h]⟩
end Go.Step
/- Where a function is low: intervals apart from each other. No program in sight. No conditions. -/
namespace Go.Step
/-- parts that follow on each other -/
def Chn (a : Int) : List Pt → Int → Prop
  | [], b => a = b
  | p :: ps, b => p.1.1 = a ∧ a < p.1.2 ∧ Chn p.1.2 ps b
theorem parts_chn (to : Int) : ∀ (g : List Lv) (fr now : Int), fr ≤ to → Chn fr (partsFrom fr to now g) to
  | [], fr, now, h => by
    unfold partsFrom
    split
    · exact ⟨rfl, by assumption, rfl⟩
    · show fr = to; omega
  | l :: g, fr, now, h => by
    unfold partsFrom
    split
    · exact parts_chn to g fr now h
    · rename_i hc
      exact ⟨rfl, by dsimp only; omega, parts_chn to g (min l.a to) l.v (by omega)⟩
theorem chn_ge {b : Int} : ∀ {ps : List Pt} {a : Int}, Chn a ps b → ∀ q ∈ ps, a ≤ q.1.1
  | [], _, _, q, hq => by simp at hq
  | p :: ps, a, ⟨h1, h2, h3⟩, q, hq => by
    rcases List.mem_cons.1 hq with rfl | hq
    · omega
    · have := chn_ge h3 q hq; omega
theorem chn_one {b t : Int} : ∀ {ps : List Pt} {a : Int}, Chn a ps b → ∀ {q r : Pt}, q ∈ ps → r ∈ ps → q.1.1 ≤ t ∧ t < q.1.2 → r.1.1 ≤ t ∧ t < r.1.2 → q = r
  | [], _, _, q, _, hq, _, _, _ => by simp at hq
  | p :: ps, a, ⟨h1, h2, h3⟩, q, r, hq, hr, k, k' => by
    rcases List.mem_cons.1 hq with e | hq'
    · rcases List.mem_cons.1 hr with e' | hr'
      · rw [e, e']
      · have := chn_ge h3 r hr'; subst e; omega
    · rcases List.mem_cons.1 hr with e' | hr'
      · have := chn_ge h3 q hq'; subst e'; omega
      · exact chn_one h3 hq' hr' k k'
def Cov (l : List (Int × Int)) (t : Int) : Prop := ∃ s ∈ l, s.1 ≤ t ∧ t < s.2
structure Apart (lo a : Int) (l : List (Int × Int)) : Prop where
  ok : ∀ s ∈ l, lo ≤ s.1 ∧ s.1 < s.2 ∧ s.2 ≤ a
  sep : l.Pairwise (fun s t => s.2 < t.1)
theorem bstep_ok {lim lo a : Int} {out : List (Int × Int)} {p : Pt} (h : Apart lo a out) (hlo : lo ≤ a) (h1 : p.1.1 = a) (h2 : a < p.1.2) :
    Apart lo p.1.2 (bstep lim out p) ∧ ∀ t, Cov (bstep lim out p) t ↔ Cov out t ∨ (p.2 ≤ lim ∧ p.1.1 ≤ t ∧ t < p.1.2) := by
  obtain ⟨⟨p1, p2⟩, pv⟩ := p
  dsimp only at h1 h2 ⊢
  subst h1
  by_cases hc : lim < pv
  · have e : bstep lim out ((p1, p2), pv) = out := by unfold bstep; rw [if_pos hc]
    rw [e]
    refine ⟨⟨fun s hs => ?_, h.sep⟩, fun t => ?_⟩
    · have := h.ok s hs; omega
    · constructor
      · exact fun h => .inl h
      · rintro (h | h)
        · exact h
        · omega
  · cases hg : out.getLast? with
    | none =>
      have ho : out = [] := List.getLast?_eq_none_iff.1 hg
      subst ho
      have e : bstep lim [] ((p1, p2), pv) = [(p1, p2)] := by unfold bstep; rw [if_neg hc]; rfl
      rw [e]
      refine ⟨⟨fun s hs => ?_, by simp⟩, fun t => ?_⟩
      · simp at hs; subst hs; exact ⟨hlo, h2, Int.le_refl _⟩
      · constructor
        · rintro ⟨s, hs, k⟩
          simp at hs; subst hs
          exact .inr ⟨by omega, k⟩
        · rintro (⟨s, hs, _⟩ | k)
          · simp at hs
          · exact ⟨(p1, p2), by simp, k.2⟩
    | some q =>
      obtain ⟨m, rfl⟩ : ∃ m, out = m ++ [q] := by
        have := List.getLast?_eq_some_iff.1 hg
        exact this
      have hq := h.ok q (by simp)
      have hsep := List.pairwise_append.1 h.sep
      by_cases he : q.2 = p1
      · have e : bstep lim (m ++ [q]) ((p1, p2), pv) = m ++ [(q.1, p2)] := by unfold bstep; rw [if_neg hc, hg]; simp [he]
        rw [e]
        refine ⟨⟨fun s hs => ?_, List.pairwise_append.2 ⟨hsep.1, by simp, fun s hs t ht => ?_⟩⟩, fun t => ?_⟩
        · rcases List.mem_append.1 hs with hs | hs
          · have := h.ok s (by simp [hs]); omega
          · simp at hs; subst hs; dsimp only; omega
        · simp at ht; subst ht
          exact hsep.2.2 s hs q (by simp)
        · constructor
          · rintro ⟨s, hs, k⟩
            rcases List.mem_append.1 hs with hs | hs
            · exact .inl ⟨s, by simp [hs], k⟩
            · simp at hs; subst hs
              dsimp only at k
              by_cases ht : t < p1
              · exact .inl ⟨q, by simp, by omega⟩
              · exact .inr (by omega)
          · rintro (⟨s, hs, k⟩ | k)
            · rcases List.mem_append.1 hs with hs | hs
              · exact ⟨s, by simp [hs], k⟩
              · simp at hs; subst hs
                exact ⟨(s.1, p2), by simp, by dsimp only; omega⟩
            · exact ⟨(q.1, p2), by simp, by dsimp only; omega⟩
      · have e : bstep lim (m ++ [q]) ((p1, p2), pv) = m ++ [q] ++ [(p1, p2)] := by unfold bstep; rw [if_neg hc, hg]; simp [he]
        rw [e]
        refine ⟨⟨fun s hs => ?_, List.pairwise_append.2 ⟨h.sep, by simp, fun s hs t ht => ?_⟩⟩, fun t => ?_⟩
        · rcases List.mem_append.1 hs with hs | hs
          · have := h.ok s hs; omega
          · simp at hs; subst hs; dsimp only; omega
        · simp at ht; subst ht
          dsimp only
          rcases List.mem_append.1 hs with hs | hs
          · have := hsep.2.2 s hs q (by simp)
            omega
          · simp at hs; subst hs; omega
        · constructor
          · rintro ⟨s, hs, k⟩
            rcases List.mem_append.1 hs with hs | hs
            · exact .inl ⟨s, hs, k⟩
            · simp at hs; subst hs
              exact .inr ⟨by omega, k⟩
          · rintro (⟨s, hs, k⟩ | k)
            · exact ⟨s, List.mem_append.2 (.inl hs), k⟩
            · exact ⟨(p1, p2), by simp, k.2⟩
theorem low_fold {lim lo b : Int} : ∀ (ps : List Pt) (a : Int) (out : List (Int × Int)), Apart lo a out → lo ≤ a → Chn a ps b →
    Apart lo b (ps.foldl (bstep lim) out) ∧ ∀ t, Cov (ps.foldl (bstep lim) out) t ↔ Cov out t ∨ ∃ q ∈ ps, q.2 ≤ lim ∧ q.1.1 ≤ t ∧ t < q.1.2
  | [], a, out, h, _, hc => by
    have : a = b := hc
    subst this
    exact ⟨h, fun t => by simp⟩
  | p :: ps, a, out, h, hlo, hc => by
    obtain ⟨c1, c2, c3⟩ := hc
    obtain ⟨b1, b2⟩ := bstep_ok (lim := lim) h hlo c1 c2
    obtain ⟨f1, f2⟩ := low_fold ps p.1.2 (bstep lim out p) b1 (by omega) c3
    refine ⟨f1, fun t => ?_⟩
    rw [List.foldl_cons, f2 t, b2 t]
    simp only [List.mem_cons, exists_eq_or_imp, or_assoc]
theorem low_ok {f : List Lv} {lim fr to : Int} (h0 : chkS f = 0) (hs : 0 ≤ fr ∧ fr ≤ to ∧ to ≤ 1099511627776) :
    Apart fr to (lowP lim (parts f fr to)) ∧ ∀ t, Cov (lowP lim (parts f fr to)) t ↔ (fr ≤ t ∧ t < to) ∧ val f t ≤ lim := by
  obtain ⟨_, hA⟩ := chkS_ok h0
  obtain ⟨a1, a2⟩ := low_fold (lim := lim) (lo := fr) (b := to) (parts f fr to) fr [] ⟨fun s hs => by simp at hs, by simp⟩ (Int.le_refl _) (parts_chn to f fr _ hs.2.1)
  refine ⟨a1, fun t => ?_⟩
  have a2t := a2 t
  unfold lowP
  rw [a2t]
  have hq := (parts_area hA hs.1 hs.2.1).2
  constructor
  · rintro (⟨s, hs, _⟩ | ⟨q, hm, h1, h2, h3⟩)
    · simp at hs
    · have q4 := hq q hm
      obtain ⟨q', hm', g1, g2, g3⟩ := parts_cover hA hs.2.1 (t := t) (by omega) (by omega)
      refine ⟨by omega, ?_⟩
      have e := chn_one (parts_chn to f fr (val f fr) hs.2.1) hm hm' ⟨h2, h3⟩ ⟨g1, g2⟩
      subst e
      omega
  · rintro ⟨⟨h1, h2⟩, h3⟩
    obtain ⟨q', hm', g1, g2, g3⟩ := parts_cover hA hs.2.1 h1 h2
    exact .inr ⟨q', hm', by omega, g1, g2⟩
theorem cov_one {lo a : Int} {l : List (Int × Int)} (h : Apart lo a l) {x y : Int} (hxy : x < y) (hc : ∀ t, x ≤ t → t < y → Cov l t) : ∃ s ∈ l, s.1 ≤ x ∧ y ≤ s.2 := by
  obtain ⟨s, hs, h1, h2⟩ := hc x (Int.le_refl _) hxy
  by_cases hy : y ≤ s.2
  · exact ⟨s, hs, h1, hy⟩
  · obtain ⟨u, hu, k1, k2⟩ := hc s.2 (by omega) (by omega)
    have hsu : s = u ∨ s.2 < u.1 ∨ u.2 < s.1 := by
      obtain ⟨i, hi, rfl⟩ := List.getElem_of_mem hs
      obtain ⟨j, hj, rfl⟩ := List.getElem_of_mem hu
      have := List.pairwise_iff_getElem.1 h.sep
      by_cases e : i = j
      · subst e; exact .inl rfl
      · by_cases e2 : i < j
        · exact .inr (.inl (this i j hi hj e2))
        · exact .inr (.inr (this j i hj hi (by omega)))
    have := h.ok s hs
    rcases hsu with rfl | h | h <;> omega
theorem low_more {f : List Lv} {lim d fr to : Int} (hd : 0 ≤ d) (h0 : chkS f = 0) (hs : 0 ≤ fr ∧ fr ≤ to ∧ to ≤ 1099511627776) :
    ∀ s ∈ lowP lim (parts f fr to), ∃ u ∈ lowP (lim + d) (parts f fr to), u.1 ≤ s.1 ∧ s.2 ≤ u.2 := fun s hm => by
  obtain ⟨a1, a2⟩ := low_ok (lim := lim) h0 hs
  obtain ⟨b1, b2⟩ := low_ok (lim := lim + d) h0 hs
  have := a1.ok s hm
  refine cov_one b1 this.2.1 (fun t h1 h2 => (b2 t).2 ?_)
  have := (a2 t).1 ⟨s, hm, h1, h2⟩
  omega
end Go.Step
/- The free spans of a node are exactly the times with room. No program in sight. No conditions. -/
namespace Go.Step
structure InvF (Q s : Int) (G : Int → Int) (T v : Int) (st : Int × List (Int × Int)) : Prop where
  ap : Apart 0 T st.2
  fr : st.1 = -1 ∨ (0 ≤ st.1 ∧ st.1 ≤ T ∧ ∀ u ∈ st.2, u.2 < st.1)
  cov : ∀ t, 0 ≤ t → t < T → ((Cov st.2 t ∨ (0 ≤ st.1 ∧ st.1 ≤ t)) ↔ G t + s ≤ Q)
  now : 0 ≤ st.1 ↔ v + s ≤ Q
theorem cov_snoc (l : List (Int × Int)) (x : Int × Int) (t : Int) : Cov (l ++ [x]) t ↔ Cov l t ∨ (x.1 ≤ t ∧ t < x.2) := by
  unfold Cov
  constructor
  · rintro ⟨s, hs, h⟩
    rcases List.mem_append.1 hs with hs | hs
    · exact .inl ⟨s, hs, h⟩
    · simp only [List.mem_singleton] at hs; subst hs; exact .inr h
  · rintro (⟨s, hs, h⟩ | h)
    · exact ⟨s, by simp [hs], h⟩
    · exact ⟨x, by simp, h⟩
theorem apart_snoc {T T' : Int} {l : List (Int × Int)} {x : Int × Int} (h : Apart 0 T l) (hT : T ≤ T') (hx : 0 ≤ x.1 ∧ x.1 < x.2 ∧ x.2 ≤ T') (hs : ∀ u ∈ l, u.2 < x.1) : Apart 0 T' (l ++ [x]) := by
  refine ⟨fun s hm => ?_, List.pairwise_append.2 ⟨h.sep, by simp, fun a ha b hb => ?_⟩⟩
  · rcases List.mem_append.1 hm with hm | hm
    · have := h.ok s hm; omega
    · simp only [List.mem_singleton] at hm; subst hm; exact hx
  · simp only [List.mem_singleton] at hb; subst hb; exact hs a ha
theorem apart_mono {T T' : Int} {l : List (Int × Int)} (h : Apart 0 T l) (hT : T ≤ T') : Apart 0 T' l := ⟨fun s hm => by have := h.ok s hm; omega, h.sep⟩
theorem InvF.step {Q s : Int} {G : Int → Int} {T v : Int} {st : Int × List (Int × Int)} (h : InvF Q s G T v st) {T' v' : Int} (h0 : 0 ≤ T) (hT : T < T' ∨ (T = T' ∧ st.2 = [])) (hG : ∀ t, T ≤ t → t < T' → G t = v) : InvF Q s G T' v' (frA Q s st T' v') := by
  have hle : T ≤ T' := by omega
  obtain ⟨fr, out⟩ := st
  obtain ⟨hap, hfr, hcov, hnow⟩ := h
  dsimp only at hap hfr hcov hnow hT
  unfold frA
  by_cases hc : Q - v' < s
  · rw [if_pos hc]
    dsimp only
    by_cases ho : 0 ≤ fr ∧ fr < T'
    · rw [if_pos ho]
      have hsep : ∀ u ∈ out, u.2 < fr := by rcases hfr with h | h; omega; exact h.2.2
      refine ⟨apart_snoc hap hle ⟨ho.1, ho.2, Int.le_refl _⟩ hsep, .inl rfl, fun t ht ht2 => ?_, by constructor <;> intro h <;> omega⟩
      dsimp only
      rw [cov_snoc]
      dsimp only
      by_cases c : t < T
      · have := hcov t ht c
        rw [← this]
        constructor
        · rintro ((h | h) | h)
          · exact .inl h
          · exact .inr ⟨ho.1, h.1⟩
          · omega
        · rintro (h | h)
          · exact .inl (.inl h)
          · exact .inl (.inr ⟨h.2, ht2⟩)
      · rw [hG t (by omega) ht2]
        have := hnow.1 ho.1
        constructor
        · intro _; exact this
        · intro _
          refine .inl (.inr ⟨?_, ht2⟩)
          rcases hfr with h | h <;> omega
    · rw [if_neg ho]
      refine ⟨apart_mono hap hle, .inl rfl, fun t ht ht2 => ?_, by constructor <;> intro h <;> dsimp only at * <;> omega⟩
      dsimp only
      by_cases c : t < T
      · rw [← hcov t ht c]
        constructor
        · rintro (h | h)
          · exact .inl h
          · omega
        · rintro (h | h)
          · exact .inl h
          · omega
      · rw [hG t (by omega) ht2]
        constructor
        · rintro (⟨u, hu, h⟩ | h)
          · have := hap.ok u hu; omega
          · omega
        · intro h
          have := hnow.2 h
          exact absurd ⟨this, by rcases hfr with k | k <;> omega⟩ ho
  · rw [if_neg hc]
    dsimp only
    by_cases ho : fr < 0
    · rw [if_pos ho]
      refine ⟨apart_mono hap hle, .inr ⟨by dsimp only; omega, Int.le_refl _, fun u hu => ?_⟩, fun t ht ht2 => ?_, by constructor <;> intro h <;> dsimp only at * <;> omega⟩
      · dsimp only at hu ⊢
        have := hap.ok u hu
        rcases hT with h | h
        · omega
        · rw [h.2] at hu; simp at hu
      · dsimp only
        by_cases c : t < T
        · rw [← hcov t ht c]
          constructor
          · rintro (h | h)
            · exact .inl h
            · omega
          · rintro (h | h)
            · exact .inl h
            · omega
        · rw [hG t (by omega) ht2]
          constructor
          · rintro (⟨u, hu, h⟩ | h)
            · have := hap.ok u hu; omega
            · omega
          · intro h
            have := hnow.2 h; omega
    · rw [if_neg ho]
      have hf : 0 ≤ fr ∧ fr ≤ T ∧ ∀ u ∈ out, u.2 < fr := by
        rcases hfr with h | h
        · omega
        · exact h
      refine ⟨apart_mono hap hle, .inr ⟨hf.1, by dsimp only; omega, hf.2.2⟩, fun t ht ht2 => ?_, by constructor <;> intro h <;> dsimp only at * <;> omega⟩
      dsimp only
      by_cases c : t < T
      · exact hcov t ht c
      · rw [hG t (by omega) ht2]
        have := hnow.1 hf.1
        constructor
        · intro _; exact this
        · intro _; exact .inr ⟨hf.1, by omega⟩
theorem InvF.fin {Q s : Int} {G : Int → Int} {T v : Int} {st : Int × List (Int × Int)} (h : InvF Q s G T v st) (h0 : 0 ≤ T) (hT : T ≤ 1099511627776) (hG : ∀ t, T ≤ t → t < 1099511627776 → G t = v) :
    Apart 0 1099511627776 (finA st) ∧ ∀ t, 0 ≤ t → t < 1099511627776 → (Cov (finA st) t ↔ G t + s ≤ Q) := by
  obtain ⟨fr, out⟩ := st
  obtain ⟨hap, hfr, hcov, hnow⟩ := h
  dsimp only at hap hfr hcov hnow
  unfold finA
  dsimp only
  by_cases ho : 0 ≤ fr ∧ fr < 1099511627776
  · rw [if_pos ho]
    have hf : fr ≤ T ∧ ∀ u ∈ out, u.2 < fr := by rcases hfr with h | h; omega; exact h.2
    refine ⟨apart_snoc hap hT ⟨ho.1, ho.2, Int.le_refl _⟩ hf.2, fun t ht ht2 => ?_⟩
    rw [cov_snoc]
    dsimp only
    by_cases c : t < T
    · rw [← hcov t ht c]
      constructor
      · rintro (h | h)
        · exact .inl h
        · exact .inr ⟨ho.1, h.1⟩
      · rintro (h | h)
        · exact .inl h
        · exact .inr ⟨h.2, ht2⟩
    · rw [hG t (by omega) ht2]
      have := hnow.1 ho.1
      constructor
      · intro _; exact this
      · intro _; exact .inr ⟨by omega, ht2⟩
  · rw [if_neg ho]
    refine ⟨apart_mono hap hT, fun t ht ht2 => ?_⟩
    by_cases c : t < T
    · rw [← hcov t ht c]
      constructor
      · exact fun h => .inl h
      · rintro (h | h)
        · exact h
        · omega
    · rw [hG t (by omega) ht2]
      constructor
      · rintro ⟨u, hu, h⟩
        have := hap.ok u hu; omega
      · intro h
        have := hnow.2 h
        exact absurd ⟨this, by rcases hfr with k | k <;> omega⟩ ho
theorem free_fold2 {Q s : Int} {G : Int → Int} : ∀ {f : List Lv} {p T v : Int} {st : Int × List (Int × Int)}, AscT p f → InvF Q s G T v st → 0 ≤ T → T ≤ 1099511627776 → (T = p ∨ (p = -1 ∧ T = 0 ∧ st.2 = [])) → (∀ t, T ≤ t → G t = vat v f t) →
    Apart 0 1099511627776 (finA (f.foldl (frL Q s) st)) ∧ ∀ t, 0 ≤ t → t < 1099511627776 → (Cov (finA (f.foldl (frL Q s) st)) t ↔ G t + s ≤ Q)
  | [], p, T, v, st, _, h, h0, h1, _, hG => h.fin h0 h1 (fun t ht _ => hG t ht)
  | x :: f, p, T, v, st, hA, h, h0, h1, hp, hG => by
    have hxa : p < x.a ∧ x.a ≤ 1099511627776 := hA.gt x (by simp)
    have hA2 : AscT x.a f := hA.2.2
    have hv1 : ∀ t, T ≤ t → t < x.a → G t = v := fun t ht h2 => by
      rw [hG t ht]
      exact vat_late (x :: f) v t (fun l hl => by simp at hl; subst hl; exact h2)
    rw [List.foldl_cons]
    by_cases c : x.a < 1099511627776
    · have e : frL Q s st x = frA Q s st x.a x.v := by unfold frL; rw [if_pos c]
      rw [e]
      refine free_fold2 (p := x.a) (T := x.a) (v := x.v) hA2 (h.step h0 (by rcases hp with h | ⟨h, k, m⟩; exact .inl (by omega); exact if c : T < x.a then .inl c else .inr ⟨by omega, m⟩) hv1) (by omega) hxa.2 (.inl rfl) (fun t ht => ?_)
      rw [hG t (by omega)]
      have := vat_append [x] f v t (by simpa using ht)
      rw [List.singleton_append] at this
      have e2 : vat v [x] t = x.v := vat_last [] x v t (by simp) ht
      rw [this, e2]
    · have e : frL Q s st x = st := by unfold frL; rw [if_neg c]
      have hf : f = [] := by
        cases f with
        | nil => rfl
        | cons y f => have := hA2.gt y (by simp); omega
      subst hf
      rw [e]
      exact h.fin h0 h1 (fun t ht h2 => hv1 t ht (by omega))
theorem free_exact {Q s : Int} {f : List Lv} (hA : AscT (-1) f) : Apart 0 1099511627776 (freeP Q s f) ∧ ∀ t, 0 ≤ t → t < 1099511627776 → (Cov (freeP Q s f) t ↔ val f t + s ≤ Q) := by
  unfold freeP
  refine free_fold2 (G := val f) (p := -1) (T := 0) (v := 0) hA ?_ (by omega) (by omega) ?_ (fun t _ => rfl)
  · unfold frA
    by_cases c : Q - 0 < s
    · rw [if_pos c]
      exact ⟨⟨by simp, by simp⟩, .inl rfl, fun t h1 h2 => by omega, by constructor <;> intro h <;> dsimp only at * <;> omega⟩
    · rw [if_neg c]
      exact ⟨⟨by simp, by simp⟩, .inr ⟨by simp, by simp, by simp⟩, fun t h1 h2 => by omega, by constructor <;> intro h <;> simp at * <;> omega⟩
  · refine .inr ⟨rfl, rfl, ?_⟩
    unfold frA
    by_cases c : Q - 0 < s
    · rw [if_pos c]; rfl
    · rw [if_neg c]
theorem stored_const {n a b : Int} (hab : a ≤ b) : ∀ {l : List Hd}, (∀ y ∈ tmH l n, ¬ (a < y ∧ y ≤ b)) → stored l n b = stored l n a
  | [], _ => rfl
  | h :: l, H => by
    have ih := stored_const hab (l := l) (fun y hy => H y (by
      obtain ⟨g, hg, k⟩ := mem_tmH.1 hy
      exact mem_tmH.2 ⟨g, by simp [hg], k⟩))
    simp only [stored, ih]
    by_cases hn : h.n = n
    · have h1 := H h.a (mem_tmH.2 ⟨h, by simp, hn, .inl rfl⟩)
      have h2 := H h.b (mem_tmH.2 ⟨h, by simp, hn, .inr rfl⟩)
      simp only [hn, true_and]
      split <;> split <;> omega
    · simp only [hn, false_and, if_false]
theorem lvH_val {l : List Hd} {n : Int} {nq : Nat} (hok : ∀ h ∈ l, okHd nq h) {t : Int} (ht : -1 ≤ t) : val (lvH l n) t = stored l n t := by
  obtain ⟨h1, h2⟩ := hts_sa l n
  have e0 : stored l n (-1) = 0 := stored_early (fun h hl hn => by have := (hok h hl).2.1; omega)
  unfold lvH val
  rw [vat_comb h1]
  have := tv_eq (F := stored l n) (p := -1) (t := t) h1 (fun x hx => by
    obtain ⟨h, hl, _, hx⟩ := mem_tmH.1 ((h2 x).1 hx)
    have := (hok h hl).2.1
    omega) ht (fun a b _ hab hy => stored_const hab (fun y hm => hy y ((h2 y).2 hm)))
  rw [e0] at this
  exact this
/-- the free spans of a node, for holds -/
theorem free_holds {l : List Hd} {n Q s : Int} {nq : Nat} (hok : ∀ h ∈ l, okHd nq h) (hl : l.length ≤ 600) : Apart 0 1099511627776 (freeP Q s (lvH l n)) ∧ ∀ t, 0 ≤ t → t < 1099511627776 → (Cov (freeP Q s (lvH l n)) t ↔ stored l n t + s ≤ Q) := by
  obtain ⟨h1, h2⟩ := free_exact (Q := Q) (s := s) (lvH_asc (n := n) hok hl)
  refine ⟨h1, fun t ht ht2 => ?_⟩
  rw [h2 t ht ht2, lvH_val hok (by omega)]
end Go.Step
/- Laws on holds: some released, one more, in whatever order. No program in sight. No conditions. -/
namespace Go.Step
theorem chkH_of {qs : List Int} {cs : List Ct} {l : List Hd} (hp : chkPl qs cs = 0) (hl : l.length ≤ 512) (hok : ∀ x ∈ l, okHd qs.length x) (hs : SortH l) (hf : fitB qs l = true) : chkH qs cs l = 0 := by
  unfold chkH
  rw [if_neg (by simpa using hp), if_neg (by omega), if_neg (by simpa using sortH_first hok hs), if_pos hf]
theorem fit_filter {qs : List Int} {l : List Hd} (p : Hd → Bool) (hok : ∀ x ∈ l, okHd qs.length x) (hf : fitB qs l = true) : fitB qs (l.filter p) = true := by
  rw [fitB_iff] at *
  intro h hh
  have h1 := hf h (List.mem_filter.1 hh).1
  have h2 := stored_filter p h.n h.a l (fun x hx => by have := (hok x hx).2.2.1; omega)
  omega
theorem rel_ins {l : List Hd} {h : Hd} (hn : ∀ x ∈ l, x.k ≠ h.k) : relH (insH l h) h.k = l := by
  have e := List.takeWhile_append_dropWhile (p := fun x => decide (cmpHd x h ≤ 0)) (l := l)
  unfold relH insH insW
  rw [List.filter_append, List.filter_cons_of_neg (by simp), ← List.filter_append, e]
  exact List.filter_eq_self.2 (fun x hx => by simpa using hn x hx)
theorem relH_none (l : List Hd) (k : Int) : ∀ x ∈ relH l k, x.k ≠ k := fun x hx => by
  have := (List.mem_filter.1 hx).2
  simpa using this
/-- what fits at the beginnings fits always -/
theorem fits_t {l : List Hd} {n Q : Int} {nq : Nat} (hok : ∀ h ∈ l, okHd nq h) (hQ : 0 ≤ Q) : (∀ h ∈ l, h.n = n → stored l n h.a ≤ Q) ↔ ∀ t, stored l n t ≤ Q := by
  constructor
  · intro H t
    rcases last_active (n := n) (t := t) l with c | ⟨h, hl, k1, k2, k3⟩
    · have : stored l n t ≤ stored l n (-1) := stored_mono (fun g hg => ⟨by have := (hok g hg).2.2.1; omega, fun a b d => absurd ⟨b, d⟩ (c g hg a)⟩)
      have e0 : stored l n (-1) = 0 := stored_early (fun h hl hn => by have := (hok h hl).2.1; omega)
      omega
    · have : stored l n t ≤ stored l n h.a := stored_mono (fun g hg => ⟨by have := (hok g hg).2.2.1; omega, fun a b d => ⟨k3 g hg a b d, by omega⟩⟩)
      have := H h hl k1
      omega
  · exact fun H h _ _ => H h.a
theorem fit_iff_t {qs : List Int} {l : List Hd} {h : Hd} (hok : ∀ x ∈ l, okHd qs.length x) (hh : okHd qs.length h) (hf : fitB qs l = true) (hQ : 0 ≤ qs.getD h.n.toNat 0) :
    fitB qs (insH l h) = true ↔ ∀ t, h.a ≤ t → t < h.b → stored l h.n t + h.s ≤ qs.getD h.n.toNat 0 := by
  have hok2 : ∀ x ∈ insH l h, okHd qs.length x := fun x hx => by
    rcases (insW_mem _ l h x).1 hx with rfl | hx
    · exact hh
    · exact hok x hx
  rw [fit_ins hok hh hf hQ, decide_eq_true_iff, most_fits hok2 hQ, fits_t hok2 hQ]
  have hl : ∀ t, stored l h.n t ≤ qs.getD h.n.toNat 0 := (fits_t hok hQ).1 (fun x hx e => by
    have := fitB_iff.1 hf x hx
    rw [e] at this; exact this)
  constructor
  · intro H t h1 h2
    have := H t
    rw [stored_ins, if_pos ⟨rfl, h1, h2⟩] at this
    exact this
  · intro H t
    rw [stored_ins]
    by_cases c : h.a ≤ t ∧ t < h.b
    · rw [if_pos ⟨rfl, c⟩]; exact H t c.1 c.2
    · rw [if_neg (fun k => c k.2)]; have := hl t; omega
def insideB (F : List (Int × Int)) (a b : Int) : Bool := F.any (fun s => decide (s.1 ≤ a) && decide (b ≤ s.2))
theorem inside_iff {F : List (Int × Int)} (hF : Apart 0 1099511627776 F) {a b : Int} (hab : a < b) : insideB F a b = true ↔ ∀ t, a ≤ t → t < b → Cov F t := by
  unfold insideB
  rw [List.any_eq_true]
  constructor
  · rintro ⟨s, hs, h⟩ t h1 h2
    simp only [Bool.and_eq_true, decide_eq_true_eq] at h
    exact ⟨s, hs, by omega, by omega⟩
  · intro H
    obtain ⟨s, hs, h1, h2⟩ := cov_one hF hab H
    exact ⟨s, hs, by simp [h1, h2]⟩
/-- one more fits exactly if it lies within a free span -/
theorem add_inside {qs : List Int} {l : List Hd} {h : Hd} (hok : ∀ x ∈ l, okHd qs.length x) (hh : okHd qs.length h) (hf : fitB qs l = true) (hQ : 0 ≤ qs.getD h.n.toNat 0) (hl : l.length ≤ 600) :
    fitB qs (insH l h) = insideB (freeP (qs.getD h.n.toNat 0) h.s (lvH l h.n)) h.a h.b := by
  obtain ⟨k1, k2⟩ := free_holds (n := h.n) (Q := qs.getD h.n.toNat 0) (s := h.s) hok hl
  have hab := hh.2.1
  rw [Bool.eq_iff_iff, fit_iff_t hok hh hf hQ, inside_iff k1 hab.2.1]
  constructor
  · intro H t h1 h2
    exact (k2 t (by omega) (by omega)).2 (H t h1 h2)
  · intro H t h1 h2
    exact (k2 t (by omega) (by omega)).1 (H t h1 h2)
theorem insH_perm (l : List Hd) (h : Hd) : (insH l h).Perm (h :: l) := by
  have e := List.takeWhile_append_dropWhile (p := fun x => decide (cmpHd x h ≤ 0)) (l := l)
  have := List.perm_middle (a := h) (l₁ := l.takeWhile (fun x => decide (cmpHd x h ≤ 0))) (l₂ := l.dropWhile (fun x => decide (cmpHd x h ≤ 0)))
  rw [e] at this
  exact this
theorem ins_comm {l : List Hd} (hs : SortH l) (a b : Hd) : insH (insH l a) b = insH (insH l b) a := by
  refine List.Perm.eq_of_pairwise (le := fun x y => cmpHd x y ≤ 0) (fun x y _ _ h1 h2 => cmpHd_anti (by have := cmpHd_neg x y; omega)) (insH_sort (insH_sort hs a) b) (insH_sort (insH_sort hs b) a) ?_
  exact ((insH_perm _ b).trans ((insH_perm l a).cons b)).trans ((List.Perm.swap a b l).trans ((((insH_perm l b).cons a).symm).trans (insH_perm _ a).symm))
theorem add_ok {qs : List Int} {cs : List Ct} {l : List Hd} {h : Hd} (h0 : chkH qs cs l = 0) (hl : l.length < 512) (hok : ∀ x ∈ l, okHd qs.length x) (hs : SortH l) (hp : chkPl qs cs = 0) (hh : okHd qs.length h) (hf : fitB qs (insH l h) = true) : chkH qs cs (insH l h) = 0 :=
  chkH_of hp (by rw [show (insH l h).length = l.length + 1 from insW_len _ _ _]; omega) (fun x hx => by
    rcases (insW_mem _ l h x).1 hx with rfl | hx
    · exact hh
    · exact hok x hx) (insH_sort hs h) hf
theorem add_res {qs : List Int} {cs : List Ct} {l : List Hd} {h : Hd} (h0 : chkH qs cs l = 0) (hl : l.length < 512) (hh : okHd qs.length h) : addR qs cs l h = if fitB qs (insH l h) then (insH l h, 0) else ([], 15) := by
  unfold addR
  rw [if_neg (fun h => h h0), if_neg (fun h => h hh), if_neg (by omega)]
end Go.Step
/- Bookings of contacts; tables. No program in sight. No conditions. -/
namespace Go.Step
/-- a booking: contact, begin, end, ticket -/
structure Bk where
  c : Int
  a : Int
  b : Int
  k : Int
deriving DecidableEq
def okBk (cs : List Ct) (x : Bk) : Prop := (0 ≤ x.c ∧ x.c < cs.length ∧ 0 ≤ x.k ∧ x.k ≤ 1152921504606846976) ∧ ∃ c, cs[x.c.toNat]? = some c ∧ c.s ≤ x.a ∧ x.a < x.b ∧ x.b ≤ c.e
def okBkB (cs : List Ct) (x : Bk) : Bool := decide (0 ≤ x.c ∧ x.c < cs.length ∧ 0 ≤ x.k ∧ x.k ≤ 1152921504606846976) && (match cs[x.c.toNat]? with
  | some c => decide (c.s ≤ x.a ∧ x.a < x.b ∧ x.b ≤ c.e)
  | none => false)
theorem okBkB_iff (cs : List Ct) (x : Bk) : okBkB cs x = true ↔ okBk cs x := by
  unfold okBkB okBk
  rw [Bool.and_eq_true, decide_eq_true_iff]
  cases h : cs[x.c.toNat]? with
  | none => simp
  | some c => simp
def cmpBk (x y : Bk) : Int := orI [cmpI x.c y.c, cmpI x.a y.a]
theorem cmpBk_lt (x y : Bk) : cmpBk x y < 0 ↔ x.c < y.c ∨ (x.c = y.c ∧ x.a < y.a) := by
  unfold cmpBk
  rcases orI_cmp x.c y.c [cmpI x.a y.a] with ⟨h1, e⟩ | ⟨h1, e⟩ | ⟨h1, e⟩
  · rw [e]; omega
  · rw [e]
    rcases orI_cmp x.a y.a [] with ⟨h2, e⟩ | ⟨h2, e⟩ | ⟨h2, e⟩
    · rw [e]; omega
    · rw [e]; simp only [orI]; omega
    · rw [e]; omega
  · rw [e]; omega
/-- what is wrong with a booking behind another one -/
def bk2E (p x : Bk) : Int := if ¬ cmpBk p x < 0 then 9 else if p.c = x.c ∧ x.a < p.b then 14 else 0
def bkE (cs : List Ct) (l : List Bk) (i : Nat) : Int := match l[i]? with
  | some x => if okBkB cs x = false then 2 else if i = 0 then 0 else bk2E (l.getD (i - 1) x) x
  | none => 0
theorem bkE_at {cs : List Ct} {l : List Bk} {i : Nat} {x : Bk} (e : l[i]? = some x) : bkE cs l i = if okBkB cs x = false then 2 else if i = 0 then 0 else bk2E (l.getD (i - 1) x) x := by unfold bkE; rw [e]
/-- what is wrong with bookings -/
def chkB (qs : List Int) (cs : List Ct) (l : List Bk) : Int :=
  if chkPl qs cs ≠ 0 then 1 else if 512 < l.length then 4 else firstE (bkE cs l) l.length
/-- .. with tables -/
def chkT (qs : List Int) (cs : List Ct) (bs : List Bk) (hs : List Hd) : Int :=
  if chkPl qs cs ≠ 0 then chkPl qs cs else if chkB qs cs bs ≠ 0 then chkB qs cs bs else chkH qs cs hs
def busyL (l : List Bk) (c : Int) : List (Int × Int) := (l.filter (fun x => decide (x.c = c))).map (fun x => (x.a, x.b))
theorem busyL_next (c : Int) {l : List Bk} {k : Nat} {x : Bk} (h : l[k]? = some x) : busyL (l.take (k + 1)) c = busyL (l.take k) c ++ (if x.c = c then [(x.a, x.b)] else []) := by
  obtain ⟨hk, rfl⟩ := List.getElem?_eq_some_iff.1 h
  unfold busyL
  rw [List.take_succ_eq_append_getElem hk, List.filter_append, List.map_append]
  congr 1
  by_cases e : l[k].c = c
  · simp [e]
  · simp [e]
theorem busyL_len (l : List Bk) (c : Int) : (busyL l c).length ≤ l.length := by
  unfold busyL
  rw [List.length_map]
  exact List.length_filter_le _ _
def bookedB (l : List Bk) (c t : Int) : Bool := (busyL l c).any (fun x => decide (x.1 ≤ t) && decide (t < x.2))
theorem bkE_ok {cs : List Ct} {l : List Bk} (h : firstE (bkE cs l) l.length = 0) : ∀ x ∈ l, okBk cs x := fun x hx => by
  obtain ⟨i, hi, rfl⟩ := List.getElem_of_mem hx
  have h2 := firstE_zero h i hi
  rw [bkE_at (List.getElem?_eq_getElem hi)] at h2
  cases hc : okBkB cs l[i] with
  | true => exact (okBkB_iff _ _).1 hc
  | false => rw [if_pos hc] at h2; omega
theorem chkT_ok {qs : List Int} {cs : List Ct} {bs : List Bk} {hs : List Hd} (h : chkT qs cs bs hs = 0) : chkPl qs cs = 0 ∧ chkB qs cs bs = 0 ∧ chkH qs cs hs = 0 := by
  unfold chkT at h
  by_cases h1 : chkPl qs cs = 0
  · rw [if_neg (by simpa using h1)] at h
    by_cases h2 : chkB qs cs bs = 0
    · rw [if_neg (by simpa using h2)] at h
      exact ⟨h1, h2, h⟩
    · rw [if_pos h2] at h; exact absurd h h2
  · rw [if_pos h1] at h; exact absurd h h1
theorem chkB_ok {qs : List Int} {cs : List Ct} {bs : List Bk} (h : chkB qs cs bs = 0) : bs.length ≤ 512 ∧ firstE (bkE cs bs) bs.length = 0 := by
  unfold chkB at h
  by_cases h1 : chkPl qs cs = 0
  · rw [if_neg (by simpa using h1)] at h
    by_cases h2 : 512 < bs.length
    · rw [if_pos h2] at h; omega
    · rw [if_neg h2] at h; exact ⟨by omega, h⟩
  · rw [if_pos h1] at h; omega
end Go.Step
