/- The operations on memory, each with its rule. No conditions. -/
import Derived.Test.YtnbihndlbopmeaaWMbOps
set_option linter.all false
namespace Go.Eng
variable {C : Cx} {D : List Deferred} {R H : List PH} {L : Env} {K : List It}
variable {dst : Option Tmp} {ty : TypeId} {pos : String} {aft : Array Edge} {g : Option (Nat × Bool)}

/-- a cell of a partial heap -/
def rdc (ρ : PH) (b o : Nat) : Option Value := match ρ b with
  | some (.cells c _ _) => c[o]?
  | _ => none
theorem rdc_sng (b o : Nat) (c : Array Value) (t : TypeId) (fr : Nat × Nat) : rdc (sng b (.cells c t fr)) b o = c[o]? := by simp [rdc, sng]
theorem rdc_cell {ρ : PH} {w : World} {b o : Nat} {v : Value} (h : ρ.le w) (hv : rdc ρ b o = some v) : w.cell? ⟨b, o, none⟩ = some v := by
  unfold rdc at hv
  cases hr : ρ b with
  | none => simp [hr] at hv
  | some ob =>
    rw [hr] at hv
    have := h b ob hr
    cases ob <;> simp at hv
    simp [World.cell?, this, hv]
/-- what is read at an address, whatever the rest of memory -/
def Cell (N : Bs) (R H : List PH) (b o : Nat) (v : Value) : Prop := ∀ w, Sat N R H w → w.cell? ⟨b, o, none⟩ = some v
theorem cell_H {N : Bs} {ρ : PH} {b o : Nat} {v : Value} (m : Mem ρ H) (h : rdc ρ b o = some v) : Cell N R H b o v := fun _ hs => rdc_cell (hs.h ρ m.mem) h
theorem cell_R {N : Bs} {ρ : PH} {b o : Nat} {v : Value} (m : Mem ρ R) (h : rdc ρ b o = some v) : Cell N R H b o v := fun _ hs => rdc_cell (hs.r ρ m.mem) h
theorem cell_own {N : Bs} {b o : Nat} {c : Array Value} {t : TypeId} {fr : Nat × Nat} {v : Value} (m : Mem (sng b (.cells c t fr)) H) (h : c[o]? = some v) : Cell N R H b o v :=
  cell_H m (by rw [rdc_sng]; exact h)

theorem q_load {x : Operand} {t : TypeId} {b o : Nat} {v : Value} (h : evalE L x = some (.pointer (some ⟨b, o, none⟩))) (ht : aggP C.P t = some false) (hc : Cell C.N R H b o v) :
    Quiet C R H L ⟨dst, .load t x, ty, pos, aft, g⟩ v :=
  ⟨by intro c; simp, fun a w hx hs => by
    simp [execOp, hx x (by simp [Op.operands]) _ h, Instr.loadAt, Instr.sureAddr, loadVar, run_isAgg ht, hc w hs]⟩
/-- several cells in a row -/
def Cells (N : Bs) (R H : List PH) (b o : Nat) (vs : List Value) : Prop := ∀ w, Sat N R H w → ∀ j v, vs[j]? = some v → w.cell? ⟨b, o + j, none⟩ = some v
theorem cells_nil {N : Bs} {b o : Nat} : Cells N R H b o [] := by intro w _ j v h; simp at h
theorem cells_cons {N : Bs} {b o : Nat} {v : Value} {vs : List Value} (h : Cell N R H b o v) (h' : Cells N R H b (o + 1) vs) : Cells N R H b o (v :: vs) := by
  intro w hs j u hu
  cases j with
  | zero => simp at hu; subst hu; exact h w hs
  | succ j => simp at hu; have := h' w hs j u hu; rw [Nat.add_right_comm, Nat.add_assoc] at this; exact this
theorem cells_own {N : Bs} {b : Nat} {vs : List Value} {t : TypeId} {fr : Nat × Nat} (m : Mem (sng b (.cells vs.toArray t fr)) H) : Cells N R H b 0 vs := by
  intro w hs j v hv
  rw [Nat.zero_add]
  exact cell_own (R := R) (N := N) m (by simpa using hv) w hs
theorem q_loadA {x : Operand} {t : TypeId} {b o : Nat} {vs : List Value} (h : evalE L x = some (.pointer (some ⟨b, o, none⟩))) (ht : aggP C.P t = some true) (hn : szP C.P t = some vs.length) (hc : Cells C.N R H b o vs) :
    Quiet C R H L ⟨dst, .load t x, ty, pos, aft, g⟩ (.agg vs.toArray) :=
  ⟨by intro c; simp, fun a w hx hs => by
    have hl := run_loadCells_list (P := C.P) (w := w) ⟨b, o, none⟩ vs (fun j v hv => by rw [Addr.add_lit]; exact hc w hs j v hv)
    simp [execOp, hx x (by simp [Op.operands]) _ h, Instr.loadAt, Instr.sureAddr, loadVar, run_isAgg ht, run_sizeOf hn, hl]⟩

theorem run_fieldAt {P : Program} {s : TypeId} {f off : Nat} {b o : Nat} (h : fldP P s f = some off) (w : World) : (Instr.fieldAt s (.pointer (some ⟨b, o, none⟩)) f).run P w = .ok (.pointer (some ⟨b, o + off, none⟩)) w := by
  unfold fldP at h
  split at h
  · rename_i fs hu
    split at h
    · rename_i fd hfd
      split at h
      · rename_i n hn
        simp at h; subst h
        simp [Instr.fieldAt, run_underlying hu, hfd, Instr.sureAddr, fieldPlace, run_sizeOf hn, Addr.add]
      · simp at h
    · simp at h
  · simp at h
theorem q_fld {x : Operand} {s : TypeId} {f off : Nat} {b o : Nat} (h : evalE L x = some (.pointer (some ⟨b, o, none⟩))) (hf : fldP C.P s f = some off) :
    Quiet C R H L ⟨dst, .fieldAddr s x f, ty, pos, aft, g⟩ (.pointer (some ⟨b, o + off, none⟩)) :=
  ⟨by intro c; simp, fun a w hx _ => by simp [execOp, hx x (by simp [Op.operands]) _ h, run_fieldAt hf]⟩
theorem q_fld0 {x : Operand} {s : TypeId} {f off : Nat} {b : Nat} (h : evalE L x = some (.pointer (some ⟨b, 0, none⟩))) (hf : fldP C.P s f = some off) :
    Quiet C R H L ⟨dst, .fieldAddr s x f, ty, pos, aft, g⟩ (.pointer (some ⟨b, off, none⟩)) := by
  have := q_fld (C := C) (R := R) (H := H) (dst := dst) (ty := ty) (pos := pos) (aft := aft) (g := g) h hf
  rwa [Nat.zero_add] at this
/-- a part of a struct's value -/
def partP (P : Program) (s : TypeId) (f : Nat) (cs : Array Value) : Option Value := match P.underlying s with
  | some (.struct fs) => match fs[f]? with
    | some fd => match aggP P fd.type, szP P fd.type with
      | some true, some n => some (.agg (cs.extract fd.offset (fd.offset + n)))
      | some false, _ => cs[fd.offset]?
      | _, _ => none
    | none => none
  | _ => none
theorem q_field {x : Operand} {s : TypeId} {f : Nat} {cs : Array Value} {v : Value} (h : evalE L x = some (.agg cs)) (hf : partP C.P s f cs = some v) :
    Quiet C R H L ⟨dst, .field s x f, ty, pos, aft, g⟩ v :=
  ⟨by intro c; simp, fun a w hx _ => by
    unfold partP at hf
    split at hf
    · rename_i fs hu
      split at hf
      · rename_i fd hfd
        split at hf
        · rename_i n ha hn
          simp at hf; subst hf
          simp [execOp, hx x (by simp [Op.operands]) _ h, Instr.field, run_underlying hu, hfd, asAgg, part, run_isAgg ha, run_sizeOf hn]
        · rename_i ha
          simp [execOp, hx x (by simp [Op.operands]) _ h, Instr.field, run_underlying hu, hfd, asAgg, part, run_isAgg ha, hf]
        · simp at hf
      · simp at hf
    · simp at hf⟩
theorem q_idx {x y : Operand} {t e : TypeId} {b o n c s : Nat} {k : IntKind} {i : Int} (h : evalE L x = some (.slice (some ⟨b, o, none⟩) n c)) (h2 : evalE L y = some (.int k i)) (ht : elemP C.P t = some e) (hs : szP C.P e = some s)
    (h0 : 0 ≤ i) (hn : i < (n : Int)) : Quiet C R H L ⟨dst, .indexAddr t x y, ty, pos, aft, g⟩ (.pointer (some ⟨b, o + i.toNat * s, none⟩)) :=
  ⟨by intro c; simp, fun a w hx _ => by
    simp [execOp, hx x (by simp [Op.operands]) _ h, hx y (by simp [Op.operands]) _ h2, Instr.indexAt, asIntOf, run_underlying (und_elem ht), h0, hn, run_sizeOf hs, Addr.add]⟩
/-- the index a natural number, elements of one cell -/
theorem q_idx1 {x y : Operand} {t e : TypeId} {b o n c : Nat} {k : IntKind} {i : Nat} (h : evalE L x = some (.slice (some ⟨b, o, none⟩) n c)) (h2 : evalE L y = some (.int k (i : Int))) (ht : elemP C.P t = some e) (hs : szP C.P e = some 1)
    (hn : i < n) : Quiet C R H L ⟨dst, .indexAddr t x y, ty, pos, aft, g⟩ (.pointer (some ⟨b, o + i, none⟩)) := by
  have := q_idx (C := C) (R := R) (H := H) (dst := dst) (ty := ty) (pos := pos) (aft := aft) (g := g) h h2 ht hs (by omega) (by omega)
  simpa using this
theorem q_idxN {x y : Operand} {t e : TypeId} {b o n c s : Nat} {k : IntKind} {i : Nat} (h : evalE L x = some (.slice (some ⟨b, o, none⟩) n c)) (h2 : evalE L y = some (.int k (i : Int))) (ht : elemP C.P t = some e) (hs : szP C.P e = some s)
    (hn : i < n) : Quiet C R H L ⟨dst, .indexAddr t x y, ty, pos, aft, g⟩ (.pointer (some ⟨b, o + i * s, none⟩)) := by
  have := q_idx (C := C) (R := R) (H := H) (dst := dst) (ty := ty) (pos := pos) (aft := aft) (g := g) h h2 ht hs (by omega) (by omega)
  simpa using this

/-! #### new blocks, stores -/
theorem Sat.alloc {N : Bs} {w : World} (h : Sat N R H w) (o : Obj) : Sat N R (sng w.heap.size o :: H) (w.alloc o) := by
  have hn : ∀ ρ : PH, ρ.le w → ρ.le (w.alloc o) := fun ρ hr b ob hb => by
    have h1 := hr b ob hb
    rw [heap_alloc_old w o (hr.lt (by simp [hb]))]; exact h1
  have hd : ∀ ρ : PH, ρ.le w → ρ.disj (sng w.heap.size o) := fun ρ hr b => by
    by_cases e : ρ b = none
    · exact .inl e
    · right
      have := hr.lt e
      simp [sng]; omega
  refine ⟨⟨by simp; have := h.sz.1; omega, h.sz.2⟩, fun ρ hr => hn ρ (h.r ρ hr), fun ρ hr => ?_, List.pairwise_cons.2 ⟨fun ρ hr => (hd ρ (h.h ρ hr)).symm, h.hd⟩, fun ρ hr σ hs => ?_⟩
  · simp at hr
    rcases hr with rfl | hr
    · intro b ob hb
      obtain ⟨rfl, rfl⟩ := sng_some hb
      exact heap_alloc_new w _
    · exact hn ρ (h.h ρ hr)
  · simp at hs
    rcases hs with rfl | hs
    · exact hd ρ (h.r ρ hr)
    · exact h.rd ρ hr σ hs
theorem wpIn_value {o : Oper} {a : Act} {w w' : World} {v : Value} {next : Act → World → Prop} {Q : Exit → Act → World → Prop} (hnd : ∀ c, o.op ≠ .defer c)
    (hr : (execOp a.eval o).run C.P w = .ok (.value v) w') (h : next (a.put o.dst v) w') : o.wpIn (wideR C.r) 0 C.P a w next Q := by
  refine ⟨fun _ _ => trivial, ?_⟩
  rw [Oper.semAt_eq _ _ _ hnd, hr]; exact h
theorem wpIn_skipv {o : Oper} {a : Act} {w w' : World} {next : Act → World → Prop} {Q : Exit → Act → World → Prop} (hnd : ∀ c, o.op ≠ .defer c)
    (hr : (execOp a.eval o).run C.P w = .ok .skip w') (h : next (a.put o.dst undef) w') : o.wpIn (wideR C.r) 0 C.P a w next Q := by
  refine ⟨fun _ _ => trivial, ?_⟩
  rw [Oper.semAt_eq _ _ _ hnd, hr]; exact h
theorem l_alloc {t : TypeId} {z : Value} (hz : zeroP C.P t = some z) :
    Loud C R H L ⟨dst, .alloc t, ty, pos, aft, g⟩ (fun v H' => ∃ b, v = .pointer (some ⟨b, 0, none⟩) ∧ H' = sng b (.cells z.cells t (0, 0)) :: H) := by
  refine ⟨fun a w hx hs next Q hn => ?_⟩
  refine wpIn_value (v := .pointer (some ⟨w.heap.size, 0, none⟩)) (w' := w.alloc (.cells z.cells t (0, 0))) (by intro c; simp) ?_ (hn _ _ _ ⟨_, rfl, rfl⟩ (hs.alloc _))
  simp [execOp, Instr.alloc, run_zeroValue hz, newVar, newRow, newObj]
  rfl
theorem l_box {t : TypeId} {x : Operand} {v : Value} (hv : evalE L x = some v) :
    Loud C R H L ⟨dst, .box t x, ty, pos, aft, g⟩ (fun u H' => ∃ b, u = .pointer (some ⟨b, 0, none⟩) ∧ H' = sng b (.cells v.cells t (0, 0)) :: H) := by
  refine ⟨fun a w hx hs next Q hn => ?_⟩
  refine wpIn_value (v := .pointer (some ⟨w.heap.size, 0, none⟩)) (w' := w.alloc (.cells v.cells t (0, 0))) (by intro c; simp) ?_ (hn _ _ _ ⟨_, rfl, rfl⟩ (hs.alloc _))
  simp [execOp, Instr.box, hx x (by simp [Op.operands]) _ hv, newVar, newRow, newObj]
  rfl
/-- a block is turned -/
theorem Sat.turn {N : Bs} {w w' : World} {b : Nat} {o o' : Obj} {H' : List PH} (h : Sat N R H w) (t : Take (sng b o) H H') (hs : w'.heap.size = w.heap.size) (hb : w'.heap[b]? = some o') (ho : ∀ k, k ≠ b → w'.heap[k]? = w.heap[k]?) (hio : w'.os = w.os ∧ w'.output = w.output ∧ w'.tape = w.tape := by exact ⟨rfl, rfl, rfl⟩) : Sat N R (sng b o' :: H') w' := by
  have h1 := h.take t
  have hd1 := List.pairwise_cons.1 h1.hd
  have keep : ∀ ρ : PH, ρ.disj (sng b o) → ρ.le w → ρ.le w' := fun ρ hd hr k ob hk => by
    have hne : k ≠ b := fun e => by
      subst e
      rcases hd k with h2 | h2
      · rw [h2] at hk; simp at hk
      · simp [sng_self] at h2
    rw [ho k hne]; exact hr k ob hk
  have dj : ∀ ρ : PH, ρ.disj (sng b o) → ρ.disj (sng b o') := fun ρ hd k => by
    rcases hd k with h2 | h2
    · exact .inl h2
    · right
      unfold sng at h2 ⊢
      split at h2
      · simp at h2
      · rename_i hk; rw [if_neg hk]
  refine ⟨by rw [hs, hio.1, hio.2.1, hio.2.2]; exact h.sz, fun ρ hr => keep ρ (h1.rd ρ hr _ (by simp)) (h.r ρ hr), fun ρ hr => ?_, List.pairwise_cons.2 ⟨fun ρ hr => (dj ρ (hd1.1 ρ hr).symm).symm, hd1.2⟩, fun ρ hr σ hσ => ?_⟩
  · simp at hr
    rcases hr with rfl | hr
    · intro k ob hk
      obtain ⟨rfl, rfl⟩ := sng_some hk
      exact hb
    · exact keep ρ (hd1.1 ρ hr).symm (h.h ρ (t.sub ρ hr))
  · simp at hσ
    rcases hσ with rfl | hσ
    · exact dj ρ (h1.rd ρ hr _ (by simp))
    · exact h.rd ρ hr σ (t.sub σ hσ)
theorem Sat.own {N : Bs} {w : World} {b : Nat} {o : Obj} {H' : List PH} (h : Sat N R H w) (t : Take (sng b o) H H') : w.heap[b]? = some o := h.h _ t.mem b o (sng_self b o)
/-- one cell is written -/
theorem l_store {t T : TypeId} {x y : Operand} {b o : Nat} {c : Array Value} {v : Value} {H' : List PH} (h : evalE L x = some (.pointer (some ⟨b, o, none⟩))) (hv : evalE L y = some v) (h1 : v.oneCell' = true) (hn : szP C.P t = some 1)
    (ht : Take (sng b (.cells c T (0, 0))) H H') (ho : o < c.size) :
    Loud C R H L ⟨dst, .store t x y, ty, pos, aft, g⟩ (fun u H2 => u = undef ∧ H2 = sng b (.cells (c.setIfInBounds o v) T (0, 0)) :: H') := by
  refine ⟨fun a w hx hs next Q hnx => ?_⟩
  have hg := hs.own ht
  have hcell : w.cell? ⟨b, o, none⟩ = some c[o] := by simp [World.cell?, hg, ho]
  have hfr := frozen_of_row w b o c T hg
  have hsz : v.cells = #[v] := by cases v <;> first | rfl | simp [Value.oneCell'] at h1
  have e1 := hx x (by simp [Op.operands]) _ h
  have e2 := hx y (by simp [Op.operands]) _ hv
  refine wpIn_skipv (w' := w.setCell ⟨b, o, none⟩ v) (by intro c; simp) ?_ (hnx _ _ _ ⟨rfl, rfl⟩ (hs.turn ht ?_ ?_ ?_))
  · have hst : (store ⟨b, o, none⟩ v).run C.P w = .ok () (w.setCell ⟨b, o, none⟩ v) := by
      cases v <;> first | (simp [Value.oneCell'] at h1; done) | simp [store, Sem.run, hcell, hfr]
    simp [execOp, e1, e2, Instr.storeAt, Instr.sureAddr, storeVar, run_sizeOf hn, hsz, storeCells, hst, Addr.add]
  · simp [World.setCell]
  · exact heap_setCell_same w b o c T v hg
  · intro k hk; exact heap_setCell_other w ⟨b, o, none⟩ k v hk
/-- several cells are written -/
theorem l_storeA {t T : TypeId} {x y : Operand} {b o : Nat} {c : Array Value} {vs : List Value} {H' : List PH} (h : evalE L x = some (.pointer (some ⟨b, o, none⟩))) (hv : evalE L y = some (.agg vs.toArray)) (h1 : ∀ v ∈ vs, v.oneCell' = true) (hn : szP C.P t = some vs.length)
    (ht : Take (sng b (.cells c T (0, 0))) H H') (ho : o + vs.length ≤ c.size) :
    Loud C R H L ⟨dst, .store t x y, ty, pos, aft, g⟩ (fun u H2 => u = undef ∧ H2 = sng b (.cells (c.toList.take o ++ vs ++ c.toList.drop (o + vs.length)).toArray T (0, 0)) :: H') := by
  refine ⟨fun a w hx hs next Q hnx => ?_⟩
  have hg := hs.own ht
  have e1 := hx x (by simp [Op.operands]) _ h
  have e2 := hx y (by simp [Op.operands]) _ hv
  have hst := run_storeCells_at C.P b o T vs 0 c w hg (by simpa using ho) h1
  simp only [Nat.add_zero] at hst
  refine wpIn_skipv (w' := w.setRow b (c.toList.take o ++ vs ++ c.toList.drop (o + vs.length)).toArray) (by intro c; simp) ?_ (hnx _ _ _ ⟨rfl, rfl⟩ (hs.turn ht ?_ ?_ ?_))
  · simp [execOp, e1, e2, Instr.storeAt, Instr.sureAddr, storeVar, run_sizeOf hn, Value.cells, hst]
  · simp
  · exact setRow_heap w b c _ T _ hg
  · intro k hk; exact setRow_other w b k _ hk

/-! #### slices -/
def emp : PH := fun _ => none
theorem jk_emp (h : JK C D R (emp :: H) L K) : JK C D R H L K :=
  ⟨fun a w hf hd hs => h.run a w hf hd ⟨hs.sz, hs.r, fun ρ hr => by
      simp at hr
      rcases hr with rfl | hr
      · intro b o hb; simp [emp] at hb
      · exact hs.h ρ hr, List.pairwise_cons.2 ⟨fun _ _ _ => .inl rfl, hs.hd⟩, fun ρ hr σ hσ => by
      simp at hσ
      rcases hσ with rfl | hσ
      · exact fun _ => .inr rfl
      · exact hs.rd ρ hr σ hσ⟩⟩
/-- v reads in ρ as n elements of 'size' cells each -/
def SlAt (ρ : PH) (size : Nat) (v : Value) (n : Nat) (xs : List Value) : Prop :=
  xs.length = n * size ∧ ((n = 0 ∧ ∃ p c, v = .slice p 0 c) ∨ ∃ b o c, v = .slice (some ⟨b, o, none⟩) n c ∧ ∀ j u, xs[j]? = some u → rdc ρ b (o + j) = some u)
/-- v owns ρ: n elements, of type e -/
def OwnS (e : TypeId) (size : Nat) (v : Value) (n : Nat) (xs : List Value) (ρ : PH) : Prop :=
  xs.length = n * size ∧ ((v = .slice none 0 0 ∧ n = 0 ∧ ρ = emp) ∨
    ∃ b cap cur, v = .slice (some ⟨b, 0, none⟩) n cap ∧ ρ = sng b (.cells cur e (0, 0)) ∧ n ≤ cap ∧ cap ≤ maxLen ∧ cur.size = cap * size ∧ cur.toList.take (n * size) = xs)
theorem OwnS.nil (e : TypeId) (size : Nat) : OwnS e size (.slice none 0 0) 0 [] emp := ⟨by simp, .inl ⟨rfl, rfl, rfl⟩⟩
theorem OwnS.at {e : TypeId} {size : Nat} {v : Value} {n : Nat} {xs : List Value} {ρ : PH} (h : OwnS e size v n xs ρ) : SlAt ρ size v n xs := by
  obtain ⟨hl, h | ⟨b, cap, cur, rfl, rfl, h1, h2, h3, h4⟩⟩ := h
  · exact ⟨hl, .inl ⟨h.2.1, none, 0, h.1⟩⟩
  · refine ⟨hl, .inr ⟨b, 0, cap, rfl, fun j u hu => ?_⟩⟩
    rw [rdc_sng, Nat.zero_add, ← Array.getElem?_toList]
    rw [← h4] at hu
    have hj : j < n * size := by
      have := (List.getElem?_eq_some_iff.1 hu).1
      simp at this; omega
    rwa [List.getElem?_take_of_lt hj] at hu
theorem SlAt.cap {ρ : PH} {size : Nat} {v : Value} {n : Nat} {xs : List Value} (h : SlAt ρ size v n xs) : ∃ b c, v = .slice b n c := by
  obtain ⟨hl, ⟨rfl, p, c, rfl⟩ | ⟨b, o, c, rfl, _⟩⟩ := h
  · exact ⟨p, c, rfl⟩
  · exact ⟨_, c, rfl⟩
theorem SlAt.some {ρ : PH} {size : Nat} {v : Value} {n : Nat} {xs : List Value} (h : SlAt ρ size v n xs) (hn : 0 < n) : ∃ b o c, v = .slice (some ⟨b, o, none⟩) n c ∧ ∀ j u, xs[j]? = some u → rdc ρ b (o + j) = some u := by
  obtain ⟨_, ⟨rfl, _⟩ | h⟩ := h
  · omega
  · exact h

theorem info_of {P : Program} {e : TypeId} {s by_ : Nat} {z : Value} (hs : szP P e = some s) (hz : zeroP P e = some z) (hb : bytesP P e = some by_) : ∃ i, P.info? e = some i ∧ i.size = s ∧ i.zero = some z ∧ i.bytes = by_ := by
  unfold szP at hs; unfold zeroP at hz; unfold bytesP at hb
  cases hi : P.info? e with
  | none => simp [hi] at hs
  | some i => simp only [hi, Option.some.injEq] at hs hz hb; exact ⟨i, rfl, hs, hz, hb⟩
theorem Sat.drew {N : Bs} {w : World} (h : Sat N R H w) : Sat N R H w.drew := h.heap rfl rfl rfl rfl
theorem Cells.cell {N : Bs} {b o : Nat} {vs : List Value} {w : World} (h : Cells N R H b o vs) (hs : Sat N R H w) : ∀ j v, vs[j]? = some v → w.cell? ((⟨b, o, none⟩ : Addr).add j) = some v := by
  intro j v hv
  rw [Addr.add_lit]; exact h w hs j v hv

theorem l_append {x y : Operand} {t e : TypeId} {s by_ : Nat} {z : Value} {v : Value} {n : Nat} {xs : List Value} {ρ : PH} {H' : List PH} {b2 o2 m c2 : Nat} {news : List Value}
    (hx : evalE L x = some v) (hy : evalE L y = some (.slice (some ⟨b2, o2, none⟩) m c2)) (ht : elemP C.P t = some e) (hs : szP C.P e = some s) (hz : zeroP C.P e = some z) (hb : bytesP C.P e = some by_)
    (hzs : z.cells.size = s) (hown : OwnS e s v n xs ρ) (htk : Take ρ H H') (hnews : Cells C.N R H' b2 o2 news) (hnl : news.length = m * s) (h1 : ∀ u ∈ news, u.oneCell' = true) (hm : 0 < m) (hmax : n + m ≤ maxLen) (hby : (n + m) * by_ ≤ 140737488355328) :
    Loud C R H L ⟨dst, .call ⟨.builtin .append, #[x, y], #[t, t]⟩, ty, pos, aft, g⟩ (fun u H2 => ∃ ρ', OwnS e s u (n + m) (xs ++ news) ρ' ∧ H2 = ρ' :: H') := by
  refine ⟨fun a w hxx hsat next Q hnx => ?_⟩
  obtain ⟨i, hi, rfl, hiz, rfl⟩ := info_of hs hz hb
  have htu := und_elem ht
  have hsat' := (hsat.take htk).tail
  have hcells := hnews.cell hsat'
  have e1 := hxx x (by simp [Op.operands, Call.operands]) _ hx
  have e2 := hxx y (by simp [Op.operands, Call.operands]) _ hy
  have hlen : (xs ++ news).length = (n + m) * i.size := by rw [List.length_append, hown.1, hnl, Nat.add_mul]
  have h63 : ((n + m : Nat) : Int) ≤ 9223372036854775807 := by simp only [maxLen] at hmax; omega
  have hex : ∀ (u : Value) (w' : World), (Builtin.append_ #[t, t] ty #[v, .slice (some ⟨b2, o2, none⟩) m c2]).run C.P w = .ok u w' →
      (execOp a.eval ⟨dst, .call ⟨.builtin .append, #[x, y], #[t, t]⟩, ty, pos, aft, g⟩).run C.P w = .ok (.value u) w' := by
    intro u w' hr
    simp [execOp, resolve, e1, e2, invoke, builtin, hr]
  have grown : ∀ old, ∀ (fx : Array Value), fx = (xs.toArray ++ news.toArray ++ Builtin.zeroCells z.cells (grownCap w (n + m) old e - (n + m))) →
      OwnS e i.size (.slice (some ⟨w.heap.size, 0, none⟩) (n + m) (grownCap w (n + m) old e)) (n + m) (xs ++ news) (sng w.heap.size (.cells fx e (0, 0))) := by
    rintro old fx rfl
    have hge := grownCap_ge w (n + m) old e
    have hcm : grownCap w (n + m) old e ≤ maxLen := grownCap_le_maxLen w (n + m) old e hmax
    refine ⟨hlen, .inr ⟨w.heap.size, _, _, rfl, rfl, hge, hcm, ?_, ?_⟩⟩
    · simp only [Array.size_append, List.size_toArray, size_zeroCells, hzs, hown.1, hnl, ← Nat.add_mul]
      congr 1
      omega
    · simp only [Array.toList_append, List.append_assoc]
      rw [← List.append_assoc, ← hlen]
      exact List.take_left
  obtain ⟨hl, ⟨rfl, rfl, rfl⟩ | ⟨b, cap, cur, rfl, rfl, h2, h3, h4, h5⟩⟩ := hown
  · have hxs : xs = [] := List.eq_nil_of_length_eq_zero (by simpa using hl)
    subst hxs
    simp only [Nat.zero_add, List.nil_append] at grown hby h63
    have hr := run_append_nil (P := C.P) w t ty e i z htu hi hiz ⟨b2, o2, none⟩ m c2 news hnl hcells hm h63 (by omega)
    refine wpIn_value (by intro c; simp) (hex _ _ hr) (hnx _ _ _ ⟨_, by simpa using grown 0 _ rfl, rfl⟩ ?_)
    have := hsat'.drew.alloc (.cells (news.toArray ++ Builtin.zeroCells z.cells (grownCap w m 0 e - m)) e)
    simpa using this
  · have hg : w.heap[b]? = some (.cells cur e (0, 0)) := hsat.own htk
    by_cases hroom : n + m ≤ cap
    · have hfit : n * i.size + news.length ≤ cur.size := by rw [hnl, h4, ← Nat.add_mul]; exact Nat.mul_le_mul_right _ hroom
      have hr := run_append_room (P := C.P) w t ty e i htu hi b n cap cur hg ⟨b2, o2, none⟩ m c2 news hnl hcells h1 hroom hfit
      refine wpIn_value (by intro c; simp) (hex _ _ hr) (hnx _ _ _ ⟨_, ⟨hlen, .inr ⟨b, cap, _, rfl, rfl, hroom, h3, ?_, ?_⟩⟩, rfl⟩ (hsat.turn htk ?_ (setRow_heap w b cur _ e _ hg) (fun k hk => setRow_other w b k _ hk)))
      · simp only [List.size_toArray, List.length_append, List.length_take, List.length_drop, Array.length_toList]
        omega
      · rw [h5, ← hlen]
        exact List.take_left
      · simp
    · have holds : ∀ j u, xs[j]? = some u → w.cell? ((⟨b, 0, none⟩ : Addr).add j) = some u := by
        intro j u hu
        rw [Addr.add_lit, cell_of_row w b _ cur e (0, 0) hg, Nat.zero_add, ← Array.getElem?_toList]
        rw [← h5] at hu
        have hj : j < n * i.size := by
          have := (List.getElem?_eq_some_iff.1 hu).1
          simp at this; omega
        rwa [List.getElem?_take_of_lt hj] at hu
      have hr := run_append_grow (P := C.P) w t ty e i z htu hi hiz ⟨b, 0, none⟩ n cap xs hl holds ⟨b2, o2, none⟩ m c2 news hnl hcells (by omega) h63 (growslice_fits (by omega) hby)
      refine wpIn_value (by intro c; simp) (hex _ _ hr) (hnx _ _ _ ⟨_, grown cap _ rfl, rfl⟩ ?_)
      have := hsat'.drew.alloc (.cells (xs.toArray ++ news.toArray ++ Builtin.zeroCells z.cells (grownCap w (n + m) cap e - (n + m))) e)
      simpa using this

theorem madeCells_one (z : Value) (n : Nat) : madeCells #[z] n = Array.replicate n z := by
  apply Array.ext
  · simp [madeCells]
  · intro i h1 h2; simp [madeCells, Nat.mod_one]
theorem l_make {x y : Operand} {t e : TypeId} {s by_ : Nat} {z : Value} {k1 k2 : IntKind} {n : Nat} (hx : evalE L x = some (.int k1 (n : Int))) (hy : evalE L y = some (.int k2 (n : Int))) (ht : elemP C.P t = some e) (hs : szP C.P e = some s) (hz : zeroP C.P e = some z) (hb : bytesP C.P e = some by_)
    (hn : n ≤ 9223372036854775807) (hby : by_ * n ≤ 281474976710656) :
    Loud C R H L ⟨dst, .makeSlice t x y, ty, pos, aft, g⟩ (fun u H2 => ∃ b, u = .slice (some ⟨b, 0, none⟩) n n ∧ H2 = sng b (.cells (madeCells z.cells (n * s)) e (0, 0)) :: H) := by
  refine ⟨fun a w hxx hsat next Q hnx => ?_⟩
  obtain ⟨i, hi, rfl, hiz, rfl⟩ := info_of hs hz hb
  have e1 := hxx x (by simp [Op.operands]) _ hx
  have e2 := hxx y (by simp [Op.operands]) _ hy
  have hr := run_make (P := C.P) w t e i z (und_elem ht) hi hiz k1 k2 n n (by omega) (by omega) (by rw [← Int.natCast_mul]; omega) (by omega)
  simp only [Int.toNat_natCast] at hr
  refine wpIn_value (by intro c; simp) ?_ (hnx _ _ _ ⟨_, rfl, rfl⟩ (hsat.alloc _))
  simp [execOp, e1, e2, hr]
/-- a literal with no slots left out -/
def evalParts (L : Env) : Nat → List (Nat × Operand) → Option (List Value)
  | _, [] => some []
  | k, (i, x) :: ps => match Nat.beq i k, evalE L x, evalParts L (k + 1) ps with
    | true, some v, some vs => some (v :: vs)
    | _, _, _ => none
inductive Flat : List Value → List Value → Prop
  | nil : Flat [] []
  | one {v : Value} {vs cs : List Value} : v.oneCell' = true → Flat vs cs → Flat (v :: vs) (v :: cs)
  | agg {ws vs cs : List Value} : Flat vs cs → Flat (.agg ws.toArray :: vs) (ws ++ cs)

theorem Flat.agg1 {a : Value} {vs cs : List Value} (h : Flat vs cs) : Flat (.agg #[a] :: vs) (a :: cs) := Flat.agg (ws := [a]) h
theorem Flat.agg2 {a b : Value} {vs cs : List Value} (h : Flat vs cs) : Flat (.agg #[a, b] :: vs) (a :: b :: cs) := Flat.agg (ws := [a, b]) h
theorem Flat.agg3 {a b c : Value} {vs cs : List Value} (h : Flat vs cs) : Flat (.agg #[a, b, c] :: vs) (a :: b :: c :: cs) := Flat.agg (ws := [a, b, c]) h
theorem Flat.agg4 {a b c d : Value} {vs cs : List Value} (h : Flat vs cs) : Flat (.agg #[a, b, c, d] :: vs) (a :: b :: c :: d :: cs) := Flat.agg (ws := [a, b, c, d]) h
theorem Flat.agg5 {a b c d e : Value} {vs cs : List Value} (h : Flat vs cs) : Flat (.agg #[a, b, c, d, e] :: vs) (a :: b :: c :: d :: e :: cs) := Flat.agg (ws := [a, b, c, d, e]) h
theorem Flat.eq {vs cs : List Value} (h : Flat vs cs) : cs = vs.flatMap (fun v => v.cells.toList) := by
  induction h with
  | nil => rfl
  | @one v vs cs h1 _ ih =>
    have : v.cells = #[v] := by cases v <;> first | rfl | simp [Value.oneCell'] at h1
    simp [this, ih]
  | agg _ ih => simp [Value.cells, ih]
theorem splice_fold : ∀ (vs : List Value) (k off : Nat) (cells : Array Value), off + k + vs.length ≤ cells.size →
    ((vs.zipIdx k).foldl (fun (cs : Array Value) (x : Value × Nat) => cs.setIfInBounds (off + x.2) x.1) cells).toList = cells.toList.take (off + k) ++ vs ++ cells.toList.drop (off + k + vs.length) := by
  intro vs
  induction vs with
  | nil => intro k off cells h; simp
  | cons v vs ih =>
    intro k off cells h
    simp only [List.length_cons] at h
    rw [List.zipIdx_cons, List.foldl_cons]
    rw [ih (k + 1) off _ (by simp; omega)]
    simp only [Array.toList_setIfInBounds, List.length_cons]
    have hlt : off + k < cells.toList.length := by simp; omega
    have h1 : (cells.toList.set (off + k) v).take (off + (k + 1)) = cells.toList.take (off + k) ++ [v] := by
      rw [show off + (k + 1) = (off + k) + 1 from by omega]
      rw [List.take_succ_eq_append_getElem (by simpa using hlt)]
      rw [List.take_set_of_le (by omega)]
      simp
    have h2 : (cells.toList.set (off + k) v).drop (off + (k + 1) + vs.length) = cells.toList.drop (off + k + (vs.length + 1)) := by
      rw [List.drop_set_of_lt (by omega)]
      congr 1; omega
    rw [h1, h2]
    simp
theorem fill_row (s : Nat) : ∀ (vs : List Value) (k : Nat) (cells : Array Value), (∀ v ∈ vs, v.cells.size = s) → (k + vs.length) * s ≤ cells.size →
    ∃ cs, Instr.fill (fun i => some (i * s, s)) cells ((vs.zipIdx k).map (fun x => (x.2, x.1))) = some cs ∧
      cs.toList = cells.toList.take (k * s) ++ vs.flatMap (fun v => v.cells.toList) ++ cells.toList.drop ((k + vs.length) * s) := by
  intro vs
  induction vs with
  | nil => intro k cells _ _; exact ⟨cells, by simp [Instr.fill], by simp⟩
  | cons v vs ih =>
    intro k cells hv h
    have hvs := hv v (by simp)
    have hks : k * s + s ≤ cells.size := by
      have : (k + 1) * s ≤ (k + (v :: vs).length) * s := Nat.mul_le_mul_right s (by simp)
      rw [Nat.add_mul, Nat.one_mul] at this
      omega
    simp only [List.zipIdx_cons, List.map_cons]
    unfold Instr.fill
    simp only [hvs, ne_eq, not_true_eq_false, decide_false, Bool.false_or, decide_eq_true_eq]
    rw [if_neg (by omega)]
    let cells' : Array Value := v.cells.zipIdx.foldl (fun (cs : Array Value) (x : Value × Nat) => cs.setIfInBounds (k * s + x.2) x.1) cells
    have hc' : cells'.toList = cells.toList.take (k * s) ++ v.cells.toList ++ cells.toList.drop (k * s + s) := by
      have := splice_fold v.cells.toList 0 (k * s) cells (by simp [hvs]; omega)
      simp only [Nat.add_zero, Array.length_toList, hvs] at this
      rw [← this]
      simp only [cells', ← Array.foldl_toList, Array.toList_zipIdx]
    have hsz : cells'.size = cells.size := by
      rw [← Array.length_toList, hc']; simp [hvs]; omega
    obtain ⟨cs, h1, h2⟩ := ih (k + 1) cells' (fun u hu => hv u (by simp [hu])) (by
      rw [hsz, show k + 1 + vs.length = k + (v :: vs).length from by simp; omega]; exact h)
    refine ⟨cs, h1, ?_⟩
    rw [h2, hc']
    have e1 : (k + 1) * s = k * s + s := by rw [Nat.add_mul, Nat.one_mul]
    have e2 : (k + 1 + vs.length) * s = (k + (v :: vs).length) * s := by congr 1; simp; omega
    have e3 : (k + (v :: vs).length) * s = k * s + s + vs.length * s := by simp [Nat.add_mul]; omega
    have l1 : (cells.toList.take (k * s) ++ v.cells.toList).length = k * s + s := by simp [hvs]; omega
    rw [e1, e2, e3, List.take_left' l1]
    rw [List.drop_append, List.drop_of_length_le (by rw [l1]; omega), l1, List.nil_append, List.drop_drop]
    simp only [List.flatMap_cons, List.append_assoc]
    congr 4
    omega
theorem evalParts_eq {L : Env} {a : Act} : ∀ {ps : List (Nat × Operand)} {k : Nat} {vs : List Value}, evalParts L k ps = some vs → (∀ x ∈ ps.map (·.2), OnE L a x) → ps.map (fun (x : Nat × Operand) => (x.1, a.eval x.2)) = (vs.zipIdx k).map (fun x => (x.2, x.1)) := by
  intro ps
  induction ps with
  | nil => intro k vs h _; simp [evalParts] at h; subst h; rfl
  | cons p ps ih =>
    obtain ⟨i, x⟩ := p
    intro k vs h hx
    unfold evalParts at h
    split at h
    · rename_i v us hb he hr
      simp at h; subst h
      have := Nat.eq_of_beq_eq_true hb
      subst this
      simp only [List.map_cons, List.zipIdx_cons]
      rw [ih hr (fun y hy => hx y (by simp at hy ⊢; exact .inr hy)), hx x (by simp) v he]
    · simp at h
theorem l_buildSlice {t e : TypeId} {n s : Nat} {ps : List (Nat × Operand)} {z : Value} {vs cs : List Value} (hp : evalParts L 0 ps = some vs) (ht : elemP C.P t = some e) (hs : szP C.P e = some s) (hz : zeroP C.P e = some z) (hn : vs.length = n) (hsz : ∀ v ∈ vs, v.cells.size = s)
    (hf : Flat vs cs) (hb : Nat.ble (n * s) 16777216 = true) :
    Loud C R H L ⟨dst, .buildSlice t n ps.toArray, ty, pos, aft, g⟩ (fun u H2 => ∃ b, u = .slice (some ⟨b, 0, none⟩) n n ∧ H2 = sng b (.cells cs.toArray e (0, 0)) :: H) := by
  refine ⟨fun a w hxx hsat next Q hnx => ?_⟩
  subst hn
  have hb' := Nat.le_of_ble_eq_true hb
  have hpe := evalParts_eq (a := a) hp (fun x hx => hxx x (by simp [Op.operands] at hx ⊢; exact hx))
  obtain ⟨cells, h1, h2⟩ := fill_row s vs 0 (madeCells z.cells (vs.length * s)) hsz (by simp [size_madeCells])
  have hcs : cells = cs.toArray := by
    apply Array.ext'
    rw [h2, hf.eq]
    simp only [Nat.zero_mul, List.take_zero, List.nil_append, Nat.zero_add]
    rw [List.drop_of_length_le (by simp [size_madeCells])]
    simp
  subst hcs
  refine wpIn_value (v := .slice (some ⟨w.heap.size, 0, none⟩) vs.length vs.length) (w' := w.alloc (.cells cs.toArray e (0, 0))) (by intro c; simp) ?_ (hnx _ _ _ ⟨_, rfl, rfl⟩ (hsat.alloc _))
  by_cases h0 : vs.length * s = 0
  · have hz0 : madeCells z.cells (vs.length * s) = #[] := by rw [h0]; simp [madeCells]
    rw [hz0] at h1
    simp only [execOp, Instr.buildSlice]
    have hz1 : (Array.range 0 : Array Nat) = #[] := rfl
    simp [run_underlying (und_elem ht), run_sizeOf hs, h0, newRow, hz1]
    simp [hpe, h1]
  · simp only [execOp, Instr.buildSlice]
    simp only [madeCells] at h1
    simp [run_underlying (und_elem ht), run_sizeOf hs, run_zeroValue hz, h0, Nat.not_lt.2 hb', newRow]
    simp [hpe, h1]

/-- a struct whose fields take one cell each -/
def flatP (P : Program) (t : TypeId) : Option (List Value) := match P.underlying t with
  | some (.struct fs) => match (fs.toList.zipIdx.all fun f => f.1.offset == f.2 && szP P f.1.type == some 1), zeroP P t with
    | true, some (.agg cs) => if cs.size == fs.size then some cs.toList else none
    | _, _ => none
  | _ => none
def lookP : List (Nat × Operand) → Nat → Option Operand
  | [], _ => none
  | (i, x) :: ps, k => match Nat.beq i k with
    | true => some x
    | false => lookP ps k
/-- the parts' numbers: each once, below n -/
def partsOK (n : Nat) : List (Nat × Operand) → Bool
  | [] => true
  | (i, _) :: ps => Nat.blt i n && (lookP ps i).isNone && partsOK n ps
inductive Bld (L : Env) (ps : List (Nat × Operand)) : Nat → List Value → List Value → Prop
  | nil {k : Nat} : Bld L ps k [] []
  | put {k : Nat} {z v : Value} {zs vs : List Value} {x : Operand} : lookP ps k = some x → evalE L x = some v → v.oneCell' = true → Bld L ps (k + 1) zs vs → Bld L ps k (z :: zs) (v :: vs)
  | keep {k : Nat} {z : Value} {zs vs : List Value} : lookP ps k = none → Bld L ps (k + 1) zs vs → Bld L ps k (z :: zs) (z :: vs)
theorem Bld.get {L : Env} {ps : List (Nat × Operand)} {k : Nat} {zs vs : List Value} (h : Bld L ps k zs vs) : vs.length = zs.length ∧ ∀ j, j < zs.length → (∃ x v, lookP ps (k + j) = some x ∧ evalE L x = some v ∧ v.oneCell' = true ∧ vs[j]? = some v) ∨ (lookP ps (k + j) = none ∧ vs[j]? = zs[j]?) := by
  induction h with
  | nil => exact ⟨rfl, fun j hj => by simp at hj⟩
  | @put k z v zs vs x h1 h2 h3 _ ih =>
    refine ⟨by simp [ih.1], fun j hj => ?_⟩
    cases j with
    | zero => exact .inl ⟨x, v, h1, h2, h3, by simp⟩
    | succ j =>
      have := ih.2 j (by simp at hj; omega)
      rw [show k + (j + 1) = k + 1 + j from by omega]
      simpa using this
  | @keep k z zs vs h1 _ ih =>
    refine ⟨by simp [ih.1], fun j hj => ?_⟩
    cases j with
    | zero => exact .inr ⟨h1, by simp⟩
    | succ j =>
      have := ih.2 j (by simp at hj; omega)
      rw [show k + (j + 1) = k + 1 + j from by omega]
      simpa using this
theorem lookP_mem : ∀ {ps : List (Nat × Operand)} {k : Nat} {x : Operand}, lookP ps k = some x → x ∈ ps.map (·.2) := by
  intro ps
  induction ps with
  | nil => intro k x h; simp [lookP] at h
  | cons p ps ih =>
    obtain ⟨i, y⟩ := p
    intro k x h
    simp only [lookP] at h
    split at h
    · simp at h; subst h; simp
    · have := ih h; simp only [List.map_cons, List.mem_cons]; exact .inr this
theorem fill_flat (n : Nat) (a : Act) : ∀ (ps : List (Nat × Operand)) (cells : Array Value), cells.size = n → partsOK n ps = true → (∀ k x, lookP ps k = some x → (a.eval x).oneCell' = true) →
    ∃ cs, Instr.fill (fun i => if i < n then some (i, 1) else none) cells (ps.map fun (x : Nat × Operand) => (x.1, a.eval x.2)) = some cs ∧ cs.size = n ∧
      ∀ j, cs[j]? = match lookP ps j with | some x => (if j < n then some (a.eval x) else none) | none => cells[j]? := by
  intro ps
  induction ps with
  | nil => intro cells hc _ _; exact ⟨cells, by simp [Instr.fill], hc, fun j => by simp [lookP]⟩
  | cons p ps ih =>
    obtain ⟨i, x⟩ := p
    intro cells hc hok h1
    simp only [partsOK, Bool.and_eq_true, Option.isNone_iff_eq_none] at hok
    obtain ⟨⟨hi, hno⟩, hok⟩ := hok
    have hi : i < n := Nat.le_of_ble_eq_true hi
    have hx1 : (a.eval x).oneCell' = true := h1 i x (by simp [lookP, Nat.beq_refl])
    have hcell : (a.eval x).cells = #[a.eval x] := by cases hv : a.eval x <;> first | rfl | simp [hv, Value.oneCell'] at hx1
    have h1' : ∀ k y, lookP ps k = some y → (a.eval y).oneCell' = true := fun k y hk => h1 k y (by
      simp only [lookP]
      cases hb : Nat.beq i k with
      | true =>
        have := Nat.eq_of_beq_eq_true hb; subst this
        rw [hno] at hk; simp at hk
      | false => exact hk)
    obtain ⟨cs, e1, e2, e3⟩ := ih (cells.setIfInBounds i (a.eval x)) (by simp [hc]) hok h1'
    refine ⟨cs, ?_, e2, fun j => ?_⟩
    · simp only [List.map_cons]
      unfold Instr.fill
      simp only [hi, if_true, hcell]
      simp only [List.size_toArray, List.length_cons, List.length_nil, Nat.zero_add, ne_eq, not_true_eq_false, decide_false, Bool.false_or, decide_eq_true_eq]
      rw [if_neg (by omega)]
      simpa using e1
    · rw [e3 j]
      simp only [lookP]
      cases hb : Nat.beq i j with
      | true =>
        have := Nat.eq_of_beq_eq_true hb; subst this
        simp [hno, hc, hi]
      | false =>
        have hne : i ≠ j := fun e => by subst e; simp [Nat.beq_refl] at hb
        simp [hne]
theorem mapM_places {P : Program} : ∀ (fs : List Field) (k : Nat) (w : World), (fs.zipIdx k).all (fun f => f.1.offset == f.2 && szP P f.1.type == some 1) = true →
    (fs.mapM (fun f => Prod.mk f.offset <$> sizeOf f.type : Field → Sem (Nat × Nat))).run P w = .ok ((List.range' k fs.length).map (fun i => (i, 1))) w := by
  intro fs
  induction fs with
  | nil => intro k w _; simp
  | cons f fs ih =>
    intro k w h
    simp only [List.zipIdx_cons, List.all_cons, Bool.and_eq_true, beq_iff_eq] at h
    obtain ⟨⟨h1, h2⟩, h3⟩ := h
    have := ih (k + 1) w h3
    simp [List.mapM_cons, run_sizeOf h2, this, h1, List.range'_succ]
theorem q_build {t : TypeId} {ps : List (Nat × Operand)} {zs vs : List Value} (hf : flatP C.P t = some zs) (hok : partsOK zs.length ps = true) (hb : Bld L ps 0 zs vs) :
    Quiet C R H L ⟨dst, .build t ps.toArray, ty, pos, aft, g⟩ (.agg vs.toArray) :=
  ⟨by intro c; simp, fun a w hxx _ => by
    unfold flatP at hf
    split at hf
    · rename_i fs hu
      split at hf
      · rename_i cs hall hz
        split at hf
        · rename_i hsize
          simp only [Option.some.injEq] at hf
          subst hf
          simp only [beq_iff_eq] at hsize
          have hg := hb.get
          have h1 : ∀ k x, lookP ps k = some x → (a.eval x).oneCell' = true := by
            intro k x hk
            have hkn : k < cs.toList.length := by
              clear hg hb
              revert hk hok
              generalize cs.toList.length = n
              clear hxx
              induction ps with
              | nil => intro _ hk; simp [lookP] at hk
              | cons p ps ih =>
                obtain ⟨i, y⟩ := p
                intro hok hk
                simp only [partsOK, Bool.and_eq_true] at hok
                simp only [lookP] at hk
                cases hb : Nat.beq i k with
                | true => have := Nat.eq_of_beq_eq_true hb; subst this; exact Nat.le_of_ble_eq_true hok.1.1
                | false => rw [hb] at hk; exact ih hok.2 hk
            rcases hg.2 k hkn with ⟨y, v, h2, h3, h4, _⟩ | ⟨h2, _⟩
            · rw [Nat.zero_add, hk] at h2
              simp only [Option.some.injEq] at h2; subst h2
              rw [hxx x (by have := lookP_mem hk; simp only [Op.operands]; simpa using this) v h3]; exact h4
            · rw [Nat.zero_add, hk] at h2; simp at h2
          obtain ⟨cs', e1, e2, e3⟩ := fill_flat cs.size a ps cs rfl (by simpa using hok) h1
          have hcs : cs' = vs.toArray := by
            apply Array.ext_getElem?
            intro j
            rw [e3 j]
            have hl := hg.1
            by_cases hj : j < cs.toList.length
            · rcases hg.2 j hj with ⟨y, v, h2, h3, h4, h5⟩ | ⟨h2, h5⟩
              · rw [Nat.zero_add] at h2
                rw [h2]
                simp only
                rw [if_pos (by simpa using hj), hxx y (by have := lookP_mem h2; simp only [Op.operands]; simpa using this) v h3]
                simp [h5]
              · rw [Nat.zero_add] at h2
                rw [h2]
                simp only
                simp [h5]
            · have hno : lookP ps j = none ∨ ∃ x, lookP ps j = some x := by cases lookP ps j <;> simp
              have hge : cs.size ≤ j := by simp at hj; omega
              rw [show vs.toArray[j]? = none from by simp at hl ⊢; omega]
              rcases hno with h | ⟨x, h⟩
              · rw [h]; simp; omega
              · rw [h]; simp only; rw [if_neg (by omega)]
          subst hcs
          have hplaces := mapM_places (P := C.P) fs.toList 0 w hall
          have hmm : (fs.mapM (fun f => Prod.mk f.offset <$> sizeOf f.type : Field → Sem (Nat × Nat))).run C.P w = .ok ((List.range' 0 fs.toList.length).map (fun i => (i, 1))).toArray w := by
            rw [Array.mapM_eq_mapM_toList]
            simp [hplaces]
          have hfill : Instr.fill (fun i => (((List.range' 0 fs.toList.length).map (fun i => (i, 1))).toArray)[i]?) cs (ps.map fun (x : Nat × Operand) => (x.1, a.eval x.2)) = some vs.toArray := by
            rw [← e1]
            congr 1
            funext i
            simp only [List.getElem?_toArray, List.getElem?_map, Array.length_toList]
            by_cases hi : i < fs.size
            · rw [List.getElem?_range' (by simpa using hi), if_pos (by omega)]; simp
            · rw [List.getElem?_eq_none (by simpa using Nat.not_lt.1 hi), if_neg (by omega)]; rfl
          simp only [execOp, Instr.build]
          simp only [Array.length_toList, List.getElem?_toArray, List.getElem?_map] at hmm hfill
          simp [run_zeroValue hz, Value.cells, run_underlying hu, hmm, hfill]
        · simp at hf
      · simp at hf
    · simp at hf⟩

/-! #### cuts of slices -/
section
variable {t e : TypeId} {x y z : Operand} {b o n c s : Nat} {k k2 : IntKind} {i j : Nat}
theorem q_sliceLo (h : evalE L x = some (.slice (some ⟨b, o, none⟩) n c)) (hy : evalE L y = some (.int k (i : Int))) (ht : elemP C.P t = some e) (hs : szP C.P e = some s) (h1 : i ≤ n) :
    Quiet C R H L ⟨dst, .slice t x (some y) none none, ty, pos, aft, g⟩ (.slice (some ⟨b, if c = i then o else o + i * s, none⟩) (n - i) (c - i)) :=
  ⟨by intro c; simp, fun a w hx _ => by
    have e1 := hx x (by simp [Op.operands]) _ h
    have e2 := hx y (by simp [Op.operands]) _ hy
    by_cases hc : c = i
    · simp [execOp, e1, e2, Instr.sliceAt, run_underlying (und_elem ht), Instr.slice, Instr.sliceBounds, Instr.sliceBound, asIntOf, run_sizeOf hs, hc, h1]
    · simp [execOp, e1, e2, Instr.sliceAt, run_underlying (und_elem ht), Instr.slice, Instr.sliceBounds, Instr.sliceBound, asIntOf, run_sizeOf hs, hc, h1, Addr.add_lit]⟩
theorem q_sliceHi (h : evalE L x = some (.slice (some ⟨b, o, none⟩) n c)) (hy : evalE L y = some (.int k (i : Int))) (ht : elemP C.P t = some e) (hs : szP C.P e = some s) (h1 : i ≤ c) :
    Quiet C R H L ⟨dst, .slice t x none (some y) none, ty, pos, aft, g⟩ (.slice (some ⟨b, o, none⟩) i c) :=
  ⟨by intro c; simp, fun a w hx _ => by
    have e1 := hx x (by simp [Op.operands]) _ h
    have e2 := hx y (by simp [Op.operands]) _ hy
    by_cases hc : c = 0
    · simp [execOp, e1, e2, Instr.sliceAt, run_underlying (und_elem ht), Instr.slice, Instr.sliceBounds, Instr.sliceBound, asIntOf, run_sizeOf hs, hc, show i = 0 from by omega]
    · simp [execOp, e1, e2, Instr.sliceAt, run_underlying (und_elem ht), Instr.slice, Instr.sliceBounds, Instr.sliceBound, asIntOf, run_sizeOf hs, hc, h1, Addr.add_lit]⟩
theorem q_sliceLoHi (h : evalE L x = some (.slice (some ⟨b, o, none⟩) n c)) (hy : evalE L y = some (.int k (i : Int))) (hz : evalE L z = some (.int k2 (j : Int))) (ht : elemP C.P t = some e) (hs : szP C.P e = some s) (h1 : i ≤ j) (h2 : j ≤ c) :
    Quiet C R H L ⟨dst, .slice t x (some y) (some z) none, ty, pos, aft, g⟩ (.slice (some ⟨b, if c = i then o else o + i * s, none⟩) (j - i) (c - i)) :=
  ⟨by intro c; simp, fun a w hx _ => by
    have e1 := hx x (by simp [Op.operands]) _ h
    have e2 := hx y (by simp [Op.operands]) _ hy
    have e3 := hx z (by simp [Op.operands]) _ hz
    by_cases hc : c = i
    · simp [execOp, e1, e2, e3, Instr.sliceAt, run_underlying (und_elem ht), Instr.slice, Instr.sliceBounds, Instr.sliceBound, asIntOf, run_sizeOf hs, hc, h1, show j ≤ i from by omega]
    · simp [execOp, e1, e2, e3, Instr.sliceAt, run_underlying (und_elem ht), Instr.slice, Instr.sliceBounds, Instr.sliceBound, asIntOf, run_sizeOf hs, hc, h1, h2, Addr.add_lit]⟩
end
end Go.Eng
