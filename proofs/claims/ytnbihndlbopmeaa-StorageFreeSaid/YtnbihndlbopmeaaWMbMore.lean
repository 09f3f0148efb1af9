/- A queue: a slice of its own, from some place on. No conditions. -/
import Derived.Test.YtnbihndlbopmeaaWMbData
set_option linter.all false
namespace Go.Eng
variable {C : Cx} {D : List Deferred} {R H : List PH} {L : Env} {K : List It}
variable {dst : Option Tmp} {ty : TypeId} {pos : String} {aft : Array Edge} {g : Option (Nat × Bool)}

/-- v owns ρ: n elements from place o on -/
def OwnO (e : TypeId) (size : Nat) (v : Value) (n : Nat) (xs : List Value) (ρ : PH) : Prop :=
  xs.length = n * size ∧ ∃ b o cap cur, v = .slice (some ⟨b, o, none⟩) n cap ∧ ρ = sng b (.cells cur e (0, 0)) ∧ n ≤ cap ∧ cap ≤ maxLen ∧ o + cap * size ≤ cur.size ∧ (cur.toList.drop o).take (n * size) = xs
theorem run_append_roomO {P : Program} (w : World) (t ty e : TypeId) (i : TypeInfo) (ht : P.underlying t = some (.slice e)) (hi : P.info? e = some i)
    (b o sLen sCap : Nat) (cur : Array Value) (hg : w.heap[b]? = some (.cells cur e (0, 0)))
    (a : Addr) (m c : Nat) (news : List Value) (hl : news.length = m * i.size) (hnews : ∀ j u, news[j]? = some u → w.cell? (a.add j) = some u) (h1 : ∀ u ∈ news, u.oneCell' = true)
    (hroom : sLen + m ≤ sCap) (hfit : o + sLen * i.size + news.length ≤ cur.size) :
    (Builtin.append_ #[t, t] ty #[.slice (some ⟨b, o, none⟩) sLen sCap, .slice (some a) m c]).run P w =
      .ok (.slice (some ⟨b, o, none⟩) (sLen + m) sCap) (w.setRow b (cur.toList.take (o + sLen * i.size) ++ news ++ cur.toList.drop (o + sLen * i.size + news.length)).toArray) := by
  have hf := run_firstCells_some (P := P) w i.size m a m c news hl hnews
  have hst := run_storeCells_at P b (o + sLen * i.size) e news 0 cur w hg (by simpa using hfit) h1
  simp only [Nat.add_zero] at hst
  simp [Builtin.append_, run_underlying ht, sizeOf, typeInfo, hi, Builtin.lenOf, hroom, hf, Addr.add_lit, hst]
theorem l_appendO {x y : Operand} {t e : TypeId} {s by_ : Nat} {z : Value} {v : Value} {n : Nat} {xs : List Value} {ρ : PH} {H' : List PH} {b2 o2 m c2 : Nat} {news : List Value}
    (hx : evalE L x = some v) (hy : evalE L y = some (.slice (some ⟨b2, o2, none⟩) m c2)) (ht : elemP C.P t = some e) (hs : szP C.P e = some s) (hz : zeroP C.P e = some z) (hb : bytesP C.P e = some by_)
    (hzs : z.cells.size = s) (hown : OwnO e s v n xs ρ) (htk : Take ρ H H') (hnews : Cells C.N R H' b2 o2 news) (hnl : news.length = m * s) (h1 : ∀ u ∈ news, u.oneCell' = true) (hmax : n + m ≤ maxLen) (hby : (n + m) * by_ ≤ 140737488355328) :
    Loud C R H L ⟨dst, .call ⟨.builtin .append, #[x, y], #[t, t]⟩, ty, pos, aft, g⟩ (fun u H2 => ∃ ρ', OwnO e s u (n + m) (xs ++ news) ρ' ∧ H2 = ρ' :: H') := by
  refine ⟨fun a w hxx hsat next Q hnx => ?_⟩
  obtain ⟨i, hi, rfl, hiz, rfl⟩ := info_of hs hz hb
  have htu := und_elem ht
  have hsat' := (hsat.take htk).tail
  have hcells := hnews.cell hsat'
  have e1 := hxx x (by simp [Op.operands, Call.operands]) _ hx
  have e2 := hxx y (by simp [Op.operands, Call.operands]) _ hy
  have hlen : (xs ++ news).length = (n + m) * i.size := by rw [List.length_append, hown.1, hnl, Nat.add_mul]
  have h63 : ((n + m : Nat) : Int) ≤ 9223372036854775807 := by simp only [maxLen] at hmax; omega
  have hex : ∀ (u : Value) (w' : World), (Builtin.append_ #[t, t] ty #[v, .slice (some ⟨b2, o2, none⟩) m c2]).run C.P w = .ok u w' →
      (execOp a.eval ⟨dst, .call ⟨.builtin .append, #[x, y], #[t, t]⟩, ty, pos, aft, g⟩).run C.P w = .ok (.value u) w' := by
    intro u w' hr
    simp [execOp, resolve, e1, e2, invoke, builtin, hr]
  obtain ⟨hl, b, o, cap, cur, rfl, rfl, h2, h3, h4, h5⟩ := hown
  have hg : w.heap[b]? = some (.cells cur e (0, 0)) := hsat.own htk
  by_cases hroom : n + m ≤ cap
  · have hle : (n + m) * i.size ≤ cap * i.size := Nat.mul_le_mul_right _ hroom
    rw [Nat.add_mul] at hle
    have hfit : o + n * i.size + news.length ≤ cur.size := by rw [hnl]; omega
    have hr := run_append_roomO (P := C.P) w t ty e i htu hi b o n cap cur hg ⟨b2, o2, none⟩ m c2 news hnl hcells h1 hroom hfit
    refine wpIn_value (by intro c; simp) (hex _ _ hr) (hnx _ _ _ ⟨_, ⟨hlen, b, o, cap, _, rfl, rfl, hroom, h3, ?_, ?_⟩, rfl⟩ (hsat.turn htk ?_ (setRow_heap w b cur _ e _ hg) (fun k hk => setRow_other w b k _ hk)))
    · simp only [List.size_toArray, List.length_append, List.length_take, List.length_drop, Array.length_toList]
      omega
    · rw [← hlen]
      have ho : o ≤ (cur.toList.take (o + n * i.size)).length := by simp; omega
      rw [List.append_assoc, List.drop_append_of_le_length ho]
      have hdt : (cur.toList.take (o + n * i.size)).drop o = xs := by
        rw [List.drop_take, Nat.add_sub_cancel_left]; exact h5
      rw [hdt, ← List.append_assoc]
      exact List.take_left
    · simp
  · have holds : ∀ j u, xs[j]? = some u → w.cell? ((⟨b, o, none⟩ : Addr).add j) = some u := by
      intro j u hu
      rw [Addr.add_lit, cell_of_row w b _ cur e (0, 0) hg, ← Array.getElem?_toList]
      rw [← h5] at hu
      have hj : j < n * i.size := by
        have := (List.getElem?_eq_some_iff.1 hu).1
        simp at this; omega
      rw [List.getElem?_take_of_lt hj, List.getElem?_drop] at hu
      exact hu
    have hr := run_append_grow (P := C.P) w t ty e i z htu hi hiz ⟨b, o, none⟩ n cap xs hl holds ⟨b2, o2, none⟩ m c2 news hnl hcells (by omega) h63 (growslice_fits (by omega) hby)
    have hge := grownCap_ge w (n + m) cap e
    have hcm : grownCap w (n + m) cap e ≤ maxLen := grownCap_le_maxLen w (n + m) cap e hmax
    have hsat2 := hsat'.drew.alloc (.cells (xs.toArray ++ news.toArray ++ Builtin.zeroCells z.cells (grownCap w (n + m) cap e - (n + m))) e)
    refine wpIn_value (by intro c; simp) (hex _ _ hr) (hnx _ _ _ ⟨sng w.heap.size (.cells (xs.toArray ++ news.toArray ++ Builtin.zeroCells z.cells (grownCap w (n + m) cap e - (n + m))) e (0, 0)), ⟨hlen, w.heap.size, 0, _, _, rfl, rfl, hge, hcm, ?_, ?_⟩, rfl⟩ (by simpa using hsat2))
    · simp only [Array.size_append, List.size_toArray, size_zeroCells, hzs, hl, hnl, Nat.zero_add, ← Nat.add_mul]
      apply Nat.le_of_eq
      congr 1
      omega
    · simp only [Array.toList_append, List.append_assoc, List.drop_zero]
      rw [← List.append_assoc, ← hlen]
      exact List.take_left
/-- the first element, and the rest -/
theorem OwnO.head {e : TypeId} {v : Value} {n : Nat} {x : Value} {xs : List Value} {ρ : PH} (h : OwnO e 1 v (n + 1) (x :: xs) ρ) :
    ∃ b o cap, v = .slice (some ⟨b, o, none⟩) (n + 1) cap ∧ rdc ρ b o = some x ∧ OwnO e 1 (.slice (some ⟨b, if cap = 1 then o else o + 1 * 1, none⟩) (n + 1 - 1) (cap - 1)) n xs ρ := by
  obtain ⟨hl, b, o, cap, cur, rfl, rfl, h2, h3, h4, h5⟩ := h
  refine ⟨b, o, cap, rfl, ?_, ?_, b, _, _, cur, rfl, rfl, by omega, by omega, ?_, ?_⟩
  · rw [rdc_sng]
    have : ((cur.toList.drop o).take ((n + 1) * 1))[0]? = some x := by rw [h5]; rfl
    rw [List.getElem?_take_of_lt (by omega), List.getElem?_drop] at this
    simpa using this
  · simp at hl ⊢; omega
  · split <;> omega
  · by_cases hc : cap = 1
    · rw [if_pos hc]
      have : n = 0 := by omega
      subst this
      simp at hl ⊢; exact hl
    · rw [if_neg hc]
      have : xs = ((cur.toList.drop o).take ((n + 1) * 1)).drop 1 := by rw [h5]; rfl
      rw [this, List.drop_take, List.drop_drop]
      simp
theorem OwnS.ownO {e : TypeId} {size : Nat} {b n : Nat} {cs : List Value} (hl : cs.length = n * size) (hn : n ≤ maxLen) : OwnO e size (.slice (some ⟨b, 0, none⟩) n n) n cs (sng b (.cells cs.toArray e (0, 0))) :=
  ⟨hl, b, 0, n, cs.toArray, rfl, rfl, Nat.le_refl _, hn, by simp [hl], by simp [← hl]⟩

theorem q_idxZ {x y : Operand} {t e : TypeId} {b o n c s : Nat} {k : IntKind} (h : evalE L x = some (.slice (some ⟨b, o, none⟩) n c)) (h2 : evalE L y = some (.int k 0)) (ht : elemP C.P t = some e) (hs : szP C.P e = some s)
    (hn : 0 < n) : Quiet C R H L ⟨dst, .indexAddr t x y, ty, pos, aft, g⟩ (.pointer (some ⟨b, o, none⟩)) := by
  have := q_idx (C := C) (R := R) (H := H) (dst := dst) (ty := ty) (pos := pos) (aft := aft) (g := g) h h2 ht hs (by omega) (by omega)
  simpa using this
inductive SetL (v : Value) : List Value → Nat → List Value → Prop
  | here {u : Value} {l : List Value} : SetL v (u :: l) 0 (v :: l)
  | there {u : Value} {l l' : List Value} {i : Nat} : SetL v l i l' → SetL v (u :: l) (i + 1) (u :: l')
theorem SetL.eq {v : Value} {l l' : List Value} {i : Nat} (h : SetL v l i l') : i < l.length ∧ l' = l.set i v := by
  induction h with
  | here => simp
  | there _ ih => simp [ih.1, ih.2]
/-- one cell of a block that is known whole -/
theorem l_storeL {t T : TypeId} {x y : Operand} {b o : Nat} {l l' : List Value} {v : Value} {H' : List PH} (h : evalE L x = some (.pointer (some ⟨b, o, none⟩))) (hv : evalE L y = some v) (h1 : v.oneCell' = true) (hn : szP C.P t = some 1)
    (ht : Take (sng b (.cells l.toArray T (0, 0))) H H') (hs : SetL v l o l') :
    Loud C R H L ⟨dst, .store t x y, ty, pos, aft, g⟩ (fun u H2 => u = undef ∧ H2 = sng b (.cells l'.toArray T (0, 0)) :: H') := by
  have := l_store (C := C) (R := R) (L := L) (dst := dst) (ty := ty) (pos := pos) (aft := aft) (g := g) h hv h1 hn ht (by simpa using hs.eq.1)
  rw [hs.eq.2]
  simpa using this
end Go.Eng
