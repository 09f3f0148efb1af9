/- Slices of numbers and of structs: how they read. No conditions. -/
import Derived.Test.YtnbihndlbopmeaaWMbRange
set_option linter.all false
namespace Go.Eng
variable {C : Cx} {D : List Deferred} {R H : List PH} {L : Env} {K : List It}

/-- a slice of elements, each of s cells -/
def SlE {α : Type} (enc : α → List Value) (s : Nat) (ρ : PH) (v : Value) (l : List α) : Prop := SlAt ρ s v l.length (l.flatMap enc)
theorem flat_len {α : Type} {enc : α → List Value} {s : Nat} (he : ∀ x, (enc x).length = s) : ∀ l : List α, (l.flatMap enc).length = l.length * s := by
  intro l
  induction l with
  | nil => simp
  | cons x l ih => simp [he, ih, Nat.add_mul]; omega
theorem flat_get {α : Type} {enc : α → List Value} {s : Nat} (he : ∀ x, (enc x).length = s) : ∀ (l : List α) (i : Nat) (x : α), l[i]? = some x → ∀ j v, (enc x)[j]? = some v → (l.flatMap enc)[i * s + j]? = some v := by
  intro l
  induction l with
  | nil => intro i x h; simp at h
  | cons y l ih =>
    intro i x h j v hv
    have hj : j < s := by
      have := (List.getElem?_eq_some_iff.1 hv).1
      rw [he] at this; exact this
    cases i with
    | zero =>
      simp at h; subst h
      rw [List.flatMap_cons, List.getElem?_append_left (by rw [he]; omega)]
      simpa using hv
    | succ i =>
      simp at h
      rw [List.flatMap_cons, List.getElem?_append_right (by rw [he, Nat.add_mul]; omega)]
      rw [he, show (i + 1) * s + j - s = i * s + j from by rw [Nat.add_mul]; omega]
      exact ih i x h j v hv
/-- where the elements lie -/
def RowsE {α : Type} (enc : α → List Value) (s : Nat) (ρ : PH) (p : Option Addr) (l : List α) : Prop := ∀ i x, l[i]? = some x → ∃ b o, p = some ⟨b, o, none⟩ ∧ RdN ρ b (o + i * s) (enc x)
theorem SlE.val {α : Type} {enc : α → List Value} {s : Nat} {ρ : PH} {v : Value} {l : List α} (he : ∀ x, (enc x).length = s) (h : SlE enc s ρ v l) : ∃ p c, v = .slice p l.length c ∧ RowsE enc s ρ p l := by
  obtain ⟨hl, ⟨hn, p, c, rfl⟩ | ⟨b, o, c, rfl, hr⟩⟩ := h
  · refine ⟨p, c, by rw [hn], fun i x hx => ?_⟩
    have : l = [] := List.eq_nil_of_length_eq_zero hn
    subst this
    simp at hx
  · refine ⟨_, c, rfl, fun i x hx => ⟨b, o, rfl, fun j u hu => ?_⟩⟩
    have := hr (i * s + j) u (flat_get he l i x hx j u hu)
    rwa [← Nat.add_assoc] at this
theorem RdN.get {ρ : PH} {b o : Nat} {vs : List Value} (h : RdN ρ b o vs) {j : Nat} {v : Value} (hv : vs[j]? = some v) : rdc ρ b (o + j) = some v := h j v hv
theorem RdN.get0 {ρ : PH} {b o : Nat} {v : Value} {vs : List Value} (h : RdN ρ b o (v :: vs)) : rdc ρ b o = some v := h 0 v rfl

/-- numbers -/
abbrev int (n : Int) : Value := .int .i64 n
def encI (n : Int) : List Value := [int n]
abbrev IntsAt (ρ : PH) (v : Value) (l : List Int) : Prop := SlE encI 1 ρ v l
theorem encI_len (x : Int) : (encI x).length = 1 := rfl
theorem RowsE.int {ρ : PH} {p : Option Addr} {l : List Int} (h : RowsE encI 1 ρ p l) {i : Nat} {x : Int} (hx : l[i]? = some x) : ∃ b o, p = some ⟨b, o, none⟩ ∧ rdc ρ b (o + i) = some (int x) := by
  obtain ⟨b, o, e, hr⟩ := h i x hx
  refine ⟨b, o, e, ?_⟩
  have := hr.get0
  rwa [Nat.mul_one] at this
/-- a block of numbers -/
def ints (l : List Int) : Array Value := (l.map int).toArray
theorem ints_size (l : List Int) : (ints l).size = l.length := by simp [ints]
theorem ints_get {l : List Int} {i : Nat} (h : i < l.length) : (ints l)[i]? = some (int l[i]) := by simp [ints, h]
theorem ints_getD {l : List Int} {i : Nat} (h : i < l.length) : (ints l)[i]? = some (int (l.getD i 0)) := by simp [ints, h]
theorem ints_set (l : List Int) (i : Nat) (x : Int) : (ints l).setIfInBounds i (int x) = ints (l.set i x) := by simp [ints, List.map_set]
theorem ints_rep (n : Nat) (x : Int) : Array.replicate n (int x) = ints (List.replicate n x) := by simp [ints]
theorem intsAt_sng {b : Nat} {l : List Int} {t : TypeId} {c : Nat} : IntsAt (sng b (.cells (ints l) t (0, 0))) (.slice (some ⟨b, 0, none⟩) l.length c) l := by
  refine ⟨by rw [flat_len encI_len], .inr ⟨b, 0, c, rfl, fun j u hu => ?_⟩⟩
  rw [rdc_sng, Nat.zero_add]
  have : l.flatMap encI = l.map int := by
    clear hu
    induction l <;> simp_all [encI]
  rw [this] at hu
  simpa [ints] using hu
theorem ownInts {e : TypeId} {v : Value} {l : List Int} {ρ : PH} (h : OwnS e 1 v l.length (l.map int) ρ) : IntsAt ρ v l := by
  have hf : l.flatMap encI = l.map int := by
    clear h
    induction l <;> simp_all [encI]
  have := h.at
  unfold IntsAt SlE
  rw [hf]; exact this

/-- a block of truth values -/
def bools (l : List Bool) : Array Value := (l.map Value.bool).toArray
theorem bools_size (l : List Bool) : (bools l).size = l.length := by simp [bools]
theorem bools_set (l : List Bool) (i : Nat) (x : Bool) : (bools l).setIfInBounds i (.bool x) = bools (l.set i x) := by simp [bools, List.map_set]
theorem bools_rep (n : Nat) (x : Bool) : Array.replicate n (Value.bool x) = bools (List.replicate n x) := by simp [bools]
section
variable {N : Bs} {b i : Nat} {t : TypeId} {fr : Nat × Nat}
theorem cell_ints {l : List Int} (m : Mem (sng b (.cells (ints l) t fr)) H) (h : i < l.length) : Cell N R H b i (int (l.getD i 0)) := cell_own m (ints_getD h)
theorem cell_intsR {l : List Int} (m : Mem (sng b (.cells (ints l) t fr)) R) (h : i < l.length) : Cell N R H b i (int (l.getD i 0)) := cell_R m (by rw [rdc_sng]; exact ints_getD h)
theorem cell_bools {l : List Bool} {x : Bool} (h : l[i]? = some x) (m : Mem (sng b (.cells (bools l) t fr)) H) : Cell N R H b i (.bool x) := cell_own m (by simp [bools, h])
theorem cell_boolsR {l : List Bool} {x : Bool} (h : l[i]? = some x) (m : Mem (sng b (.cells (bools l) t fr)) R) : Cell N R H b i (.bool x) := cell_R m (by rw [rdc_sng]; simp [bools, h])
end
section
variable {dst : Option Tmp} {ty : TypeId} {pos : String} {aft : Array Edge} {g : Option (Nat × Bool)}
theorem q_idx0 {x y : Operand} {t e : TypeId} {b n c : Nat} {k : IntKind} {i : Nat} (h : evalE L x = some (.slice (some ⟨b, 0, none⟩) n c)) (h2 : evalE L y = some (.int k (i : Int))) (ht : elemP C.P t = some e) (hs : szP C.P e = some 1)
    (hn : i < n) : Quiet C R H L ⟨dst, .indexAddr t x y, ty, pos, aft, g⟩ (.pointer (some ⟨b, i, none⟩)) := by
  have := q_idx1 (C := C) (R := R) (H := H) (dst := dst) (ty := ty) (pos := pos) (aft := aft) (g := g) h h2 ht hs hn
  rwa [Nat.zero_add] at this
theorem l_storeI {t T : TypeId} {x y : Operand} {b i : Nat} {l : List Int} {v : Int} {H' : List PH} (h : evalE L x = some (.pointer (some ⟨b, i, none⟩))) (hv : evalE L y = some (int v)) (hn : szP C.P t = some 1)
    (ht : Take (sng b (.cells (ints l) T (0, 0))) H H') (ho : i < l.length) :
    Loud C R H L ⟨dst, .store t x y, ty, pos, aft, g⟩ (fun u H2 => u = undef ∧ H2 = sng b (.cells (ints (l.set i v)) T (0, 0)) :: H') := by
  have := l_store (C := C) (R := R) (L := L) (dst := dst) (ty := ty) (pos := pos) (aft := aft) (g := g) h hv rfl hn ht (by rw [ints_size]; exact ho)
  rwa [ints_set] at this
theorem l_storeB {t T : TypeId} {x y : Operand} {b i : Nat} {l : List Bool} {v : Bool} {H' : List PH} (h : evalE L x = some (.pointer (some ⟨b, i, none⟩))) (hv : evalE L y = some (.bool v)) (hn : szP C.P t = some 1)
    (ht : Take (sng b (.cells (bools l) T (0, 0))) H H') (ho : i < l.length) :
    Loud C R H L ⟨dst, .store t x y, ty, pos, aft, g⟩ (fun u H2 => u = undef ∧ H2 = sng b (.cells (bools (l.set i v)) T (0, 0)) :: H') := by
  have := l_store (C := C) (R := R) (L := L) (dst := dst) (ty := ty) (pos := pos) (aft := aft) (g := g) h hv rfl hn ht (by rw [bools_size]; exact ho)
  rwa [bools_set] at this
theorem l_makeI {x y : Operand} {t e : TypeId} {k1 k2 : IntKind} {n : Nat} (hx : evalE L x = some (.int k1 (n : Int))) (hy : evalE L y = some (.int k2 (n : Int))) (ht : elemP C.P t = some e) (hs : szP C.P e = some 1) (hz : zeroP C.P e = some (int 0)) (hb : bytesP C.P e = some 8)
    (hn : n ≤ 9223372036854775807) (hby : 8 * n ≤ 281474976710656) :
    Loud C R H L ⟨dst, .makeSlice t x y, ty, pos, aft, g⟩ (fun u H2 => ∃ b, u = .slice (some ⟨b, 0, none⟩) n n ∧ H2 = sng b (.cells (ints (List.replicate n 0)) e (0, 0)) :: H) := by
  have := l_make (C := C) (R := R) (H := H) (dst := dst) (ty := ty) (pos := pos) (aft := aft) (g := g) hx hy ht hs hz hb hn hby
  rwa [show (int 0).cells = #[int 0] from rfl, Nat.mul_one, madeCells_one, ints_rep] at this
theorem l_makeB {x y : Operand} {t e : TypeId} {k1 k2 : IntKind} {n : Nat} (hx : evalE L x = some (.int k1 (n : Int))) (hy : evalE L y = some (.int k2 (n : Int))) (ht : elemP C.P t = some e) (hs : szP C.P e = some 1) (hz : zeroP C.P e = some (.bool false)) (hb : bytesP C.P e = some 1)
    (hn : n ≤ 9223372036854775807) (hby : 1 * n ≤ 281474976710656) :
    Loud C R H L ⟨dst, .makeSlice t x y, ty, pos, aft, g⟩ (fun u H2 => ∃ b, u = .slice (some ⟨b, 0, none⟩) n n ∧ H2 = sng b (.cells (bools (List.replicate n false)) e (0, 0)) :: H) := by
  have := l_make (C := C) (R := R) (H := H) (dst := dst) (ty := ty) (pos := pos) (aft := aft) (g := g) hx hy ht hs hz hb hn hby
  rwa [show (Value.bool false).cells = #[.bool false] from rfl, Nat.mul_one, madeCells_one, bools_rep] at this
end

/-! chunks that are variables -/
theorem Takes.all : ∀ {H : List PH}, Takes H H []
  | [] => Takes.nil
  | _ :: _ => Takes.cons Take.here Takes.all
theorem Take.skip {ρ σ : PH} {H H' : List PH} (h : Take ρ H H') : Take ρ (σ :: H) (σ :: H') := Take.there h
theorem Takes.skip {σ : PH} {H T H' : List PH} (h : Takes H T H') : Takes (σ :: H) T (σ :: H') := by
  induction h with
  | nil => exact Takes.nil
  | cons t _ ih => exact Takes.cons (Take.there t) ih
theorem Sel.left : ∀ {H F : List PH}, Sel (H ++ F) H
  | [], _ => Sel.nil
  | _ :: _, _ => Sel.cons Take.here Sel.left
theorem Sel.refl : ∀ {H : List PH}, Sel H H
  | [] => Sel.nil
  | _ :: _ => Sel.cons Take.here Sel.refl
theorem Sel.skip {σ : PH} {H H' : List PH} (h : Sel H H') : Sel (σ :: H) H' := by
  induction h with
  | nil => exact Sel.nil
  | cons t _ ih => exact Sel.cons (Take.there t) ih
/-- two chunks become one -/
def PH.sub (ρ γ : PH) : Prop := ∀ b o, ρ b = some o → γ b = some o
theorem PH.sub.rdc {ρ γ : PH} (h : PH.sub ρ γ) {b o : Nat} {v : Value} (hv : Eng.rdc ρ b o = some v) : Eng.rdc γ b o = some v := by
  unfold Eng.rdc at hv ⊢
  cases e : ρ b with
  | none => rw [e] at hv; simp at hv
  | some ob => rw [e] at hv; rw [h b ob e]; exact hv
theorem PH.sub.slE {α : Type} {enc : α → List Value} {s : Nat} {ρ γ : PH} (h : PH.sub ρ γ) {v : Value} {l : List α} (hv : SlE enc s ρ v l) : SlE enc s γ v l := by
  obtain ⟨h1, h2 | ⟨b, o, c, e, h2⟩⟩ := hv
  · exact ⟨h1, .inl h2⟩
  · exact ⟨h1, .inr ⟨b, o, c, e, fun j u hu => h.rdc (h2 j u hu)⟩⟩
theorem PH.sub.trans {ρ σ τ : PH} (h : PH.sub ρ σ) (h' : PH.sub σ τ) : PH.sub ρ τ := fun b o hb => h' b o (h b o hb)
theorem jk_join {ρ σ : PH} {H1 H2 : List PH} (t1 : Take ρ H H1) (t2 : Take σ H1 H2) (h : ∀ γ, PH.sub ρ γ → PH.sub σ γ → JK C D R (γ :: H2) L K) : JK C D R H L K := by
  by_cases hd : ρ.disj σ
  · let γ : PH := fun b => match ρ b with
      | some o => some o
      | none => σ b
    have g1 : PH.sub ρ γ := fun b o hb => by simp only [γ, hb]
    have g2 : PH.sub σ γ := fun b o hb => by
      have := (hd b).resolve_right (by simp [hb])
      simp only [γ, this, hb]
    have g3 : ∀ b, γ b ≠ none → ρ b ≠ none ∨ σ b ≠ none := fun b hb => by
      cases e : ρ b with
      | some o => left; simp
      | none => right; simp only [γ, e] at hb; exact hb
    refine ⟨fun a w hf hdf hs => (h γ g1 g2).run a w hf hdf ?_⟩
    have s1 := hs.take t1
    have s2 := s1.tail.take t2
    have p1 := t1.pw hs.hd
    have p2 := t2.pw p1.1
    have hγ : ∀ τ : PH, ρ.disj τ → σ.disj τ → γ.disj τ := fun τ a1 a2 b => by
      by_cases e : γ b = none
      · exact .inl e
      · rcases g3 b e with e1 | e1
        · exact .inr ((a1 b).resolve_left e1)
        · exact .inr ((a2 b).resolve_left e1)
    refine ⟨hs.sz, hs.r, fun τ hτ => ?_, List.pairwise_cons.2 ⟨fun τ hτ => hγ τ (p1.2 τ (t2.sub τ hτ)) (p2.2 τ hτ), p2.1⟩, fun τ hτ υ hυ => ?_⟩
    · simp at hτ
      rcases hτ with rfl | hτ
      · intro b o hb
        cases e : ρ b with
        | some o' =>
          simp only [γ, e] at hb
          have := hs.h ρ t1.mem b o' e
          rw [this]; exact hb
        | none =>
          simp only [γ, e] at hb
          exact hs.h σ (t1.sub σ t2.mem) b o hb
      · exact hs.h τ (t1.sub τ (t2.sub τ hτ))
    · simp at hυ
      rcases hυ with rfl | hυ
      · exact (hγ τ (hs.rd τ hτ ρ t1.mem).symm (hs.rd τ hτ σ (t1.sub σ t2.mem)).symm).symm
      · exact hs.rd τ hτ υ (t1.sub υ (t2.sub υ hυ))
  · refine ⟨fun a w hf hdf hs => ?_⟩
    exact absurd ((t1.pw hs.hd).2 σ t2.mem) hd
section
variable {all : Array Oper} {rest : List Oper} {d : Nat} {ty : TypeId} {x : Operand} {xs : Array Operand} {ts : Array TypeId} {pos : String} {aft : Array Edge} {g : Option (Nat × Bool)} {f : Value} {vs : List Value} {R1 H1 H2 : List PH}
theorem jk_callH {post : Value → List PH → Prop} (hs : Spec C.P f vs R1 H1 post) (hf : evalE L x = some f) (ha : evalEs L xs.toList = some vs) (ht : Takes H H1 H2) (hr : RdOK R1 R H2) (hg : wantE all L ⟨some d, .call ⟨.value x, xs, ts⟩, ty, pos, aft, g⟩ = some true) (hM : Nat.blt d C.M = true)
    (h : ∀ v H', post v H' → JK C D R (H' ++ H2) ((d, v) :: L) (.ops all rest :: K)) : JK C D R H L (.ops all (⟨some d, .call ⟨.value x, xs, ts⟩, ty, pos, aft, g⟩ :: rest) :: K) :=
  jk_op (loud_call hs hf ha ht hr) hg rfl hM (fun v H' ⟨H1', e, hp⟩ => by subst e; exact h v H1' hp)
variable {done ps ls : List Nat} {i : Nat} {plan : Pl} {Hf : List PH}
theorem a_callH {post : Value → List PH → Prop} (ho : all[i]? = some ⟨some d, .call ⟨.value x, xs, ts⟩, ty, pos, aft, g⟩) (hs : Spec C.P f vs R1 H1 post) (hf : evalE L x = some f) (ha : evalEs L xs.toList = some vs) (ht : Takes H H1 H2) (hr : RdOK R1 R H2) (hg : wantE all L ⟨some d, .call ⟨.value x, xs, ts⟩, ty, pos, aft, g⟩ = some true) (hM : Nat.blt d C.M = true)
    (hsub : ∀ v H', post v H' → ∀ w, Sat C.N R (H' ++ H2) w → Sat C.N R Hf w)
    (h : ∀ v H', post v H' → DJ C D R Hf (H' ++ H2) ((d, v) :: L) all (i :: done) ps (i :: ls) plan K) : ActOK C D R Hf H L all done ps ls i .b plan K :=
  a_b ho (loud_call hs hf ha ht hr) hg rfl hM (fun v H' ⟨H1', e, hp⟩ w hw => by subst e; exact hsub v H1' hp w hw) (fun v H' ⟨H1', e, hp⟩ => by subst e; exact h v H1' hp)
/-- a call that makes memory of its own, next to reads -/
theorem a_callM {post : Value → List PH → Prop} (ho : all[i]? = some ⟨some d, .call ⟨.value x, xs, ts⟩, ty, pos, aft, g⟩) (hs : Spec C.P f vs R1 [] post) (hf : evalE L x = some f) (ha : evalEs L xs.toList = some vs) (hr : RdOK R1 R H) (hg : wantE all L ⟨some d, .call ⟨.value x, xs, ts⟩, ty, pos, aft, g⟩ = some true) (hM : Nat.blt d C.M = true)
    (h : ∀ v H', post v H' → DJ C D R Hf (H' ++ H) ((d, v) :: L) all (i :: done) ps (i :: ls) plan K) : ActOK C D R Hf H L all done ps ls i .e plan K :=
  a_e ho (loud_call hs hf ha Takes.nil hr) hg rfl hM (fun v H' ⟨H1', e, hp⟩ w hw => by
    subst e
    exact ⟨hw.sz, hw.r, fun ρ hρ => hw.h ρ (by simp [hρ]), (List.pairwise_append.1 hw.hd).2.1, fun ρ hρ σ hσ => hw.rd ρ hρ σ (by simp [hσ])⟩) (fun v H' ⟨H1', e, hp⟩ => by subst e; exact h v H1' hp)
end
end Go.Eng
