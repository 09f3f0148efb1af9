/- Small words for the proofs: functions' values, entering a function, tests that part the ways. No conditions. -/
import Derived.Test.YtnbihndlbopmeaaWMbDraw
set_option linter.all false
namespace Go.Eng
variable {C : Cx} {D : List Deferred} {R H : List PH} {L : Env} {K : List It}

abbrev fv (f : Nat) : Value := .func (.func f) #[] #[]
inductive EnvI : Nat → List Value → Env → Prop
  | nil {k : Nat} : EnvI k [] []
  | cons {k : Nat} {v : Value} {vs : List Value} {L : Env} : EnvI (k + 1) vs L → EnvI k (v :: vs) ((k, v) :: L)
theorem EnvI.eq {k : Nat} {vs : List Value} {L : Env} (h : EnvI k vs L) : env0 k vs = L := by
  induction h with
  | nil => rfl
  | cons _ ih => simp [env0, ih]
inductive EnvA : Nat → List Value → List Value → Env → Prop
  | nil {k : Nat} {cap : List Value} {L : Env} : EnvI k cap L → EnvA k [] cap L
  | cons {k : Nat} {v : Value} {vs cap : List Value} {L : Env} : EnvA (k + 1) vs cap L → EnvA k (v :: vs) cap ((k, v) :: L)
theorem EnvA.eq {k : Nat} {vs cap : List Value} {L : Env} (h : EnvA k vs cap L) : env0 k (vs ++ cap) = L := by
  induction h with
  | nil h => exact h.eq
  | cons _ ih => simp [env0, ih]
theorem spec_in {P : Program} {f : FuncId} {fn : Func} {c : Code} {args cap : List Value} {R H : List PH} {post : Value → List PH → Prop} {M : Nat} {L : Env} (hf : P.funcs[f]? = some fn) (hb : fn.body = some c)
    (hname : (fn.name == "runtime.NumGoroutine") = false) (hM : fn.ntmps = M) (hle : Nat.ble (args ++ cap).length M = true) (hL : EnvA 0 args cap L)
    (h : ∀ N β, JK ⟨none, P, FnQ P fn N (β :: R) post, N, M⟩ [] (β :: R) H L [.code c]) : Spec P (.func (.func f) #[] cap.toArray) args R H post := by
  subst hM
  exact spec_of_jk hf hb hname hle (fun N β => by rw [hL.eq]; exact h N β)

theorem cellR {N : Bs} {ρ : PH} {b o : Nat} {v : Value} (h : rdc ρ b o = some v) (m : Mem ρ R) : Cell N R H b o v := cell_R m h
theorem cellH {N : Bs} {ρ : PH} {b o : Nat} {v : Value} (h : rdc ρ b o = some v) (m : Mem ρ H) : Cell N R H b o v := cell_H m h
/-- a row of cells of a partial heap -/
def RdN (ρ : PH) (b o : Nat) (vs : List Value) : Prop := ∀ j v, vs[j]? = some v → rdc ρ b (o + j) = some v
theorem cellsR {N : Bs} {ρ : PH} {b o : Nat} {vs : List Value} (h : RdN ρ b o vs) (m : Mem ρ R) : Cells N R H b o vs := fun _ hs j v hv => rdc_cell (hs.r ρ m.mem) (h j v hv)
theorem cellsH {N : Bs} {ρ : PH} {b o : Nat} {vs : List Value} (h : RdN ρ b o vs) (m : Mem ρ H) : Cells N R H b o vs := fun _ hs j v hv => rdc_cell (hs.h ρ m.mem) (h j v hv)
section
variable {dst : Option Tmp} {ty : TypeId} {pos : String} {aft : Array Edge} {g : Option (Nat × Bool)}
theorem q_fldZ {x : Operand} {s : TypeId} {f : Nat} {b o : Nat} (h : evalE L x = some (.pointer (some ⟨b, o, none⟩))) (hf : fldP C.P s f = some 0) :
    Quiet C R H L ⟨dst, .fieldAddr s x f, ty, pos, aft, g⟩ (.pointer (some ⟨b, o, none⟩)) := q_fld h hf
theorem q_sub_nat {x y : Operand} {xT yT : TypeId} {j : Nat} (h1 : evalE L x = some (.int .i64 (j : Int))) (h2 : evalE L y = some (.int .i64 1)) (hr : 1 ≤ j) (hj : j ≤ 9223372036854775807) : Quiet C R H L ⟨dst, .binOp .sub xT x y yT, ty, pos, aft, g⟩ (.int .i64 ((j - 1 : Nat) : Int)) := by
  have := q_sub (C := C) (R := R) (H := H) (dst := dst) (ty := ty) (pos := pos) (aft := aft) (g := g) (xT := xT) (yT := yT) h1 h2 ⟨by omega, by omega⟩
  rwa [show (j : Int) - 1 = ((j - 1 : Nat) : Int) from by omega] at this
end

/-! tests -/
section
variable {all : Array Oper} {rest : List Oper} {d : Nat} {op : BinOp} {xT yT ty : TypeId} {x y : Operand} {pos : String} {aft : Array Edge} {g : Option (Nat × Bool)} {k : IntKind} {m n : Int}
theorem jk_cmp {p : Prop} [Decidable p] (h1 : evalE L x = some (.int k m)) (h2 : evalE L y = some (.int k n)) (hb : cmpB op m n = some (decide p)) (hg : wantE all L ⟨some d, .binOp op xT x y yT, ty, pos, aft, g⟩ = some true) (hM : Nat.blt d C.M = true)
    (ht : p → JK C D R H ((d, .bool true) :: L) (.ops all rest :: K)) (hf : ¬ p → JK C D R H ((d, .bool false) :: L) (.ops all rest :: K)) :
    JK C D R H L (.ops all (⟨some d, .binOp op xT x y yT, ty, pos, aft, g⟩ :: rest) :: K) := by
  refine jk_q (q_cmp h1 h2 hb) hg rfl hM ?_
  by_cases hp : p
  · simp only [hp, decide_true]; exact ht hp
  · simp only [hp, decide_false]; exact hf hp
variable {done ps ls : List Nat} {i : Nat} {plan : Pl} {Hf : List PH}
theorem dj_cmp {p : Prop} [Decidable p] (ho : all[i]? = some ⟨some d, .binOp op xT x y yT, ty, pos, aft, g⟩) (h1 : evalE L x = some (.int k m)) (h2 : evalE L y = some (.int k n)) (hb : cmpB op m n = some (decide p)) (hg : wantE all L ⟨some d, .binOp op xT x y yT, ty, pos, aft, g⟩ = some true) (hM : Nat.blt d C.M = true) (hin : (ps.all (done.contains ·)) = true)
    (ht : p → DJ C D R Hf H ((d, .bool true) :: L) all (i :: done) ps ls plan K) (hf : ¬ p → DJ C D R Hf H ((d, .bool false) :: L) all (i :: done) ps ls plan K) :
    DJ C D R Hf H L all done ps ls (.q i plan) K := by
  refine dj_q ho (q_cmp h1 h2 hb) hg rfl hM hin ?_
  by_cases hp : p
  · simp only [hp, decide_true]; exact ht hp
  · simp only [hp, decide_false]; exact hf hp
end
theorem cmp_eq (m n : Int) : cmpB .eql m n = some (decide (m = n)) := rfl
theorem cmp_ne (m n : Int) : cmpB .neq m n = some (decide (m ≠ n)) := by simp [cmpB]
theorem cmp_lt (m n : Int) : cmpB .lss m n = some (decide (m < n)) := rfl
theorem cmp_le (m n : Int) : cmpB .leq m n = some (decide (m ≤ n)) := rfl
theorem cmp_gt (m n : Int) : cmpB .gtr m n = some (decide (n < m)) := rfl
theorem cmp_ge (m n : Int) : cmpB .geq m n = some (decide (n ≤ m)) := rfl
/-- a call that only reads, or makes memory that nobody sees -/
abbrev Ans (P : Program) (f : Value) (args : List Value) (R : List PH) (post : Value → Prop) : Prop := Spec P f args R [] (fun v H' => H' = [] ∧ post v)

section
variable {dst : Option Tmp} {ty : TypeId} {pos : String} {aft : Array Edge} {g : Option (Nat × Bool)}
theorem q_loadS {x : Operand} {t : TypeId} {b o : Nat} {vs : List Value} (h : evalE L x = some (.pointer (some ⟨b, o, none⟩))) (ht : aggP C.P t = some true) (hc : Cells C.N R H b o vs) (hn : szP C.P t = some vs.length) :
    Quiet C R H L ⟨dst, .load t x, ty, pos, aft, g⟩ (.agg vs.toArray) := q_loadA h ht hn hc
theorem l_allocS {t : TypeId} {vs : List Value} (hz : zeroP C.P t = some (.agg vs.toArray)) :
    Loud C R H L ⟨dst, .alloc t, ty, pos, aft, g⟩ (fun v H' => ∃ b, v = .pointer (some ⟨b, 0, none⟩) ∧ H' = sng b (.cells vs.toArray t (0, 0)) :: H) := l_alloc hz
theorem l_alloc1 {t : TypeId} {z : Value} (hz : zeroP C.P t = some z) (h1 : z.oneCell' = true) :
    Loud C R H L ⟨dst, .alloc t, ty, pos, aft, g⟩ (fun v H' => ∃ b, v = .pointer (some ⟨b, 0, none⟩) ∧ H' = sng b (.cells #[z] t (0, 0)) :: H) := by
  have hc : z.cells = #[z] := by cases z <;> first | rfl | simp [Value.oneCell'] at h1
  have := l_alloc (C := C) (R := R) (H := H) (L := L) (dst := dst) (ty := ty) (pos := pos) (aft := aft) (g := g) hz
  rwa [hc] at this
theorem l_boxS {t : TypeId} {x : Operand} {vs : List Value} (hv : evalE L x = some (.agg vs.toArray)) :
    Loud C R H L ⟨dst, .box t x, ty, pos, aft, g⟩ (fun u H' => ∃ b, u = .pointer (some ⟨b, 0, none⟩) ∧ H' = sng b (.cells vs.toArray t (0, 0)) :: H) := l_box hv
theorem l_box1 {t : TypeId} {x : Operand} {v : Value} (hv : evalE L x = some v) (h1 : v.oneCell' = true) :
    Loud C R H L ⟨dst, .box t x, ty, pos, aft, g⟩ (fun u H' => ∃ b, u = .pointer (some ⟨b, 0, none⟩) ∧ H' = sng b (.cells #[v] t (0, 0)) :: H) := by
  have hc : v.cells = #[v] := by cases v <;> first | rfl | simp [Value.oneCell'] at h1
  have := l_box (C := C) (R := R) (H := H) (L := L) (dst := dst) (ty := ty) (pos := pos) (aft := aft) (g := g) (t := t) hv
  rwa [hc] at this
/-- a struct written whole into its own block -/
theorem l_storeS {t T : TypeId} {x y : Operand} {b : Nat} {c : Array Value} {vs : List Value} {H' : List PH} (h : evalE L x = some (.pointer (some ⟨b, 0, none⟩))) (hv : evalE L y = some (.agg vs.toArray)) (ht : Take (sng b (.cells c T (0, 0))) H H') (h1 : ∀ v ∈ vs, v.oneCell' = true) (hn : szP C.P t = some vs.length)
    (ho : c.size = vs.length) :
    Loud C R H L ⟨dst, .store t x y, ty, pos, aft, g⟩ (fun u H2 => u = undef ∧ H2 = sng b (.cells vs.toArray T (0, 0)) :: H') := by
  have := l_storeA (C := C) (R := R) (L := L) (dst := dst) (ty := ty) (pos := pos) (aft := aft) (g := g) h hv h1 hn ht (by omega)
  have hd : c.toList.drop (0 + vs.length) = [] := List.drop_of_length_le (by simp; omega)
  rw [hd] at this
  simpa using this
end
section
variable {all : Array Oper} {rest : List Oper} {d : Nat} {ty : TypeId} {x : Operand} {xs : Array Operand} {ts : Array TypeId} {pos : String} {aft : Array Edge} {g : Option (Nat × Bool)} {f : Value} {vs : List Value} {R1 : List PH}
theorem jk_call {post : Value → Prop} (hs : Ans C.P f vs R1 post) (hf : evalE L x = some f) (ha : evalEs L xs.toList = some vs) (hr : RdOK R1 R H) (hg : wantE all L ⟨some d, .call ⟨.value x, xs, ts⟩, ty, pos, aft, g⟩ = some true) (hM : Nat.blt d C.M = true)
    (h : ∀ v, post v → JK C D R H ((d, v) :: L) (.ops all rest :: K)) : JK C D R H L (.ops all (⟨some d, .call ⟨.value x, xs, ts⟩, ty, pos, aft, g⟩ :: rest) :: K) :=
  jk_op (loud_call hs hf ha Takes.nil hr) hg rfl hM (fun v H' ⟨H1, e, e2, hp⟩ => by subst e2; subst e; exact h v hp)
/-- a call that hands back something to be read: new, or one of what it was given -/
abbrev Gives (P : Program) (f : Value) (args : List Value) (R : List PH) (post : Value → PH → Prop) : Prop := Spec P f args R [] (fun v H' => ∃ ρ, post v ρ ∧ (H' = [ρ] ∨ (H' = [] ∧ ρ ∈ R)))
theorem jk_callR {post : Value → PH → Prop} (hs : Gives C.P f vs R1 post) (hf : evalE L x = some f) (ha : evalEs L xs.toList = some vs) (hr : ∀ ρ ∈ R1, ρ ∈ R) (hg : wantE all L ⟨some d, .call ⟨.value x, xs, ts⟩, ty, pos, aft, g⟩ = some true) (hM : Nat.blt d C.M = true)
    (h : ∀ v ρ, post v ρ → JK C D (ρ :: R) H ((d, v) :: L) (.ops all rest :: K)) : JK C D R H L (.ops all (⟨some d, .call ⟨.value x, xs, ts⟩, ty, pos, aft, g⟩ :: rest) :: K) :=
  jk_op (loud_call hs hf ha Takes.nil (fun ρ hρ => .inl (hr ρ hρ))) hg rfl hM (fun v H' ⟨H1, e, ρ, hp, e2⟩ => by
    subst e
    rcases e2 with rfl | ⟨rfl, hm⟩
    · exact jk_freeze Take.here (h v ρ hp)
    · refine ⟨fun a w hfr hd hsat => (h v ρ hp).run a w hfr hd ⟨hsat.sz, fun σ hσ => ?_, hsat.h, hsat.hd, fun σ hσ => ?_⟩⟩
      · simp at hσ
        rcases hσ with rfl | hσ
        · exact hsat.r σ (hr σ hm)
        · exact hsat.r σ hσ
      · simp at hσ
        rcases hσ with rfl | hσ
        · exact hsat.rd σ (hr σ hm)
        · exact hsat.rd σ hσ)
/-- a call that hands back something of its own -/
abbrev Makes (P : Program) (f : Value) (args : List Value) (R : List PH) (post : Value → PH → Prop) : Prop := Spec P f args R [] (fun v H' => ∃ ρ, post v ρ ∧ H' = [ρ])
theorem jk_callM {post : Value → PH → Prop} (hs : Makes C.P f vs R1 post) (hf : evalE L x = some f) (ha : evalEs L xs.toList = some vs) (hr : RdOK R1 R H) (hg : wantE all L ⟨some d, .call ⟨.value x, xs, ts⟩, ty, pos, aft, g⟩ = some true) (hM : Nat.blt d C.M = true)
    (h : ∀ v ρ, post v ρ → JK C D R (ρ :: H) ((d, v) :: L) (.ops all rest :: K)) : JK C D R H L (.ops all (⟨some d, .call ⟨.value x, xs, ts⟩, ty, pos, aft, g⟩ :: rest) :: K) :=
  jk_op (loud_call hs hf ha Takes.nil hr) hg rfl hM (fun v H' ⟨H1, e, ρ, hp, e2⟩ => by subst e2; subst e; exact h v ρ hp)
variable {done ps ls : List Nat} {i : Nat} {plan : Pl} {Hf : List PH}
theorem a_call {post : Value → Prop} (ho : all[i]? = some ⟨some d, .call ⟨.value x, xs, ts⟩, ty, pos, aft, g⟩) (hs : Ans C.P f vs R1 post) (hf : evalE L x = some f) (ha : evalEs L xs.toList = some vs) (hr : RdOK R1 R H) (hg : wantE all L ⟨some d, .call ⟨.value x, xs, ts⟩, ty, pos, aft, g⟩ = some true) (hM : Nat.blt d C.M = true)
    (h : ∀ v, post v → DJ C D R Hf H ((d, v) :: L) all (i :: done) ps (i :: ls) plan K) : ActOK C D R Hf H L all done ps ls i .e plan K :=
  a_e ho (loud_call hs hf ha Takes.nil hr) hg rfl hM (fun v H' ⟨H1, e, e2, hp⟩ w hw => by subst e2; subst e; exact hw) (fun v H' ⟨H1, e, e2, hp⟩ => by subst e2; subst e; exact h v hp)
end
theorem rs_nil {R : List PH} : ∀ ρ ∈ ([] : List PH), ρ ∈ R := by intro ρ h; simp at h
theorem rs_cons {σ : PH} {R1 R : List PH} (m : Mem σ R) (h : ∀ ρ ∈ R1, ρ ∈ R) : ∀ ρ ∈ σ :: R1, ρ ∈ R := by
  intro ρ hρ; simp at hρ
  rcases hρ with rfl | hρ
  · exact m.mem
  · exact h ρ hρ
end Go.Eng
