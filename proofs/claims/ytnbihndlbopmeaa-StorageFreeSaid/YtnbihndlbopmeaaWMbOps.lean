/- The operations of the walk, each with its rule. No conditions. -/
import Derived.Test.YtnbihndlbopmeaaWMbEng
import Derived.IntWalk
set_option linter.all false
namespace Go.Eng
variable {C : Cx} {D : List Deferred} {R H : List PH} {L : Env} {K : List It}
variable {dst : Option Tmp} {ty : TypeId} {pos : String} {aft : Array Edge} {g : Option (Nat × Bool)}

theorem q_move {x : Operand} {v : Value} (h : evalE L x = some v) : Quiet C R H L ⟨dst, .move x, ty, pos, aft, g⟩ v :=
  ⟨by intro c; simp, fun a w hx _ => by simp [execOp, hx x (by simp [Op.operands]) v h]⟩
theorem q_assign {x : Operand} {v : Value} (h : evalE L x = some v) : Quiet C R H L ⟨dst, .assign x, ty, pos, aft, g⟩ v :=
  ⟨by intro c; simp, fun a w hx _ => by simp [execOp, hx x (by simp [Op.operands]) v h]⟩
theorem q_pick_t {c x y : Operand} {v : Value} (hc : evalE L c = some (.bool true)) (h : evalE L x = some v) : Quiet C R H L ⟨dst, .pick c x y, ty, pos, aft, g⟩ v :=
  ⟨by intro c; simp, fun a w hx _ => by
    simp [execOp, hx x (by simp [Op.operands]) v h, hx c (by simp [Op.operands]) _ hc, asBool]⟩
theorem q_pick_f {c x y : Operand} {v : Value} (hc : evalE L c = some (.bool false)) (h : evalE L y = some v) : Quiet C R H L ⟨dst, .pick c x y, ty, pos, aft, g⟩ v :=
  ⟨by intro c; simp, fun a w hx _ => by
    simp [execOp, hx y (by simp [Op.operands]) v h, hx c (by simp [Op.operands]) _ hc, asBool]⟩
theorem q_extract {x : Operand} {i : Nat} {vs : Array Value} {v : Value} (h : evalE L x = some (.tuple vs)) (hi : vs[i]? = some v) : Quiet C R H L ⟨dst, .extract x i, ty, pos, aft, g⟩ v :=
  ⟨by intro c; simp, fun a w hx _ => by simp [execOp, hx x (by simp [Op.operands]) _ h, Instr.extract, hi]⟩
theorem q_makeFunc {fn : Fn} {first cap : Array Operand} {fs cs : List Value} (h1 : evalEs L first.toList = some fs) (h2 : evalEs L cap.toList = some cs) :
    Quiet C R H L ⟨dst, .makeFunc fn first cap, ty, pos, aft, g⟩ (.func fn fs.toArray cs.toArray) :=
  ⟨by intro c; simp, fun a w hx _ => by
    have e1 := evalEs_map (a := a) h1 (fun y hy => hx y (by simp [Op.operands]; left; simpa using hy))
    have e2 := evalEs_map (a := a) h2 (fun y hy => hx y (by simp [Op.operands]; right; simpa using hy))
    have f1 : first.map a.eval = fs.toArray := by rw [← e1, ← Array.toList_map]
    have f2 : cap.map a.eval = cs.toArray := by rw [← e2, ← Array.toList_map]
    simp [execOp, Instr.makeFunc, f1, f2]⟩
theorem q_nilCheck {x : Operand} {ad : Addr} (h : evalE L x = some (.pointer (some ad))) : Quiet C R H L ⟨dst, .nilCheck x, ty, pos, aft, g⟩ (.pointer (some ad)) :=
  ⟨by intro c; simp, fun a w hx _ => by simp [execOp, hx x (by simp [Op.operands]) _ h]⟩
theorem q_nilCheckF {x : Operand} {f : FuncId} {fs cs : Array Value} (h : evalE L x = some (.func (.func f) fs cs)) : Quiet C R H L ⟨dst, .nilCheck x, ty, pos, aft, g⟩ (.func (.func f) fs cs) :=
  ⟨by intro c; simp, fun a w hx _ => by simp [execOp, hx x (by simp [Op.operands]) _ h]⟩
theorem q_nilCheckY {x : Operand} {l : Nat} {fs cs : Array Value} (h : evalE L x = some (.func (.yield l) fs cs)) : Quiet C R H L ⟨dst, .nilCheck x, ty, pos, aft, g⟩ (.func (.yield l) fs cs) :=
  ⟨by intro c; simp, fun a w hx _ => by simp [execOp, hx x (by simp [Op.operands]) _ h]⟩

/-! #### integers -/
def In64 (n : Int) : Prop := -9223372036854775808 ≤ n ∧ n ≤ 9223372036854775807
theorem wrap_in {n : Int} (h : In64 n) : IntKind.i64.wrap n = n := IntWalk.i64_in n h
section
variable {op : BinOp} {xT yT : TypeId} {x y : Operand} {k : IntKind} {m n : Int}
theorem q_arith {f : Int → Int → Int} (hop : (op = .add ∧ f = (· + ·)) ∨ (op = .sub ∧ f = (· - ·)) ∨ (op = .mul ∧ f = (· * ·))) (h1 : evalE L x = some (.int k m)) (h2 : evalE L y = some (.int k n)) :
    Quiet C R H L ⟨dst, .binOp op xT x y yT, ty, pos, aft, g⟩ (.int k (k.wrap (f m n))) :=
  ⟨by intro c; simp, fun a w hx _ => by
    have e1 := hx x (by simp [Op.operands]) _ h1
    have e2 := hx y (by simp [Op.operands]) _ h2
    rcases hop with ⟨rfl, rfl⟩ | ⟨rfl, rfl⟩ | ⟨rfl, rfl⟩ <;> simp [execOp, e1, e2, eqGuard, binOp, Op.intArith]⟩
theorem q_add (h1 : evalE L x = some (.int .i64 m)) (h2 : evalE L y = some (.int .i64 n)) (hr : In64 (m + n)) : Quiet C R H L ⟨dst, .binOp .add xT x y yT, ty, pos, aft, g⟩ (.int .i64 (m + n)) := by
  have := q_arith (C := C) (R := R) (H := H) (dst := dst) (ty := ty) (pos := pos) (aft := aft) (g := g) (xT := xT) (yT := yT) (.inl ⟨rfl, rfl⟩) h1 h2
  rwa [wrap_in hr] at this
theorem q_sub (h1 : evalE L x = some (.int .i64 m)) (h2 : evalE L y = some (.int .i64 n)) (hr : In64 (m - n)) : Quiet C R H L ⟨dst, .binOp .sub xT x y yT, ty, pos, aft, g⟩ (.int .i64 (m - n)) := by
  have := q_arith (C := C) (R := R) (H := H) (dst := dst) (ty := ty) (pos := pos) (aft := aft) (g := g) (xT := xT) (yT := yT) (.inr (.inl ⟨rfl, rfl⟩)) h1 h2
  rwa [wrap_in hr] at this
theorem q_mul (h1 : evalE L x = some (.int .i64 m)) (h2 : evalE L y = some (.int .i64 n)) (hr : In64 (m * n)) : Quiet C R H L ⟨dst, .binOp .mul xT x y yT, ty, pos, aft, g⟩ (.int .i64 (m * n)) := by
  have := q_arith (C := C) (R := R) (H := H) (dst := dst) (ty := ty) (pos := pos) (aft := aft) (g := g) (xT := xT) (yT := yT) (.inr (.inr ⟨rfl, rfl⟩)) h1 h2
  rwa [wrap_in hr] at this
/-- the counter of a loop -/
theorem q_inc {j : Nat} (h1 : evalE L x = some (.int .i64 (j : Int))) (h2 : evalE L y = some (.int .i64 1)) (hr : (j : Int) ≤ 9223372036854775806) : Quiet C R H L ⟨dst, .binOp .add xT x y yT, ty, pos, aft, g⟩ (.int .i64 ((j + 1 : Nat) : Int)) := by
  have := q_add (C := C) (R := R) (H := H) (dst := dst) (ty := ty) (pos := pos) (aft := aft) (g := g) (xT := xT) (yT := yT) h1 h2 ⟨by omega, by omega⟩
  simpa using this
theorem q_quo (h1 : evalE L x = some (.int .i64 m)) (h2 : evalE L y = some (.int .i64 n)) (hm : 0 ≤ m) (hn : 0 < n) (hr : m ≤ 9223372036854775807) : Quiet C R H L ⟨dst, .binOp .quo xT x y yT, ty, pos, aft, g⟩ (.int .i64 (m / n)) :=
  ⟨by intro c; simp, fun a w hx _ => by
    have e1 := hx x (by simp [Op.operands]) _ h1
    have e2 := hx y (by simp [Op.operands]) _ h2
    have hz : n ≠ 0 := by omega
    have hd : m.tdiv n = m / n := Int.tdiv_eq_ediv_of_nonneg hm
    have hb : In64 (m / n) := by
      have h3 := Int.ediv_nonneg hm (Int.le_of_lt hn)
      have h4 := Int.ediv_le_self n hm
      exact ⟨by omega, by omega⟩
    simp [execOp, e1, e2, eqGuard, binOp, Op.intDiv, hz, hd, wrap_in hb]⟩
theorem q_rem (h1 : evalE L x = some (.int k m)) (h2 : evalE L y = some (.int k n)) (hm : 0 ≤ m) (hn : 0 < n) : Quiet C R H L ⟨dst, .binOp .rem xT x y yT, ty, pos, aft, g⟩ (.int k (m % n)) :=
  ⟨by intro c; simp, fun a w hx _ => by
    have e1 := hx x (by simp [Op.operands]) _ h1
    have e2 := hx y (by simp [Op.operands]) _ h2
    have hz : n ≠ 0 := by omega
    have hd : m.tmod n = m % n := Int.tmod_eq_emod_of_nonneg hm
    simp [execOp, e1, e2, eqGuard, binOp, Op.intDiv, hz, hd]⟩
/-- what a comparison gives -/
def cmpB : BinOp → Int → Int → Option Bool
  | .eql, m, n => some (decide (m = n))
  | .neq, m, n => some (!decide (m = n))
  | .lss, m, n => some (decide (m < n))
  | .leq, m, n => some (decide (m ≤ n))
  | .gtr, m, n => some (decide (n < m))
  | .geq, m, n => some (decide (n ≤ m))
  | _, _, _ => none
theorem q_cmp {b : Bool} (h1 : evalE L x = some (.int k m)) (h2 : evalE L y = some (.int k n)) (hb : cmpB op m n = some b) : Quiet C R H L ⟨dst, .binOp op xT x y yT, ty, pos, aft, g⟩ (.bool b) :=
  ⟨by intro c; simp, fun a w hx _ => by
    have e1 := hx x (by simp [Op.operands]) _ h1
    have e2 := hx y (by simp [Op.operands]) _ h2
    cases op <;> simp only [cmpB, Option.some.injEq, reduceCtorEq] at hb <;> subst hb <;> simp [execOp, e1, e2, eqGuard, binOp, Op.intCmp]
    all_goals (first | rfl | (by_cases h : m = n <;> simp [h]))⟩
theorem q_lt (h1 : evalE L x = some (.int k m)) (h2 : evalE L y = some (.int k n)) (h : m < n) : Quiet C R H L ⟨dst, .binOp .lss xT x y yT, ty, pos, aft, g⟩ (.bool true) := q_cmp h1 h2 (by simp [cmpB, h])
theorem q_ltF (h1 : evalE L x = some (.int k m)) (h2 : evalE L y = some (.int k n)) (h : n ≤ m) : Quiet C R H L ⟨dst, .binOp .lss xT x y yT, ty, pos, aft, g⟩ (.bool false) := q_cmp h1 h2 (by simp [cmpB, h])
theorem q_le (h1 : evalE L x = some (.int k m)) (h2 : evalE L y = some (.int k n)) (h : m ≤ n) : Quiet C R H L ⟨dst, .binOp .leq xT x y yT, ty, pos, aft, g⟩ (.bool true) := q_cmp h1 h2 (by simp [cmpB, h])
theorem q_leF (h1 : evalE L x = some (.int k m)) (h2 : evalE L y = some (.int k n)) (h : n < m) : Quiet C R H L ⟨dst, .binOp .leq xT x y yT, ty, pos, aft, g⟩ (.bool false) := q_cmp h1 h2 (by simp [cmpB, h])
theorem q_gt (h1 : evalE L x = some (.int k m)) (h2 : evalE L y = some (.int k n)) (h : n < m) : Quiet C R H L ⟨dst, .binOp .gtr xT x y yT, ty, pos, aft, g⟩ (.bool true) := q_cmp h1 h2 (by simp [cmpB, h])
theorem q_gtF (h1 : evalE L x = some (.int k m)) (h2 : evalE L y = some (.int k n)) (h : m ≤ n) : Quiet C R H L ⟨dst, .binOp .gtr xT x y yT, ty, pos, aft, g⟩ (.bool false) := q_cmp h1 h2 (by simp [cmpB, h])
theorem q_ge (h1 : evalE L x = some (.int k m)) (h2 : evalE L y = some (.int k n)) (h : n ≤ m) : Quiet C R H L ⟨dst, .binOp .geq xT x y yT, ty, pos, aft, g⟩ (.bool true) := q_cmp h1 h2 (by simp [cmpB, h])
theorem q_geF (h1 : evalE L x = some (.int k m)) (h2 : evalE L y = some (.int k n)) (h : m < n) : Quiet C R H L ⟨dst, .binOp .geq xT x y yT, ty, pos, aft, g⟩ (.bool false) := q_cmp h1 h2 (by simp [cmpB, h])
theorem q_eq (h1 : evalE L x = some (.int k m)) (h2 : evalE L y = some (.int k n)) (h : m = n) : Quiet C R H L ⟨dst, .binOp .eql xT x y yT, ty, pos, aft, g⟩ (.bool true) := q_cmp h1 h2 (by simp [cmpB, h])
theorem q_eqF (h1 : evalE L x = some (.int k m)) (h2 : evalE L y = some (.int k n)) (h : m ≠ n) : Quiet C R H L ⟨dst, .binOp .eql xT x y yT, ty, pos, aft, g⟩ (.bool false) := q_cmp h1 h2 (by simp [cmpB, h])
theorem q_ne (h1 : evalE L x = some (.int k m)) (h2 : evalE L y = some (.int k n)) (h : m ≠ n) : Quiet C R H L ⟨dst, .binOp .neq xT x y yT, ty, pos, aft, g⟩ (.bool true) := q_cmp h1 h2 (by simp [cmpB, h])
theorem q_neF (h1 : evalE L x = some (.int k m)) (h2 : evalE L y = some (.int k n)) (h : m = n) : Quiet C R H L ⟨dst, .binOp .neq xT x y yT, ty, pos, aft, g⟩ (.bool false) := q_cmp h1 h2 (by simp [cmpB, h])
theorem q_not {b : Bool} (h1 : evalE L x = some (.bool b)) : Quiet C R H L ⟨dst, .unOp .not xT x, ty, pos, aft, g⟩ (.bool !b) :=
  ⟨by intro c; simp, fun a w hx _ => by simp [execOp, hx x (by simp [Op.operands]) _ h1, Op.unary]⟩
theorem q_neg (h1 : evalE L x = some (.int .i64 m)) (hr : In64 (0 - m)) : Quiet C R H L ⟨dst, .unOp .neg xT x, ty, pos, aft, g⟩ (.int .i64 (-m)) :=
  ⟨by intro c; simp, fun a w hx _ => by
    have h2 := wrap_in hr
    simp only [Int.zero_sub] at h2
    simp [execOp, hx x (by simp [Op.operands]) _ h1, Op.unary, Op.intArith, h2]⟩
end
/-- may the type be read by one cell? -/
def aggP (P : Program) (t : TypeId) : Option Bool := match P.underlying t with
  | some (.struct _) => some true
  | some (.array _ _) => some true
  | some _ => some false
  | none => none
def szP (P : Program) (t : TypeId) : Option Nat := match P.info? t with
  | some i => some i.size
  | none => none
def zeroP (P : Program) (t : TypeId) : Option Value := match P.info? t with
  | some i => i.zero
  | none => none
def bytesP (P : Program) (t : TypeId) : Option Nat := match P.info? t with
  | some i => some i.bytes
  | none => none
def elemP (P : Program) (t : TypeId) : Option TypeId := match P.underlying t with
  | some (.slice e) => some e
  | _ => none
def kindP (P : Program) (t : TypeId) : Option IntKind := match P.underlying t with
  | some (.int k) => some k
  | _ => none
/-- a field's place; the field has cells -/
def fldP (P : Program) (s : TypeId) (f : Nat) : Option Nat := match P.underlying s with
  | some (.struct fs) => match fs[f]? with
    | some fd => match szP P fd.type with
      | some (_ + 1) => some fd.offset
      | _ => none
    | none => none
  | _ => none
theorem run_isAgg {P : Program} {t : TypeId} {b : Bool} (h : aggP P t = some b) (w : World) : (isAgg t).run P w = .ok b w := by
  unfold aggP at h
  cases hu : P.underlying t with
  | none => simp [hu] at h
  | some d =>
    rw [hu] at h
    cases d <;> simp at h <;> subst h <;> simp [isAgg, run_underlying hu]
theorem run_sizeOf {P : Program} {t : TypeId} {n : Nat} (h : szP P t = some n) (w : World) : (sizeOf t).run P w = .ok n w := by
  unfold szP at h
  cases hu : P.info? t with
  | none => simp [hu] at h
  | some d => rw [hu] at h; simp at h; simp [sizeOf, typeInfo, hu, h]
theorem run_zeroValue {P : Program} {t : TypeId} {v : Value} (h : zeroP P t = some v) (w : World) : (zeroValue t).run P w = .ok v w := by
  unfold zeroP at h
  cases hu : P.info? t with
  | none => simp [hu] at h
  | some d => rw [hu] at h; simp at h; simp [zeroValue, typeInfo, hu, h]
theorem und_elem {P : Program} {t e : TypeId} (h : elemP P t = some e) : P.underlying t = some (.slice e) := by
  unfold elemP at h
  split at h
  · rename_i hu; simp at h; subst h; exact hu
  · simp at h
theorem und_kind {P : Program} {t : TypeId} {k : IntKind} (h : kindP P t = some k) : P.underlying t = some (.int k) := by
  unfold kindP at h
  split at h
  · rename_i hu; simp at h; subst h; exact hu
  · simp at h
theorem q_conv {s d : TypeId} {x : Operand} {k k' : IntKind} {n m : Int} (h : evalE L x = some (.int k' n)) (hs : (C.P.underlying s).isSome = true) (hd : kindP C.P d = some k) (hm : k.wrap n = m) :
    Quiet C R H L ⟨dst, .convert s d x, ty, pos, aft, g⟩ (.int k m) :=
  ⟨by intro c; simp, fun a w hx _ => by
    obtain ⟨u, hu⟩ := Option.isSome_iff_exists.1 hs
    simp [execOp, hx x (by simp [Op.operands]) _ h, convert, run_underlying hu, run_underlying (und_kind hd), Conv.intToInt, hm]⟩
theorem q_len {x : Operand} {t e : TypeId} {b : Option Addr} {n c : Nat} (h : evalE L x = some (.slice b n c)) (ht : elemP C.P t = some e) :
    Quiet C R H L ⟨dst, .call ⟨.builtin .len, #[x], #[t]⟩, ty, pos, aft, g⟩ (.int .i64 (n : Int)) :=
  ⟨by intro c; simp, fun a w hx _ => by
    simp [execOp, resolve, hx x (by simp [Op.operands, Call.operands]) _ h, invoke, builtin, Builtin.len_, run_underlying (und_elem ht), goInt]⟩
theorem q_min {x y : Operand} {t u : TypeId} {k : IntKind} {m n : Int} (h : evalE L x = some (.int k m)) (h2 : evalE L y = some (.int k n)) :
    Quiet C R H L ⟨dst, .call ⟨.builtin .min, #[x, y], #[t, u]⟩, ty, pos, aft, g⟩ (.int k (min m n)) :=
  ⟨by intro c; simp, fun a w hx _ => by
    have : (if n < m then n else m) = min m n := by split <;> omega
    simp [execOp, resolve, hx x (by simp [Op.operands, Call.operands]) _ h, hx y (by simp [Op.operands, Call.operands]) _ h2, invoke, builtin, Builtin.min_, Builtin.min2, this]⟩
theorem q_max {x y : Operand} {t u : TypeId} {k : IntKind} {m n : Int} (h : evalE L x = some (.int k m)) (h2 : evalE L y = some (.int k n)) :
    Quiet C R H L ⟨dst, .call ⟨.builtin .max, #[x, y], #[t, u]⟩, ty, pos, aft, g⟩ (.int k (max m n)) :=
  ⟨by intro c; simp, fun a w hx _ => by
    have : (if m < n then n else m) = max m n := by split <;> omega
    simp [execOp, resolve, hx x (by simp [Op.operands, Call.operands]) _ h, hx y (by simp [Op.operands, Call.operands]) _ h2, invoke, builtin, Builtin.max_, Builtin.max2, this]⟩
end Go.Eng
