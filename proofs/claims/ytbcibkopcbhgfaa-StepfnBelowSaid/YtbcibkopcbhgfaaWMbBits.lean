/- Kinds of numbers turned into one another; halves of sums; shifts. No conditions. -/
import Derived.Test.YtbcibkopcbhgfaaWMbFrame
import Derived.Laws.Externs
set_option linter.all false
namespace Go.Eng
variable {C : Cx} {D : List Deferred} {R H : List PH} {L : Env} {K : List It}
section
variable {dst : Option Tmp} {ty : TypeId} {pos : String} {aft : Array Edge} {g : Option (Nat × Bool)}
theorem wrap_u64 {n : Int} (h : 0 ≤ n ∧ n ≤ 18446744073709551615) : IntKind.u64.wrap n = n := by
  have e : IntKind.u64.wrap n = n % 18446744073709551616 := by
    show (let m := n % (2 ^ IntKind.u64.bits : Int); if IntKind.u64.signed && m ≥ (2 ^ (IntKind.u64.bits - 1) : Int) then m - (2 ^ IntKind.u64.bits : Int) else m) = _
    rfl
  rw [e]; omega
/-- a number that is not negative, as a u64 -/
theorem q_toU {s d : TypeId} {x : Operand} {n : Nat} (h : evalE L x = some (.int .i64 (n : Int))) (hs : (C.P.underlying s).isSome = true) (hd : kindP C.P d = some .u64) (hn : n ≤ 18446744073709551615) :
    Quiet C R H L ⟨dst, .convert s d x, ty, pos, aft, g⟩ (.int .u64 (n : Int)) := q_conv h hs hd (wrap_u64 ⟨by omega, by omega⟩)
theorem q_toI {s d : TypeId} {x : Operand} {n : Nat} (h : evalE L x = some (.int .u64 (n : Int))) (hs : (C.P.underlying s).isSome = true) (hd : kindP C.P d = some .i64) (hn : n ≤ 9223372036854775807) :
    Quiet C R H L ⟨dst, .convert s d x, ty, pos, aft, g⟩ (.int .i64 (n : Int)) := q_conv h hs hd (wrap_in ⟨by omega, by omega⟩)
theorem q_shr {x y : Operand} {xT yT : TypeId} {k k2 : IntKind} {m : Int} {s : Nat} (h1 : evalE L x = some (.int k m)) (h2 : evalE L y = some (.int k2 (s : Int))) (hs : s ≤ k.bits) : Quiet C R H L ⟨dst, .binOp .shr xT x y yT, ty, pos, aft, g⟩ (.int k (m.fdiv (2 ^ s))) :=
  ⟨by intro c; simp, fun a w hx _ => by
    have e1 := hx x (by simp [Op.operands]) _ h1
    have e2 := hx y (by simp [Op.operands]) _ h2
    have h0 : ¬ ((s : Int) < 0) := by omega
    have hm : min s k.bits = s := by omega
    simp [execOp, e1, e2, eqGuard, binOp, Op.shift, h0, hm]⟩
theorem q_half64 {x y : Operand} {xT yT : TypeId} {k : IntKind} {n : Nat} (h1 : evalE L x = some (.int k (n : Int))) (h2 : evalE L y = some (.int k 1)) (hs : 1 ≤ k.bits) : Quiet C R H L ⟨dst, .binOp .shr xT x y yT, ty, pos, aft, g⟩ (.int k ((n / 2 : Nat) : Int)) := by
  have := q_shr (C := C) (R := R) (H := H) (dst := dst) (ty := ty) (pos := pos) (aft := aft) (g := g) (xT := xT) (yT := yT) (s := 1) h1 h2 hs
  have e : (n : Int).fdiv (2 ^ 1) = ((n / 2 : Nat) : Int) := by
    rw [Int.fdiv_eq_ediv_of_nonneg _ (by decide)]; omega
  rwa [e] at this
end
end Go.Eng
namespace Go.Eng
variable {C : Cx} {D : List Deferred} {R H : List PH} {L : Env} {K : List It}
section
variable {dst : Option Tmp} {ty : TypeId} {pos : String} {aft : Array Edge} {g : Option (Nat × Bool)}
/-- a call of a function without a body -/
theorem q_ext {x : Operand} {xs : Array Operand} {ts : Array TypeId} {f : FuncId} {fn : Func} {e : Array Value → Sem Value} {vs : List Value} {v : Value} (hf : evalE L x = some (fv f)) (ha : evalEs L xs.toList = some vs) (hfn : C.P.funcs[f]? = some fn) (hname : (fn.name == "runtime.NumGoroutine") = false)
    (hb : fn.body.isNone = true) (hn : Extern.findNext fn = none) (he : Extern.find fn = some e) (hr : ∀ w, (e vs.toArray).run C.P w = .ok v w) :
    Quiet C R H L ⟨dst, .call ⟨.value x, xs, ts⟩, ty, pos, aft, g⟩ v :=
  ⟨by intro c; simp, fun a w hx _ => by
    have hxv : a.eval x = fv f := hx x (by simp [Op.operands, Call.operands]) _ hf
    have hargs : xs.map a.eval = vs.toArray := by
      have := evalEs_map (a := a) ha (fun y hy => hx y (by simp [Op.operands, Call.operands]; right; simpa using hy))
      have h2 : (xs.map a.eval).toList = vs := by rw [Array.toList_map]; exact this
      rw [← h2]
    have hc := run_callFunc_extern hfn hname hb hn he vs.toArray w
    rw [hr w] at hc
    have hc' : (callFunc f vs.toArray).run C.P w = .ok (.value v) w := hc
    simp only [execOp, resolve, hargs, hxv]
    simp [Deferred.ofValue, invoke, hc']⟩
theorem q_addU {x y : Operand} {xT yT : TypeId} {m n : Nat} (h1 : evalE L x = some (.int .u64 (m : Int))) (h2 : evalE L y = some (.int .u64 (n : Int))) (hr : m + n ≤ 18446744073709551615) : Quiet C R H L ⟨dst, .binOp .add xT x y yT, ty, pos, aft, g⟩ (.int .u64 ((m + n : Nat) : Int)) := by
  have := q_arith (C := C) (R := R) (H := H) (dst := dst) (ty := ty) (pos := pos) (aft := aft) (g := g) (xT := xT) (yT := yT) (op := .add) (f := (· + ·)) (.inl ⟨rfl, rfl⟩) h1 h2
  rwa [show IntKind.u64.wrap ((m : Int) + (n : Int)) = ((m + n : Nat) : Int) from by rw [wrap_u64 ⟨by omega, by omega⟩]; omega] at this
theorem q_mulU {x y : Operand} {xT yT : TypeId} {m n : Nat} (h1 : evalE L x = some (.int .u64 (m : Int))) (h2 : evalE L y = some (.int .u64 (n : Int))) (hr : m * n ≤ 18446744073709551615) : Quiet C R H L ⟨dst, .binOp .mul xT x y yT, ty, pos, aft, g⟩ (.int .u64 ((m * n : Nat) : Int)) := by
  have := q_arith (C := C) (R := R) (H := H) (dst := dst) (ty := ty) (pos := pos) (aft := aft) (g := g) (xT := xT) (yT := yT) (op := .mul) (f := (· * ·)) (.inr (.inr ⟨rfl, rfl⟩)) h1 h2
  have e : ((m : Int) * (n : Int)) = ((m * n : Nat) : Int) := by simp
  rwa [show IntKind.u64.wrap ((m : Int) * (n : Int)) = ((m * n : Nat) : Int) from by rw [e]; exact wrap_u64 ⟨by omega, by omega⟩] at this
/-- the low half of a u64, its high half -/
theorem q_low32 {x y : Operand} {xT yT : TypeId} {m : Nat} (h1 : evalE L x = some (.int .u64 (m : Int))) (h2 : evalE L y = some (.int .u64 4294967295)) (hr : m ≤ 18446744073709551615) : Quiet C R H L ⟨dst, .binOp .and xT x y yT, ty, pos, aft, g⟩ (.int .u64 ((m % 4294967296 : Nat) : Int)) :=
  ⟨by intro c; simp, fun a w hx _ => by
    have e1 := hx x (by simp [Op.operands]) _ h1
    have e2 := hx y (by simp [Op.operands]) _ h2
    have hb : (BitVec.ofInt 64 (m : Int) &&& BitVec.ofInt 64 4294967295).toNat = m % 4294967296 := by
      rw [BitVec.toNat_and]
      have t1 : (BitVec.ofInt 64 (m : Int)).toNat = m := by
        rw [BitVec.toNat_ofInt]
        omega
      have t2 : (BitVec.ofInt 64 (4294967295 : Int)).toNat = 2 ^ 32 - 1 := by decide
      rw [t1, t2, Nat.and_two_pow_sub_one_eq_mod]
    have hw : IntKind.u64.wrap ((m % 4294967296 : Nat) : Int) = ((m % 4294967296 : Nat) : Int) := wrap_u64 ⟨by omega, by omega⟩
    have hb2 : (BitVec.ofInt IntKind.u64.bits (m : Int) &&& BitVec.ofInt IntKind.u64.bits 4294967295).toNat = m % 4294967296 := hb
    simp only [execOp, e1, e2, eqGuard]
    simp only [binOp, Op.intBits, hb2, hw]
    simp⟩
theorem q_high32 {x y : Operand} {xT yT : TypeId} {m : Nat} (h1 : evalE L x = some (.int .u64 (m : Int))) (h2 : evalE L y = some (.int .u64 32)) : Quiet C R H L ⟨dst, .binOp .shr xT x y yT, ty, pos, aft, g⟩ (.int .u64 ((m / 4294967296 : Nat) : Int)) := by
  have := q_shr (C := C) (R := R) (H := H) (dst := dst) (ty := ty) (pos := pos) (aft := aft) (g := g) (xT := xT) (yT := yT) (s := 32) h1 h2 (by decide)
  have e : (m : Int).fdiv (2 ^ 32) = ((m / 4294967296 : Nat) : Int) := by
    rw [Int.fdiv_eq_ediv_of_nonneg _ (by decide)]; omega
  rwa [e] at this
end
end Go.Eng
