/- Numbers in two words. No conditions. -/
import Derived.Test.YtbcibkopcbhgfaaWMbBits
import Derived.Shelf.Spec.BitsCarry
set_option linter.all false
namespace Go.Eng
variable {C : Cx} {R H : List PH} {L : Env}
def wHi (S : Int) : Nat := ((S / 18446744073709551616) % 18446744073709551616).toNat
def wLo (S : Int) : Nat := (S % 18446744073709551616).toNat
def sLo (S : Int) : Int := if wLo S < 9223372036854775808 then (wLo S : Int) else (wLo S : Int) - 18446744073709551616
theorem wLo_le (S : Int) : wLo S ≤ 18446744073709551615 := by unfold wLo; omega
theorem wHi_le (S : Int) : wHi S ≤ 18446744073709551615 := by unfold wHi; omega
theorem wide_add (S : Int) (P : Nat) : wLo (S + P) = (wLo S + P % 18446744073709551616 + 0) % 18446744073709551616 ∧ wHi (S + P) = (wHi S + P / 18446744073709551616 + (wLo S + P % 18446744073709551616 + 0) / 18446744073709551616) % 18446744073709551616 := by
  unfold wHi wLo
  constructor <;> omega
theorem wide_sub (S : Int) (P : Nat) : wLo (S - P) = (wLo S + 18446744073709551616 - P % 18446744073709551616 - 0) % 18446744073709551616 ∧ (P / 18446744073709551616 ≤ 67108864 → wHi (S - P) = (wHi S + 18446744073709551616 - P / 18446744073709551616 - (if wLo S < P % 18446744073709551616 + 0 then 1 else 0)) % 18446744073709551616) := by
  unfold wHi wLo
  constructor
  · omega
  · intro h
    split <;> omega
theorem wrap_i64 (n : Nat) (h : n ≤ 18446744073709551615) : IntKind.i64.wrap (n : Int) = if n < 9223372036854775808 then (n : Int) else (n : Int) - 18446744073709551616 := by
  have e : IntKind.i64.wrap (n : Int) = if (n : Int) % 18446744073709551616 ≥ 9223372036854775808 then (n : Int) % 18446744073709551616 - 18446744073709551616 else (n : Int) % 18446744073709551616 := by
    show (let m := (n : Int) % (2 ^ IntKind.i64.bits : Int); if IntKind.i64.signed && m ≥ (2 ^ (IntKind.i64.bits - 1) : Int) then m - (2 ^ IntKind.i64.bits : Int) else m) = _
    simp [IntKind.signed, IntKind.bits]
  rw [e]
  split <;> split <;> omega
/-- what a number in two words is -/
theorem wide_cases (S : Int) (h1 : -2475880078570760549798248448 ≤ S) (h2 : S ≤ 2475880078570760549798248448) :
    (wHi S = 0 → 0 ≤ S ∧ (sLo S < 0 → 9223372036854775808 ≤ S) ∧ (0 ≤ sLo S → S = sLo S)) ∧ (wHi S = 18446744073709551615 → S < 0 ∧ (0 ≤ sLo S → S < -9223372036854775808) ∧ (sLo S < 0 → S = sLo S)) ∧ (wHi S ≠ 0 → wHi S ≠ 18446744073709551615 → S < -9223372036854775808 ∨ 9223372036854775808 ≤ S) := by
  unfold sLo wHi wLo
  refine ⟨fun h => ?_, fun h => ?_, fun ha hb => ?_⟩
  · refine ⟨by omega, fun h3 => ?_, fun h3 => ?_⟩
    · split at h3 <;> omega
    · split at h3 <;> omega
  · refine ⟨by omega, fun h3 => ?_, fun h3 => ?_⟩
    · split at h3 <;> omega
    · split at h3 <;> omega
  · omega
section
variable {dst : Option Tmp} {ty : TypeId} {pos : String} {aft : Array Edge} {g : Option (Nat × Bool)}
theorem q_mulW {x y : Operand} {xT yT : TypeId} {m n : Nat} (h1 : evalE L x = some (.int .u64 (m : Int))) (h2 : evalE L y = some (.int .u64 (n : Int))) : Quiet C R H L ⟨dst, .binOp .mul xT x y yT, ty, pos, aft, g⟩ (.int .u64 ((m * n % 18446744073709551616 : Nat) : Int)) := by
  have := q_arith (C := C) (R := R) (H := H) (dst := dst) (ty := ty) (pos := pos) (aft := aft) (g := g) (xT := xT) (yT := yT) (op := .mul) (f := (· * ·)) (.inr (.inr ⟨rfl, rfl⟩)) h1 h2
  have e : IntKind.u64.wrap ((m : Int) * (n : Int)) = ((m * n % 18446744073709551616 : Nat) : Int) := by
    have e1 : ∀ k : Int, IntKind.u64.wrap k = k % 18446744073709551616 := fun k => by
      show (let m := k % (2 ^ IntKind.u64.bits : Int); if IntKind.u64.signed && m ≥ (2 ^ (IntKind.u64.bits - 1) : Int) then m - (2 ^ IntKind.u64.bits : Int) else m) = _
      rfl
    rw [e1, ← Int.natCast_mul]
    omega
  rwa [e] at this
theorem q_add64 {x : Operand} {xs : Array Operand} {ts : Array TypeId} {f : FuncId} {fn : Func} {m n c : Nat} (hf : evalE L x = some (fv f)) (ha : evalEs L xs.toList = some [.int .u64 (m : Int), .int .u64 (n : Int), .int .u64 (c : Int)]) (hfn : C.P.funcs[f]? = some fn) (hname : (fn.name == "runtime.NumGoroutine") = false)
    (hb : fn.body.isNone = true) (hn : Extern.findNext fn = none) (he : Extern.find fn = some add64Entry) (hc : c ≤ 1) :
    Quiet C R H L ⟨dst, .call ⟨.value x, xs, ts⟩, ty, pos, aft, g⟩ (.tuple #[.int .u64 (((m + n + c) % 18446744073709551616 : Nat) : Int), .int .u64 (((m + n + c) / 18446744073709551616 : Nat) : Int)]) := by
  refine q_ext hf ha hfn hname hb hn he (fun w => ?_)
  have := run_add64 (P := C.P) (m : Int) (n : Int) (c : Int) (by omega) (by omega) (by omega) (by omega) w
  rw [show ((m : Int) + (n : Int) + (c : Int)) % 18446744073709551616 = (((m + n + c) % 18446744073709551616 : Nat) : Int) from by omega, show ((m : Int) + (n : Int) + (c : Int)) / 18446744073709551616 = (((m + n + c) / 18446744073709551616 : Nat) : Int) from by omega] at this
  exact this
theorem q_sub64 {x : Operand} {xs : Array Operand} {ts : Array TypeId} {f : FuncId} {fn : Func} {m n c : Nat} (hf : evalE L x = some (fv f)) (ha : evalEs L xs.toList = some [.int .u64 (m : Int), .int .u64 (n : Int), .int .u64 (c : Int)]) (hfn : C.P.funcs[f]? = some fn) (hname : (fn.name == "runtime.NumGoroutine") = false)
    (hb : fn.body.isNone = true) (hn : Extern.findNext fn = none) (he : Extern.find fn = some Go.Proofs.sub64Entry) (hc : c ≤ 1) :
    Quiet C R H L ⟨dst, .call ⟨.value x, xs, ts⟩, ty, pos, aft, g⟩ (.tuple #[.int .u64 (((m + 18446744073709551616 - n - c) % 18446744073709551616 : Nat) : Int), .int .u64 ((if m < n + c then 1 else 0 : Nat) : Int)]) :=
  q_ext hf ha hfn hname hb hn he (fun w => Go.Proofs.run_sub64 (P := C.P) m n c hc w)
end
end Go.Eng
