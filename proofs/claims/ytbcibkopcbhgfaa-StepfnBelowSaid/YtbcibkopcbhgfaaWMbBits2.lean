import Derived.Test.YtbcibkopcbhgfaaWMbBits
set_option linter.all false
/-! Masks and shifts of signed numbers. -/
namespace Go.Eng
variable {C : Cx} {R H : List PH} {L : Env}
section
variable {dst : Option Tmp} {ty : TypeId} {pos : String} {aft : Array Edge} {g : Option (Nat × Bool)}
theorem mod_dvd_toNat (m : Int) (k : Nat) (hk : k ≤ 64) : (m % 18446744073709551616).toNat % 2 ^ k = (m % (2 ^ k : Nat)).toNat := by
  have h1 : (0 : Int) ≤ m % 18446744073709551616 := Int.emod_nonneg _ (by decide)
  have hp : (0 : Int) < ((2 ^ k : Nat) : Int) := by have := Nat.two_pow_pos k; omega
  have h2 : (0 : Int) ≤ m % ((2 ^ k : Nat) : Int) := Int.emod_nonneg _ (by omega)
  have hd : ((2 ^ k : Nat) : Int) ∣ 18446744073709551616 := by
    have : (2 ^ k) ∣ (2 ^ 64 : Nat) := Nat.pow_dvd_pow 2 hk
    exact Int.natCast_dvd_natCast.2 this
  have e := Int.emod_emod_of_dvd m hd
  have : (((m % 18446744073709551616).toNat % 2 ^ k : Nat) : Int) = ((m % ((2 ^ k : Nat) : Int)).toNat : Int) := by
    rw [Int.natCast_emod, Int.toNat_of_nonneg h1, Int.toNat_of_nonneg h2, e]
  exact Int.ofNat_inj.1 this
theorem q_maskI {x y : Operand} {xT yT : TypeId} {m c : Int} (k : Nat) (h1 : evalE L x = some (.int .i64 m)) (h2 : evalE L y = some (.int .i64 c)) (hk : k ≤ 62) (hc : (BitVec.ofInt 64 c).toNat = 2 ^ k - 1) :
    Quiet C R H L ⟨dst, .binOp .and xT x y yT, ty, pos, aft, g⟩ (.int .i64 (m % (2 ^ k : Nat))) :=
  ⟨by intro c; simp, fun a w hx _ => by
    have e1 := hx x (by simp [Op.operands]) _ h1
    have e2 := hx y (by simp [Op.operands]) _ h2
    have hp : (0 : Int) < ((2 ^ k : Nat) : Int) := by have := Nat.two_pow_pos k; omega
    have hle : (2 ^ k : Nat) ≤ 2 ^ 62 := Nat.pow_le_pow_right (by decide) hk
    have h0 : (0 : Int) ≤ m % ((2 ^ k : Nat) : Int) := Int.emod_nonneg _ (by omega)
    have h3 := Int.emod_lt_of_pos m hp
    have hb : (BitVec.ofInt IntKind.i64.bits m &&& BitVec.ofInt IntKind.i64.bits c).toNat = (m % ((2 ^ k : Nat) : Int)).toNat := by
      show (BitVec.ofInt 64 m &&& BitVec.ofInt 64 c).toNat = _
      rw [BitVec.toNat_and, hc, Nat.and_two_pow_sub_one_eq_mod, BitVec.toNat_ofInt]
      exact mod_dvd_toNat m k (by omega)
    have hw : IntKind.i64.wrap (((m % ((2 ^ k : Nat) : Int)).toNat : Nat) : Int) = m % ((2 ^ k : Nat) : Int) := by
      rw [Int.toNat_of_nonneg h0]
      exact wrap_in ⟨by omega, by omega⟩
    simp only [execOp, e1, e2, eqGuard]
    simp only [binOp, Op.intBits, hb, hw]
    simp⟩
theorem q_shlI {x y : Operand} {xT yT : TypeId} {k2 : IntKind} {m : Int} {s : Nat} (h1 : evalE L x = some (.int .i64 m)) (h2 : evalE L y = some (.int k2 (s : Int))) (hs : s ≤ 64) (hr : In64 (m * 2 ^ s)) :
    Quiet C R H L ⟨dst, .binOp .shl xT x y yT, ty, pos, aft, g⟩ (.int .i64 (m * 2 ^ s)) :=
  ⟨by intro c; simp, fun a w hx _ => by
    have e1 := hx x (by simp [Op.operands]) _ h1
    have e2 := hx y (by simp [Op.operands]) _ h2
    have h0 : ¬ ((s : Int) < 0) := by omega
    have hm : min s IntKind.i64.bits = s := by show min s 64 = s; omega
    have hw := wrap_in hr
    simp [execOp, e1, e2, eqGuard, binOp, Op.shift, h0, hm, hw]⟩
theorem q_shrE {x y : Operand} {xT yT : TypeId} {k2 : IntKind} {m : Int} (s : Nat) (p : Int) (h1 : evalE L x = some (.int .i64 m)) (h2 : evalE L y = some (.int k2 (s : Int))) (hs : s ≤ 64) (hp : (2 : Int) ^ s = p) (h0 : 0 ≤ p) :
    Quiet C R H L ⟨dst, .binOp .shr xT x y yT, ty, pos, aft, g⟩ (.int .i64 (m / p)) := by
  have := q_shr (C := C) (R := R) (H := H) (dst := dst) (ty := ty) (pos := pos) (aft := aft) (g := g) (xT := xT) (yT := yT) (s := s) h1 h2 hs
  rwa [hp, Int.fdiv_eq_ediv_of_nonneg _ h0] at this
end
end Go.Eng
