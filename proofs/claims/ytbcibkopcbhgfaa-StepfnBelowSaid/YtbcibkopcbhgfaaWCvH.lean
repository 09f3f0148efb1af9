/- The reference's product in two words. -/
import Derived.Test.YtbcibkopcbhgfaaWCvG
import Derived.Test.YtbcibkopcbhgfaaWMbBits2
set_option linter.all false
namespace Go.Proofs.Ytbcibkopcbhgfaa
open Go.Eng Go.Step
set_option maxRecDepth 100000
set_option maxHeartbeats 4000000

theorem mul_bd {a d A D : Int} (h1 : -A ≤ a) (h2 : a ≤ A) (h3 : 0 ≤ d) (h4 : d ≤ D) : -(A * D) ≤ a * d ∧ a * d ≤ A * D := by
  have hA : 0 ≤ A := by omega
  have e1 : A * d ≤ A * D := Int.mul_le_mul_of_nonneg_left h4 hA
  have e2 : a * d ≤ A * d := Int.mul_le_mul_of_nonneg_right h2 h3
  have e3 : (-A) * d ≤ a * d := Int.mul_le_mul_of_nonneg_right h1 h3
  rw [Int.neg_mul] at e3
  omega
theorem product_spec (x y : Int) (hx : -1125899906842624 ≤ x ∧ x ≤ 1125899906842624) (hy : 0 ≤ y ∧ y ≤ 1099511627776) :
    Ans Try.prog (fv 49) [int x, int y] [] (fun r => r = .tuple #[int (x * y / 1073741824), int (x * y % 1073741824)]) := by
  obtain ⟨a, b, rfl, hb0, hb1⟩ : ∃ a b : Int, x = a * 33554432 + b ∧ 0 ≤ b ∧ b < 33554432 := ⟨x / 33554432, x % 33554432, by omega, by omega, by omega⟩
  obtain ⟨c, d, rfl, hd0, hd1⟩ : ∃ c d : Int, y = c * 1048576 + d ∧ 0 ≤ d ∧ d < 1048576 := ⟨y / 1048576, y % 1048576, by omega, by omega, by omega⟩
  refine spec_in (cap := []) Try.func49 rfl rfl Try.ntmps49 rfl (by (repeat (first | exact EnvA.nil EnvI.nil | apply EnvA.cons | apply EnvA.nil | exact EnvI.nil | apply EnvI.cons)); first | done | fail) (fun N β => ?_)
  have f1 : (a * 33554432 + b).fdiv (2 ^ 25) = a := by rw [Int.fdiv_eq_ediv_of_nonneg _ (by decide)]; omega
  have f2 : (a * 33554432 + b) % (2 ^ 25 : Nat) = b := by omega
  have f3 : (c * 1048576 + d).fdiv (2 ^ 20) = c := by rw [Int.fdiv_eq_ediv_of_nonneg _ (by decide)]; omega
  have f4 : (c * 1048576 + d) % (2 ^ 20 : Nat) = d := by omega
  refine jk_seq ?_
  refine jk_region ?_
  focus (refine' jk_q _ rfl rfl rfl _; rotate_left; (apply q_assign; exact rfl))
  focus (refine' jk_q _ rfl rfl rfl _; rotate_left; (apply q_assign; exact rfl))
  refine jk_nil ?_
  refine jk_seq ?_
  refine jk_region ?_
  focus (refine' jk_q _ rfl rfl rfl _; rotate_left; (apply q_move; exact rfl))
  focus ((refine' jk_q _ rfl rfl rfl _; rotate_left; (apply q_shr (s := 25); exact rfl; exact rfl; decide)))
  focus (refine' jk_q _ rfl rfl rfl _; rotate_left; (apply q_move; exact rfl))
  focus ((refine' jk_q _ rfl rfl rfl _; rotate_left; (apply q_maskI 25; exact rfl; exact rfl; decide; decide)))
  focus (refine' jk_q _ rfl rfl rfl _; rotate_left; (apply q_assign; exact rfl))
  focus (refine' jk_q _ rfl rfl rfl _; rotate_left; (apply q_assign; exact rfl))
  refine jk_nil ?_
  refine jk_seq ?_
  refine jk_region ?_
  focus (refine' jk_q _ rfl rfl rfl _; rotate_left; (apply q_move; exact rfl))
  focus ((rw [f1]))
  focus ((rw [f2]))
  focus ((refine' jk_q _ rfl rfl rfl _; rotate_left; (apply q_shr (s := 20); exact rfl; exact rfl; decide)))
  focus (refine' jk_q _ rfl rfl rfl _; rotate_left; (apply q_move; exact rfl))
  focus ((refine' jk_q _ rfl rfl rfl _; rotate_left; (apply q_maskI 20; exact rfl; exact rfl; decide; decide)))
  focus (refine' jk_q _ rfl rfl rfl _; rotate_left; (apply q_assign; exact rfl))
  focus (refine' jk_q _ rfl rfl rfl _; rotate_left; (apply q_assign; exact rfl))
  refine jk_nil ?_
  refine jk_seq ?_
  refine jk_region ?_
  focus (refine' jk_q _ rfl rfl rfl _; rotate_left; (apply q_move; exact rfl))
  focus (refine' jk_q _ rfl rfl rfl _; rotate_left; (apply q_move; exact rfl))
  focus ((rw [f3]))
  focus ((rw [f4]))
  have p1 := mul_bd (a := a) (d := d) (A := 33554432) (D := 1048576) (by omega) (by omega) hd0 (by omega)
  have p2 := mul_bd (a := b) (d := c) (A := 33554432) (D := 1048576) (by omega) (by omega) (by omega) (by omega)
  have p3 := mul_bd (a := b) (d := d) (A := 33554432) (D := 1048576) (by omega) (by omega) hd0 (by omega)
  have p4 := mul_bd (a := a) (d := c) (A := 33554432) (D := 1048576) (by omega) (by omega) (by omega) (by omega)
  focus (refine' jk_q _ rfl rfl rfl _; rotate_left; (apply q_mul; exact rfl; exact rfl; exact ⟨by omega, by omega⟩))
  focus ((refine' jk_q _ rfl rfl rfl _; rotate_left; (apply q_maskI 5; exact rfl; exact rfl; decide; decide)))
  focus ((refine' jk_q _ rfl rfl rfl _; rotate_left; (apply q_shlI (s := 25); exact rfl; exact rfl; decide; exact ⟨by omega, by omega⟩)))
  focus (refine' jk_q _ rfl rfl rfl _; rotate_left; (apply q_move; exact rfl))
  focus (refine' jk_q _ rfl rfl rfl _; rotate_left; (apply q_move; exact rfl))
  focus (refine' jk_q _ rfl rfl rfl _; rotate_left; (apply q_mul; exact rfl; exact rfl; exact ⟨by omega, by omega⟩))
  focus ((refine' jk_q _ rfl rfl rfl _; rotate_left; (apply q_maskI 10; exact rfl; exact rfl; decide; decide)))
  focus ((refine' jk_q _ rfl rfl rfl _; rotate_left; (apply q_shlI (s := 20); exact rfl; exact rfl; decide; exact ⟨by omega, by omega⟩)))
  focus (refine' jk_q _ rfl rfl rfl _; rotate_left; (apply q_add; exact rfl; exact rfl; exact ⟨by omega, by omega⟩))
  focus (refine' jk_q _ rfl rfl rfl _; rotate_left; (apply q_move; exact rfl))
  focus (refine' jk_q _ rfl rfl rfl _; rotate_left; (apply q_move; exact rfl))
  focus (refine' jk_q _ rfl rfl rfl _; rotate_left; (apply q_mul; exact rfl; exact rfl; exact ⟨by omega, by omega⟩))
  focus (refine' jk_q _ rfl rfl rfl _; rotate_left; (apply q_add; exact rfl; exact rfl; exact ⟨by omega, by omega⟩))
  focus (refine' jk_q _ rfl rfl rfl _; rotate_left; (apply q_assign; exact rfl))
  refine jk_nil ?_
  refine jk_seq ?_
  refine jk_region ?_
  focus (refine' jk_q _ rfl rfl rfl _; rotate_left; (apply q_move; exact rfl))
  focus (refine' jk_q _ rfl rfl rfl _; rotate_left; (apply q_move; exact rfl))
  focus (refine' jk_q _ rfl rfl rfl _; rotate_left; (apply q_mul; exact rfl; exact rfl; exact ⟨by omega, by omega⟩))
  focus ((refine' jk_q _ rfl rfl rfl _; rotate_left; (apply q_shlI (s := 15); exact rfl; exact rfl; decide; exact ⟨by omega, by omega⟩)))
  focus (refine' jk_q _ rfl rfl rfl _; rotate_left; (apply q_move; exact rfl))
  focus (refine' jk_q _ rfl rfl rfl _; rotate_left; (apply q_move; exact rfl))
  focus (refine' jk_q _ rfl rfl rfl _; rotate_left; (apply q_mul; exact rfl; exact rfl; exact ⟨by omega, by omega⟩))
  focus ((refine' jk_q _ rfl rfl rfl _; rotate_left; (apply q_shrE 5 32; exact rfl; exact rfl; decide; decide; decide)))
  focus (refine' jk_q _ rfl rfl rfl _; rotate_left; (apply q_add; exact rfl; exact rfl; exact ⟨by omega, by omega⟩))
  focus (refine' jk_q _ rfl rfl rfl _; rotate_left; (apply q_move; exact rfl))
  focus (refine' jk_q _ rfl rfl rfl _; rotate_left; (apply q_move; exact rfl))
  focus (refine' jk_q _ rfl rfl rfl _; rotate_left; (apply q_mul; exact rfl; exact rfl; exact ⟨by omega, by omega⟩))
  focus ((refine' jk_q _ rfl rfl rfl _; rotate_left; (apply q_shrE 10 1024; exact rfl; exact rfl; decide; decide; decide)))
  focus (refine' jk_q _ rfl rfl rfl _; rotate_left; (apply q_add; exact rfl; exact rfl; exact ⟨by omega, by omega⟩))
  focus (refine' jk_q _ rfl rfl rfl _; rotate_left; (apply q_move; exact rfl))
  focus ((refine' jk_q _ rfl rfl rfl _; rotate_left; (apply q_shrE 30 1073741824; exact rfl; exact rfl; decide; decide; decide)))
  focus (refine' jk_q _ rfl rfl rfl _; rotate_left; (apply q_add; exact rfl; exact rfl; exact ⟨by omega, by omega⟩))
  focus (refine' jk_q _ rfl rfl rfl _; rotate_left; (apply q_move; exact rfl))
  focus ((refine' jk_q _ rfl rfl rfl _; rotate_left; (apply q_maskI 30; exact rfl; exact rfl; decide; decide)))
  focus (refine' jk_q _ rfl rfl rfl _; rotate_left; (apply q_assign; exact rfl))
  focus (refine' jk_q _ rfl rfl rfl _; rotate_left; (apply q_assign; exact rfl))
  refine jk_nil ?_
  refine jk_ret_any (res2 rfl rfl rfl) (by (repeat (first | exact rs_nil | (refine rs_cons ?_ ?_; (focus ((repeat (first | exact .here | apply Mem.there | apply Take.there)); first | done | fail))) | exact fun ρ hρ => hρ | (intro ρ hρ; repeat (first | exact hρ | refine List.mem_cons_of_mem _ ?_)))); first | done | fail) (by (repeat (first | exact Sel.nil | (apply Sel.cons; (focus ((repeat (first | exact .here | apply Mem.there | apply Take.there)); first | done | fail))))); first | done | fail) ⟨rfl, ?_⟩
  have e : (a * 33554432 + b) * (c * 1048576 + d) = a * c * 35184372088832 + a * d * 33554432 + b * c * 1048576 + b * d := by
    rw [Int.add_mul, Int.mul_add, Int.mul_add]
    have q1 : a * 33554432 * (c * 1048576) = a * c * 35184372088832 := by rw [Int.mul_assoc, Int.mul_left_comm 33554432 c, ← Int.mul_assoc]; rfl
    have q2 : a * 33554432 * d = a * d * 33554432 := by rw [Int.mul_right_comm]
    have q3 : b * (c * 1048576) = b * c * 1048576 := by rw [Int.mul_assoc]
    rw [q1, q2, q3]; omega
  rw [e]
  show Value.tuple _ = Value.tuple _
  generalize a * c = ac at *
  generalize a * d = ad at *
  generalize b * c = bc at *
  generalize b * d = bd at *
  have k1 : ac * 2 ^ 15 + ad / 32 + bc / 1024 + (ad % ((2 ^ 5 : Nat) : Int) * 2 ^ 25 + bc % ((2 ^ 10 : Nat) : Int) * 2 ^ 20 + bd) / 1073741824 = (ac * 35184372088832 + ad * 33554432 + bc * 1048576 + bd) / 1073741824 := by omega
  have k2 : (ad % ((2 ^ 5 : Nat) : Int) * 2 ^ 25 + bc % ((2 ^ 10 : Nat) : Int) * 2 ^ 20 + bd) % ((2 ^ 30 : Nat) : Int) = (ac * 35184372088832 + ad * 33554432 + bc * 1048576 + bd) % 1073741824 := by omega
  rw [k1, k2]
end Go.Proofs.Ytbcibkopcbhgfaa
