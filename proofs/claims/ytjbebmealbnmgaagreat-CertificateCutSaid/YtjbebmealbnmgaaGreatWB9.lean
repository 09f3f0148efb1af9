/- Texts of this proof, one after the other; no conditions. -/
import Derived.Test.YtjbebmealbnmgaaGreatWB7
import Derived.Test.YtjbebmealbnmgaaGreatWB2
import Derived.Test.YtjbebmealbnmgaaGreatWB8
import Derived.Test.YtjbebmealbnmgaaGreatWB6
import Derived.Test.YtjbebmealbnmgaaGreatWB4
set_option linter.all false
/- Joins and meets of cuts. -/
namespace Go.Proofs.YtjbebmealbnmgaaGreat
open Go.Eng Go.Step
set_option maxRecDepth 100000
set_option maxHeartbeats 4000000

def cmbE (a b : Cu) : Int := if a.length ≠ b.length then 10 else if (a ++ b).any (fun l => decide (chkI l ≠ 0)) then 2 else 0
def cmbC (f : Bool → Bool → Bool) (a b : Cu) : Cu := if cmbE a b = 0 then List.zipWith (combI f) a b else []
theorem cmb1_spec (κ : PH) (v : Value) (l : Iv) (hv : SpAt κ v l) (hl : l.length ≤ 9223372036854775807) : Ans Tryz.prog (fv 56) [v] [κ] (fun r => r = .bool (decide (chkI l ≠ 0))) := by
  have hc := ivCheck_spec κ v l hv hl
  obtain ⟨q, c, rfl, _⟩ := hv.val encS_len
  refine spec_in (cap := []) Tryz.func56 rfl rfl Tryz.ntmps56 rfl (by (repeat (first | exact EnvA.nil EnvI.nil | apply EnvA.cons | apply EnvA.nil | exact EnvI.nil | apply EnvI.cons)); first | done | fail) (fun N β => ?_)
  refine jk_seq ?_
  refine jk_region ?_
  refine zq_assign ?_
  refine jk_nil ?_
  refine jk_seq ?_
  refine jk_region ?_
  refine zq_move ?_
  refine jk_call hc rfl rfl rdZ rfl rfl ?_
  rintro _ rfl
  generalize chkI l = z
  by_cases h0 : z = 0
  · rw [decide_eq_false (fun h => h h0)]
    refine zq_neF ?_
    refine zq_assign ?_
    refine jk_nil ?_
    exact jk_ret_any (res1 rfl rfl) (by (repeat (first | exact rs_nil | (refine rs_cons ?_ ?_; (focus ((repeat (first | exact .here | apply Mem.there | apply Take.there)); first | done | fail))) | exact fun ρ hρ => hρ | (intro ρ hρ; repeat (first | exact hρ | refine List.mem_cons_of_mem _ ?_)))); first | done | fail) selZ ⟨rfl, rfl⟩
  · rw [decide_eq_true h0]
    refine zq_ne ?_
    refine zq_assign ?_
    refine jk_nil ?_
    exact jk_ret_any (res1 rfl rfl) (by (repeat (first | exact rs_nil | (refine rs_cons ?_ ?_; (focus ((repeat (first | exact .here | apply Mem.there | apply Take.there)); first | done | fail))) | exact fun ρ hρ => hρ | (intro ρ hρ; repeat (first | exact hρ | refine List.mem_cons_of_mem _ ?_)))); first | done | fail) selZ ⟨rfl, rfl⟩
theorem ivOr_spec (x y : Bool) : Ans Tryz.prog (fv 58) [.bool x, .bool y] [] (fun r => r = .bool (x || y)) := by
  refine spec_in (cap := []) Tryz.func58 rfl rfl Tryz.ntmps58 rfl (by (repeat (first | exact EnvA.nil EnvI.nil | apply EnvA.cons | apply EnvA.nil | exact EnvI.nil | apply EnvI.cons)); first | done | fail) (fun N β => ?_)
  cases x <;> cases y
  all_goals
    repeat' (first
      | (refine zq_move ?_)
      | (refine zq_assign ?_)
      | (refine zq_pick_t ?_)
      | (refine zq_pick_f ?_)
      | (refine jk_seq ?_)
      | (refine jk_region ?_)
      | (refine jk_nil ?_)
      | (refine jk_pass rfl rfl rfl ?_)
      | fail)
    exact jk_ret_any (res1 rfl rfl) (by (repeat (first | exact rs_nil | (refine rs_cons ?_ ?_; (focus ((repeat (first | exact .here | apply Mem.there | apply Take.there)); first | done | fail))) | exact fun ρ hρ => hρ | (intro ρ hρ; repeat (first | exact hρ | refine List.mem_cons_of_mem _ ?_)))); first | done | fail) selZ ⟨rfl, rfl⟩
theorem ivAnd_spec (x y : Bool) : Ans Tryz.prog (fv 62) [.bool x, .bool y] [] (fun r => r = .bool (x && y)) := by
  refine spec_in (cap := []) Tryz.func62 rfl rfl Tryz.ntmps62 rfl (by (repeat (first | exact EnvA.nil EnvI.nil | apply EnvA.cons | apply EnvA.nil | exact EnvI.nil | apply EnvI.cons)); first | done | fail) (fun N β => ?_)
  cases x <;> cases y
  all_goals
    repeat' (first
      | (refine zq_move ?_)
      | (refine zq_assign ?_)
      | (refine zq_pick_t ?_)
      | (refine zq_pick_f ?_)
      | (refine jk_seq ?_)
      | (refine jk_region ?_)
      | (refine jk_nil ?_)
      | (refine jk_pass rfl rfl rfl ?_)
      | fail)
    exact jk_ret_any (res1 rfl rfl) (by (repeat (first | exact rs_nil | (refine rs_cons ?_ ?_; (focus ((repeat (first | exact .here | apply Mem.there | apply Take.there)); first | done | fail))) | exact fun ρ hρ => hρ | (intro ρ hρ; repeat (first | exact hρ | refine List.mem_cons_of_mem _ ?_)))); first | done | fail) selZ ⟨rfl, rfl⟩
theorem ivUnion_spec (ρ τ : PH) (va vb : Value) (a b : Iv) (ha : SpAt ρ va a) (hb : SpAt τ vb b) (h0a : chkI a = 0) (h0b : chkI b = 0) (hlen : a.length + b.length ≤ 1000) :
    Makes Tryz.prog (fv 32) [va, vb] [ρ, τ] (fun r σ => ∃ u, r = .tuple #[u, int 0] ∧ OwnS 53 2 u (combI (fun x y => x || y) a b).length ((combI (fun x y => x || y) a b).flatMap encS) σ) := by
  have h := ivCombine_spec ρ τ va vb 58 a b (fun x y => x || y) ha hb h0a h0b hlen rfl ivOr_spec
  obtain ⟨qa, ca, rfl, _⟩ := ha.val encS_len
  obtain ⟨qb, cb, rfl, _⟩ := hb.val encS_len
  refine spec_in (cap := []) Tryz.func32 rfl rfl Tryz.ntmps32 rfl (by (repeat (first | exact EnvA.nil EnvI.nil | apply EnvA.cons | apply EnvA.nil | exact EnvI.nil | apply EnvI.cons)); first | done | fail) (fun N β => ?_)
  refine jk_seq ?_
  refine jk_region ?_
  refine zq_assign ?_
  refine zq_assign ?_
  refine jk_nil ?_
  refine jk_seq ?_
  refine jk_region ?_
  refine zq_move ?_
  refine zq_move ?_
  refine jk_callM h rfl rfl rdZ rfl rfl ?_
  rintro _ σ ⟨u, rfl, hO⟩
  refine zq_extract ?_
  refine zq_extract ?_
  refine zq_assign ?_
  refine zq_assign ?_
  refine jk_nil ?_
  exact jk_ret_any (res2 rfl rfl rfl) (by (repeat (first | exact rs_nil | (refine rs_cons ?_ ?_; (focus ((repeat (first | exact .here | apply Mem.there | apply Take.there)); first | done | fail))) | exact fun ρ hρ => hρ | (intro ρ hρ; repeat (first | exact hρ | refine List.mem_cons_of_mem _ ?_)))); first | done | fail) selZ ⟨σ, ⟨u, rfl, hO⟩, rfl⟩
theorem ivInter_spec (ρ τ : PH) (va vb : Value) (a b : Iv) (ha : SpAt ρ va a) (hb : SpAt τ vb b) (h0a : chkI a = 0) (h0b : chkI b = 0) (hlen : a.length + b.length ≤ 1000) :
    Makes Tryz.prog (fv 35) [va, vb] [ρ, τ] (fun r σ => ∃ u, r = .tuple #[u, int 0] ∧ OwnS 53 2 u (combI (fun x y => x && y) a b).length ((combI (fun x y => x && y) a b).flatMap encS) σ) := by
  have h := ivCombine_spec ρ τ va vb 62 a b (fun x y => x && y) ha hb h0a h0b hlen rfl ivAnd_spec
  obtain ⟨qa, ca, rfl, _⟩ := ha.val encS_len
  obtain ⟨qb, cb, rfl, _⟩ := hb.val encS_len
  refine spec_in (cap := []) Tryz.func35 rfl rfl Tryz.ntmps35 rfl (by (repeat (first | exact EnvA.nil EnvI.nil | apply EnvA.cons | apply EnvA.nil | exact EnvI.nil | apply EnvI.cons)); first | done | fail) (fun N β => ?_)
  refine jk_seq ?_
  refine jk_region ?_
  refine zq_assign ?_
  refine zq_assign ?_
  refine jk_nil ?_
  refine jk_seq ?_
  refine jk_region ?_
  refine zq_move ?_
  refine zq_move ?_
  refine jk_callM h rfl rfl rdZ rfl rfl ?_
  rintro _ σ ⟨u, rfl, hO⟩
  refine zq_extract ?_
  refine zq_extract ?_
  refine zq_assign ?_
  refine zq_assign ?_
  refine jk_nil ?_
  exact jk_ret_any (res2 rfl rfl rfl) (by (repeat (first | exact rs_nil | (refine rs_cons ?_ ?_; (focus ((repeat (first | exact .here | apply Mem.there | apply Take.there)); first | done | fail))) | exact fun ρ hρ => hρ | (intro ρ hρ; repeat (first | exact hρ | refine List.mem_cons_of_mem _ ?_)))); first | done | fail) selZ ⟨σ, ⟨u, rfl, hO⟩, rfl⟩
set_option maxHeartbeats 32000000 in
theorem certCombine_spec (γ κ γ' κ' : PH) (p p' : Option Addr) (kk kk' : Nat) (La Lb : List Sq) (hc : CutL γ κ (.slice p La.length kk) La) (hc' : CutL γ' κ' (.slice p' Lb.length kk') Lb) (lla : La.length ≤ 1000) (llb : Lb.length ≤ 1000) (sa : ∀ l ∈ La, l.2.length ≤ 500) (sb : ∀ l ∈ Lb, l.2.length ≤ 500) (gf : FuncId) (f : Bool → Bool → Bool) (hf : f false false = false)
    (hg : ∀ (ρ τ : PH) (va vb : Value) (x y : Iv), SpAt ρ va x → SpAt τ vb y → chkI x = 0 → chkI y = 0 → x.length + y.length ≤ 1000 → Makes Tryz.prog (fv gf) [va, vb] [ρ, τ] (fun r σ => ∃ u, r = .tuple #[u, int 0] ∧ OwnS 53 2 u (combI f x y).length ((combI f x y).flatMap encS) σ)) :
    Eng.Spec Tryz.prog (fv 31) [.slice p La.length kk, .slice p' Lb.length kk', fv gf] [γ, κ, γ', κ'] [] (fun r H' => ∃ (L : List Sq) (u : Value) (σ χ : PH), r = .tuple #[u, int (cmbE (cuL La) (cuL Lb))] ∧ H' = [σ, χ] ∧ cuL L = cmbC f (cuL La) (cuL Lb) ∧ OwnS 46 1 u L.length (L.flatMap encQ) σ ∧ ∀ x ∈ L, SpAt χ (.slice x.1.1 x.2.length x.1.2) x.2 ∧ x.2.length ≤ 9223372036854775807) := by
  obtain ⟨_, _, e1, hra⟩ := hc.1.val encQ_len
  obtain ⟨_, _, e2, hrb⟩ := hc'.1.val encQ_len
  simp only [Value.slice.injEq] at e1 e2
  obtain ⟨rfl, _, rfl⟩ := e1
  obtain ⟨rfl, _, rfl⟩ := e2
  refine spec_in (cap := []) Tryz.func31 rfl rfl Tryz.ntmps31 rfl (by (repeat (first | exact EnvA.nil EnvI.nil | apply EnvA.cons | apply EnvA.nil | exact EnvI.nil | apply EnvI.cons)); first | done | fail) (fun N β => ?_)
  refine jk_emp ?_
  refine jk_emp ?_
  by_cases hlen : La.length = Lb.length
  rotate_left
  · have hE : cmbE (cuL La) (cuL Lb) = 10 := by unfold cmbE; rw [List.length_map, List.length_map, if_pos hlen]
    have hC : cmbC f (cuL La) (cuL Lb) = [] := by unfold cmbC; rw [hE, if_neg (by omega)]
    rw [hE, hC]
    refine jk_seq ?_
    refine jk_region ?_
    refine zq_assign ?_
    refine zq_assign ?_
    refine jk_nil ?_
    refine jk_seq ?_
    refine jk_seq ?_
    refine jk_region ?_
    refine zq_move ?_
    refine zq_len ?_
    refine zq_move ?_
    refine zq_len ?_
    refine zq_ne ?_
    refine jk_nil ?_
    refine jk_if_t rfl ?_
    refine jk_seq ?_
    refine jk_region ?_
    refine zq_assign ?_
    refine zq_assign ?_
    refine jk_nil ?_
    exact jk_ret_any (res2 rfl rfl rfl) (by (repeat (first | exact rs_nil | (refine rs_cons ?_ ?_; (focus ((repeat (first | exact .here | apply Mem.there | apply Take.there)); first | done | fail))) | exact fun ρ hρ => hρ | (intro ρ hρ; repeat (first | exact hρ | refine List.mem_cons_of_mem _ ?_)))); first | done | fail) selZ ⟨[], _, emp, emp, rfl, rfl, rfl, OwnS.nil _ _, by simp⟩
  have hE0 : cmbE (cuL La) (cuL Lb) = if (La ++ Lb).any (fun x => decide (chkI x.2 ≠ 0)) then 2 else 0 := by
    unfold cmbE
    rw [List.length_map, List.length_map, if_neg (fun h => h hlen), ← List.map_append, List.any_map]
    rfl
  refine jk_seq ?_
  refine jk_region ?_
  refine zq_assign ?_
  refine zq_assign ?_
  refine jk_nil ?_
  refine jk_seq ?_
  refine jk_seq ?_
  refine jk_region ?_
  refine zq_move ?_
  refine zq_len ?_
  refine zq_move ?_
  refine zq_len ?_
  refine zq_neF ?_
  refine jk_nil ?_
  refine jk_if_f rfl ?_
  refine jk_skip ?_
  refine jk_seq ?_
  refine jk_seq ?_
  refine jk_region ?_
  refine zq_move ?_
  refine zq_move ?_
  refine zl_buildSlice ?_; rintro _ _ ⟨b, rfl, rfl⟩
  revert b; intro bw
  have hcon := concatQ_spec (sng bw (.cells #[.slice p La.length kk, .slice p' Lb.length kk'] 33 (0, 0))) [γ, γ'] (.slice (some ⟨bw, 0, none⟩) 2 2) [.slice p La.length kk, .slice p' Lb.length kk'] [La, Lb] (slE_sng encW_len) rfl (fun i w m h1 h2 => by
    match i with
    | 0 => simp only [List.getElem?_cons_zero, Option.some.injEq] at h1 h2; subst h1 h2; exact ⟨γ, by simp, hc.1⟩
    | 1 => simp only [List.getElem?_cons_succ, List.getElem?_cons_zero, Option.some.injEq] at h1 h2; subst h1 h2; exact ⟨γ', by simp, hc'.1⟩
    | i + 2 => simp at h1) (by simp) (by simp [totL]; omega)
  rw [show ([La, Lb] : List (List Sq)).flatten = La ++ Lb by simp] at hcon
  refine jk_callM hcon rfl rfl rdZ rfl rfl ?_
  rintro w σw hOw
  skip
  refine jk_call (contQ_spec σw [κ, κ'] w (fv 56) (La ++ Lb) (fun x => decide (chkI x.2 ≠ 0)) hOw.at (by rw [List.length_append]; omega) (fun i x hx => by
    rcases List.mem_append.1 (List.mem_of_getElem? hx) with hm | hm
    · exact (cmb1_spec κ _ x.2 (hc.2 x hm).1 (hc.2 x hm).2).rsub (by simp)
    · exact (cmb1_spec κ' _ x.2 (hc'.2 x hm).1 (hc'.2 x hm).2).rsub (by simp))) rfl rfl rdZ rfl rfl ?_
  rintro _ rfl
  cases hany : (La ++ Lb).any (fun x => decide (chkI x.2 ≠ 0)) with
  | true =>
    rw [hany, if_pos rfl] at hE0
    have hC : cmbC f (cuL La) (cuL Lb) = [] := by unfold cmbC; rw [hE0, if_neg (by omega)]
    rw [hE0, hC]
    refine jk_nil ?_
    refine jk_if_t rfl ?_
    refine jk_seq ?_
    refine jk_region ?_
    refine zq_assign ?_
    refine zq_assign ?_
    refine jk_nil ?_
    exact jk_ret_any (res2 rfl rfl rfl) (by (repeat (first | exact rs_nil | (refine rs_cons ?_ ?_; (focus ((repeat (first | exact .here | apply Mem.there | apply Take.there)); first | done | fail))) | exact fun ρ hρ => hρ | (intro ρ hρ; repeat (first | exact hρ | refine List.mem_cons_of_mem _ ?_)))); first | done | fail) selZ ⟨[], _, emp, emp, rfl, rfl, rfl, OwnS.nil _ _, by simp⟩
  | false =>
  rw [hany, if_neg (by simp)] at hE0
  have hC : cmbC f (cuL La) (cuL Lb) = List.zipWith (combI f) (cuL La) (cuL Lb) := by unfold cmbC; rw [hE0, if_pos rfl]
  rw [hE0, hC]
  have hok : ∀ x ∈ La ++ Lb, chkI x.2 = 0 := fun x hx => by
    have := List.any_eq_false.1 hany x hx
    simpa using this
  refine jk_nil ?_
  refine jk_if_f rfl ?_
  refine jk_skip ?_
  refine jk_seq ?_
  refine jk_region ?_
  refine zl_buildSlice ?_; rintro _ _ ⟨b, rfl, rfl⟩
  refine zq_assign ?_
  refine jk_nil ?_
  refine jk_seq ?_
  refine jk_seq ?_
  refine jk_region ?_
  refine zq_move ?_
  refine zq_len ?_
  refine zq_move ?_
  refine jk_nil ?_
  refine jk_block ?_
  refine jk_loop [0, 1, 2, 24] (X := Nat × List Sq × Value × PH × PH) (0, [], .slice (some ⟨b, 0, none⟩) 0 0, sng b (.cells #[] 46 (0, 0)), emp) (fun x => x.1 ≤ La.length ∧ cuL x.2.1 = (List.zipWith (combI f) (cuL La) (cuL Lb)).take x.1 ∧ OwnS 46 1 x.2.2.1 x.2.1.length (x.2.1.flatMap encQ) x.2.2.2.1 ∧ ∀ z ∈ x.2.1, SpAt x.2.2.2.2 (.slice z.1.1 z.2.length z.1.2) z.2 ∧ z.2.length ≤ 9223372036854775807) (fun x => [(25, int x.1), (8, x.2.2.1)]) (fun x => [x.2.2.2.1, x.2.2.2.2]) (fun x => La.length - x.1) pickZ ⟨by dsimp only; omega, by simp, OwnS.empty, by simp⟩ covZ selZ ?_
  rintro ⟨k, L, u, σ, χ⟩ ⟨hk, hL, hO, hS⟩
  dsimp only at hk hL hO hS ⊢
  by_cases hlt : k < La.length
  rotate_left
  · have hke : k = La.length := by omega
    subst hke
    rw [List.take_of_length_le (by simp; omega)] at hL
    refine jk_seq ?_
    refine jk_region ?_
    refine zq_ltF ?_
    refine jk_nil ?_
    refine jk_seq ?_
    refine jk_if_f rfl ?_
    refine jk_exit rfl ?_
    refine jk_seq ?_
    refine jk_region ?_
    refine zq_move ?_
    refine zq_assign ?_
    refine zq_assign ?_
    refine jk_nil ?_
    exact jk_ret_any (res2 rfl rfl rfl) (by (repeat (first | exact rs_nil | (refine rs_cons ?_ ?_; (focus ((repeat (first | exact .here | apply Mem.there | apply Take.there)); first | done | fail))) | exact fun ρ hρ => hρ | (intro ρ hρ; repeat (first | exact hρ | refine List.mem_cons_of_mem _ ?_)))); first | done | fail) selZ ⟨L, u, σ, χ, rfl, rfl, hL, hO, hS⟩
  have hx := List.getElem?_eq_getElem hlt
  have hy := List.getElem?_eq_getElem (show k < Lb.length by omega)
  have hma := List.getElem_mem hlt
  have hmb := List.getElem_mem (show k < Lb.length by omega)
  have hz : (List.zipWith (combI f) (cuL La) (cuL Lb))[k]? = some (combI f La[k].2 Lb[k].2) := by
    rw [List.getElem?_zipWith, List.getElem?_map, List.getElem?_map, hx, hy]; rfl
  have hnext : (List.zipWith (combI f) (cuL La) (cuL Lb)).take (k + 1) = (List.zipWith (combI f) (cuL La) (cuL Lb)).take k ++ [combI f La[k].2 Lb[k].2] := by
    obtain ⟨h1, h2⟩ := List.getElem?_eq_some_iff.1 hz
    rw [List.take_succ_eq_append_getElem h1, h2]
  obtain ⟨b1, o1, rfl, hr1⟩ := hra k _ hx
  obtain ⟨b2, o2, rfl, hr2⟩ := hrb k _ hy
  have g1 : rdc γ b1 (o1 + k) = some (.slice La[k].1.1 La[k].2.length La[k].1.2) := by have := hr1.get0; rwa [Nat.mul_one] at this
  have g2 : rdc γ' b2 (o2 + k) = some (.slice Lb[k].1.1 Lb[k].2.length Lb[k].1.2) := by have := hr2.get0; rwa [Nat.mul_one] at this
  have hla := sa _ hma
  have hlb := sb _ hmb
  have ca := hok _ (List.mem_append_left _ hma)
  have cb := hok _ (List.mem_append_right _ hmb)
  have hgk := hg κ κ' _ _ La[k].2 Lb[k].2 (hc.2 _ hma).1 (hc'.2 _ hmb).1 ca cb (by omega)
  have hcl := (combI_ok hf (chkI_norm ca).2.1 (chkI_norm cb).2.1).2.2
  have hLl : L.length ≤ La.length := by
    have := congrArg List.length hL
    simp at this
    omega
  clear hz hr1 hr2
  generalize La[k] = xa at hx g1 hla hgk hcl hnext hma
  generalize Lb[k] = xb at hy g2 hlb hgk hcl hnext hmb
  refine jk_seq ?_
  refine jk_region ?_
  refine zq_lt ?_
  refine jk_nil ?_
  refine jk_seq ?_
  refine jk_if_t rfl ?_
  refine jk_skip ?_
  refine jk_seq ?_
  refine jk_block ?_
  refine jk_seq ?_
  refine jk_region ?_
  refine zq_move ?_
  refine zq_assign ?_
  refine jk_nil ?_
  refine jk_seq ?_
  refine jk_draw (.q 0 (.q 1 (.q 2 (.q 3 (.q 4 (.q 5 (.q 6 (.q 7 (.q 8 (.l 9 .e (.q 10 (.q 11 (.q 12 (.q 13 (.q 14 .nil))))))))))))))) [] rfl (by kernel_rfl) Sel.nil ?_
  refine zd_move ?_
  refine zd_move ?_
  refine zd_move ?_
  refine zd_idx1 ?_
  refine zd_load ?_
  refine zd_move ?_
  refine zd_move ?_
  refine zd_idx1 ?_
  refine zd_load ?_
  refine dj_l (a_callM rfl hgk rfl rfl rdZ rfl rfl ?_)
  rintro _ _ ⟨σi, ⟨ui, rfl, hOi⟩, rfl⟩
  obtain ⟨pi, ci, rfl⟩ := hOi.form
  refine zd_move ?_
  refine zd_extract ?_
  refine zd_extract ?_
  refine zd_assign ?_
  refine zd_assign ?_
  refine dj_end ?_
  refine jk_seq ?_
  refine jk_seq ?_
  refine jk_region ?_
  refine zq_move ?_
  refine zq_neF ?_
  refine jk_nil ?_
  refine jk_if_f rfl ?_
  refine jk_skip ?_
  refine jk_region ?_
  refine zq_move ?_
  refine zq_move ?_
  refine zl_buildSlice ?_; rintro _ _ ⟨b, rfl, rfl⟩
  refine jk_op (l_append (by_ := 24) (s := 1) (news := [.slice pi (combI f xa.2 xb.2).length ci]) rfl rfl rfl rfl rfl rfl rfl hO takeZ (cells_own memZ) rfl (by (repeat (first | exact (fun v hv => absurd hv List.not_mem_nil) | (refine List.forall_mem_cons.2 ⟨?_, ?_⟩; (focus (first | exact rfl | assumption))))); first | done | fail) (by omega) (by simp only [maxLen]; omega) (by omega)) rfl rfl rfl ?_
  rintro u1 _ ⟨σ1, hO1, rfl⟩
  refine zq_assign ?_
  refine jk_nil ?_
  refine jk_blk ?_
  refine jk_region ?_
  refine zq_inc ?_
  refine zq_move ?_
  refine jk_nil ?_
  refine jk_join (ρ := σi) (σ := χ) takeZ takeZ (fun χ1 s1 s2 => ?_)
  refine jk_round (k + 1, L ++ [((pi, ci), combI f xa.2 xb.2)], u1, σ1, χ1) ⟨by dsimp only; omega, ?_, ?_, fun z hz => ?_⟩ (by dsimp only; omega) covZ selZ
  · dsimp only
    rw [hnext, ← hL]
    exact List.map_append
  · dsimp only
    rw [List.length_append, List.flatMap_append]
    exact hO1
  · rcases List.mem_append.1 hz with hz | hz
    · exact ⟨(hS z hz).1.mono s2, (hS z hz).2⟩
    · obtain rfl := List.mem_singleton.1 hz
      exact ⟨SlE.mono (show SpAt σi _ _ from hOi.at) s1, by dsimp only; omega⟩
theorem join_spec (γ κ γ' κ' : PH) (p p' : Option Addr) (kk kk' : Nat) (La Lb : List Sq) (hc : CutL γ κ (.slice p La.length kk) La) (hc' : CutL γ' κ' (.slice p' Lb.length kk') Lb) (lla : La.length ≤ 1000) (llb : Lb.length ≤ 1000) (sa : ∀ l ∈ La, l.2.length ≤ 500) (sb : ∀ l ∈ Lb, l.2.length ≤ 500) :
    Eng.Spec Tryz.prog (fv 9) [.slice p La.length kk, .slice p' Lb.length kk'] [γ, κ, γ', κ'] [] (fun r H' => ∃ (L : List Sq) (u : Value) (σ χ : PH), r = .tuple #[u, int (cmbE (cuL La) (cuL Lb))] ∧ H' = [σ, χ] ∧ cuL L = cmbC (fun x y => x || y) (cuL La) (cuL Lb) ∧ OwnS 46 1 u L.length (L.flatMap encQ) σ ∧ ∀ x ∈ L, SpAt χ (.slice x.1.1 x.2.length x.1.2) x.2 ∧ x.2.length ≤ 9223372036854775807) := by
  have h := certCombine_spec γ κ γ' κ' p p' kk kk' La Lb hc hc' lla llb sa sb 32 (fun x y => x || y) rfl ivUnion_spec
  refine spec_in (cap := []) Tryz.func9 rfl rfl Tryz.ntmps9 rfl (by (repeat (first | exact EnvA.nil EnvI.nil | apply EnvA.cons | apply EnvA.nil | exact EnvI.nil | apply EnvI.cons)); first | done | fail) (fun N β => ?_)
  refine jk_seq ?_
  refine jk_region ?_
  refine zq_assign ?_
  refine zq_assign ?_
  refine jk_nil ?_
  refine jk_seq ?_
  refine jk_region ?_
  refine zq_move ?_
  refine zq_move ?_
  refine jk_callH h rfl rfl Takes.nil rdZ rfl rfl ?_
  rintro _ _ ⟨L, u, σ, χ, rfl, rfl, h1, h2, h3⟩
  refine zq_extract ?_
  refine zq_extract ?_
  refine zq_assign ?_
  refine zq_assign ?_
  refine jk_nil ?_
  exact jk_ret_any (res2 rfl rfl rfl) (by (repeat (first | exact rs_nil | (refine rs_cons ?_ ?_; (focus ((repeat (first | exact .here | apply Mem.there | apply Take.there)); first | done | fail))) | exact fun ρ hρ => hρ | (intro ρ hρ; repeat (first | exact hρ | refine List.mem_cons_of_mem _ ?_)))); first | done | fail) selZ ⟨L, u, σ, χ, rfl, rfl, h1, h2, h3⟩
theorem meet_spec (γ κ γ' κ' : PH) (p p' : Option Addr) (kk kk' : Nat) (La Lb : List Sq) (hc : CutL γ κ (.slice p La.length kk) La) (hc' : CutL γ' κ' (.slice p' Lb.length kk') Lb) (lla : La.length ≤ 1000) (llb : Lb.length ≤ 1000) (sa : ∀ l ∈ La, l.2.length ≤ 500) (sb : ∀ l ∈ Lb, l.2.length ≤ 500) :
    Eng.Spec Tryz.prog (fv 11) [.slice p La.length kk, .slice p' Lb.length kk'] [γ, κ, γ', κ'] [] (fun r H' => ∃ (L : List Sq) (u : Value) (σ χ : PH), r = .tuple #[u, int (cmbE (cuL La) (cuL Lb))] ∧ H' = [σ, χ] ∧ cuL L = cmbC (fun x y => x && y) (cuL La) (cuL Lb) ∧ OwnS 46 1 u L.length (L.flatMap encQ) σ ∧ ∀ x ∈ L, SpAt χ (.slice x.1.1 x.2.length x.1.2) x.2 ∧ x.2.length ≤ 9223372036854775807) := by
  have h := certCombine_spec γ κ γ' κ' p p' kk kk' La Lb hc hc' lla llb sa sb 35 (fun x y => x && y) rfl ivInter_spec
  refine spec_in (cap := []) Tryz.func11 rfl rfl Tryz.ntmps11 rfl (by (repeat (first | exact EnvA.nil EnvI.nil | apply EnvA.cons | apply EnvA.nil | exact EnvI.nil | apply EnvI.cons)); first | done | fail) (fun N β => ?_)
  refine jk_seq ?_
  refine jk_region ?_
  refine zq_assign ?_
  refine zq_assign ?_
  refine jk_nil ?_
  refine jk_seq ?_
  refine jk_region ?_
  refine zq_move ?_
  refine zq_move ?_
  refine jk_callH h rfl rfl Takes.nil rdZ rfl rfl ?_
  rintro _ _ ⟨L, u, σ, χ, rfl, rfl, h1, h2, h3⟩
  refine zq_extract ?_
  refine zq_extract ?_
  refine zq_assign ?_
  refine zq_assign ?_
  refine jk_nil ?_
  exact jk_ret_any (res2 rfl rfl rfl) (by (repeat (first | exact rs_nil | (refine rs_cons ?_ ?_; (focus ((repeat (first | exact .here | apply Mem.there | apply Take.there)); first | done | fail))) | exact fun ρ hρ => hρ | (intro ρ hρ; repeat (first | exact hρ | refine List.mem_cons_of_mem _ ?_)))); first | done | fail) selZ ⟨L, u, σ, χ, rfl, rfl, h1, h2, h3⟩
end Go.Proofs.YtjbebmealbnmgaaGreat
/- Sets of the document: one more span, union. -/
namespace Go.Proofs.YtjbebmealbnmgaaGreat
open Go.Eng Go.Step
set_option maxRecDepth 100000
set_option maxHeartbeats 4000000

theorem one_S (x : Int × Int) : ∀ u ∈ encS x, u.oneCell' = true := by
  intro u hu
  simp only [encS, List.mem_cons, List.not_mem_nil, or_false] at hu
  rcases hu with rfl | rfl <;> rfl
theorem ones_S (l : Iv) : ∀ u ∈ l.flatMap encS, u.oneCell' = true := by
  intro u hu
  rw [List.mem_flatMap] at hu
  obtain ⟨a, _, hu⟩ := hu
  exact one_S a u hu
set_option maxHeartbeats 32000000 in
theorem refIvInsert_spec (ρ : PH) (v : Value) (l : Iv) (x : Int × Int) (hv : SpAt ρ v l) (hcap : CapOK v) (hl : l.length ≤ 1000000) :
    Makes Tryz.prog (fv 60) [v, .agg #[int x.1, int x.2]] [ρ] (fun r σ => OwnS 53 2 r (insI l x).length ((insI l x).flatMap encS) σ) := by
  have hv2 := hv
  obtain ⟨q, c, rfl, hr⟩ := hv.val encS_len
  refine spec_in (cap := []) Tryz.func60 rfl rfl Tryz.ntmps60 rfl (by (repeat (first | exact EnvA.nil EnvI.nil | apply EnvA.cons | apply EnvA.nil | exact EnvI.nil | apply EnvI.cons)); first | done | fail) (fun N β => ?_)
  refine jk_seq ?_
  refine jk_region ?_
  refine jk_op (l_boxS rfl) rfl rfl rfl ?_
  rintro _ _ ⟨b3, rfl, rfl⟩
  refine zq_assign ?_
  refine jk_nil ?_
  refine jk_seq ?_
  refine jk_region ?_
  refine zl_buildSlice ?_; rintro _ _ ⟨b, rfl, rfl⟩
  refine zq_assign ?_
  refine jk_nil ?_
  refine jk_seq ?_
  refine jk_region ?_
  refine zq_assign ?_
  refine jk_nil ?_
  refine jk_seq ?_
  refine jk_block ?_
  revert b; intro bo
  refine jk_loop [0, 3] (X := Nat × (Value × PH)) (0, (.slice (some ⟨bo, 0, none⟩) 0 0, sng bo (.cells #[] 53 (0, 0)))) (fun z => z.1 ≤ l.length ∧ (∀ y ∈ l.take z.1, y.2 < x.1) ∧ OwnS 53 2 z.2.1 z.1 ((l.take z.1).flatMap encS) z.2.2) (fun z => [(6, int z.1), (5, z.2.1)]) (fun z => [z.2.2, sng b3 (.cells #[int x.1, int x.2] 53 (0, 0))]) (fun z => l.length - z.1) pickZ ⟨by dsimp only; omega, by simp, OwnS.empty⟩ covZ selZ ?_
  rintro ⟨k, u, σ⟩ ⟨hk, hwhile, hO⟩
  dsimp only at hk hwhile hO ⊢
  have hit := insI_take (x := x) hk hwhile
  by_cases hlt : k < l.length
  · have hx := List.getElem?_eq_getElem hlt
    have htk := List.take_succ_eq_append_getElem hlt
    have hdk := List.drop_eq_getElem_cons hlt
    obtain ⟨b1, o1, rfl, hRd1, g0, g1⟩ := spRow hr hx
    generalize l[k] = w at hRd1 g0 g1 hx htk hdk
    by_cases hc : w.2 < x.1
    · refine jk_seq ?_
      refine jk_seq ?_
      refine jk_draw (.q 0 (.q 1 (.q 2 (.q 3 (.q 4 (.q 5 (.q 6 (.q 7 (.q 8 (.q 9 (.q 10 (.q 11 (.q 12 (.q 13 .nil)))))))))))))) [] rfl (by kernel_rfl) Sel.nil ?_
      refine zd_move ?_
      refine zd_move ?_
      refine zd_len ?_
      refine zd_lt ?_
      refine zd_move ?_
      refine zd_move ?_
      refine zd_move ?_
      refine zd_idxN ?_
      refine zd_fld ?_
      refine zd_load ?_
      refine zd_fld0 ?_
      refine zd_load ?_
      refine zd_lt ?_
      refine zd_pick_t ?_
      refine dj_end ?_
      refine jk_if_t rfl ?_
      refine jk_skip ?_
      refine jk_block ?_
      refine jk_seq ?_
      refine jk_region ?_
      refine zq_move ?_
      refine zq_move ?_
      refine zq_move ?_
      refine zq_idxN ?_
      refine zq_loadS ?_
      refine zl_buildSlice ?_; rintro _ _ ⟨b, rfl, rfl⟩
      refine jk_op (l_append (by_ := 16) (s := 2) (news := [int w.1, int w.2]) rfl rfl rfl rfl rfl rfl rfl hO takeZ (cells_own memZ) rfl (by (repeat (first | exact (fun v hv => absurd hv List.not_mem_nil) | (refine List.forall_mem_cons.2 ⟨?_, ?_⟩; (focus (first | exact rfl | assumption))))); first | done | fail) (by omega) (by simp only [maxLen]; omega) (by omega)) rfl rfl rfl ?_
      rintro u1 _ ⟨σ1, hO1, rfl⟩
      refine zq_assign ?_
      refine jk_nil ?_
      refine jk_region ?_
      refine zq_move ?_
      refine zq_inc ?_
      refine zq_assign ?_
      refine jk_nil ?_
      refine jk_blk ?_
      refine jk_round (k + 1, (u1, σ1)) ⟨by dsimp only; omega, ?_, ?_⟩ (by dsimp only; omega) covZ selZ
      · dsimp only
        rw [htk]
        intro y hy
        rcases List.mem_append.1 hy with hy | hy
        · exact hwhile y hy
        · simp only [List.mem_singleton] at hy; subst hy; exact hc
      · dsimp only
        rw [htk, List.flatMap_append]
        exact hO1
    · have hfin : insI l x = l.take k ++ absI (l.drop k) x := by
        rw [hit]
        congr 1
        rw [hdk]
        show (if w.2 < x.1 then _ else _) = _
        rw [if_neg hc]
      refine jk_seq ?_
      refine jk_seq ?_
      refine jk_draw (.q 0 (.q 1 (.q 2 (.q 3 (.q 4 (.q 5 (.q 6 (.q 7 (.q 8 (.q 9 (.q 10 (.q 11 (.q 12 (.q 13 .nil)))))))))))))) [] rfl (by kernel_rfl) Sel.nil ?_
      refine zd_move ?_
      refine zd_move ?_
      refine zd_len ?_
      refine zd_lt ?_
      refine zd_move ?_
      refine zd_move ?_
      refine zd_move ?_
      refine zd_idxN ?_
      refine zd_fld ?_
      refine zd_load ?_
      refine zd_fld0 ?_
      refine zd_load ?_
      refine zd_ltF ?_
      refine zd_pick_t ?_
      refine dj_end ?_
      refine jk_if_f rfl ?_
      refine jk_exit rfl ?_
      refine jk_seq ?_
      refine jk_block ?_
      clear hwhile
      refine jk_loop [0, 3, 5] (X := Nat × (Int × Int)) (k, x) (fun z => k ≤ z.1 ∧ z.1 ≤ l.length ∧ absI (l.drop k) x = absI (l.drop z.1) z.2) (fun z => [(6, int z.1)]) (fun z => [σ, sng b3 (.cells #[int z.2.1, int z.2.2] 53 (0, 0))]) (fun z => l.length - z.1) pickZ ⟨by dsimp only; omega, hk, rfl⟩ covZ selZ ?_
      rintro ⟨j, z⟩ ⟨hkj, hj, hA⟩
      dsimp only at hkj hj hA ⊢
      have hends : (∀ y, l[j]? = some y → z.2 < y.1) → insI l x = l.take k ++ z :: l.drop j := fun hst => by
        rw [hfin, hA]
        by_cases hjl : j < l.length
        · rw [List.drop_eq_getElem_cons hjl]
          have := hst _ (List.getElem?_eq_getElem hjl)
          unfold absI
          rw [if_neg (by omega)]
        · rw [List.drop_eq_nil_of_le (by omega)]; rfl
      by_cases hjl : j < l.length
      · have hy := List.getElem?_eq_getElem hjl
        have hdr := List.drop_eq_getElem_cons hjl
        obtain ⟨b6, o6, e6, hRd6, y0, y1⟩ := spRow hr hy
        simp only [Option.some.injEq, Addr.mk.injEq, and_true] at e6
        obtain ⟨rfl, rfl⟩ := e6
        generalize l[j] = y at hy hRd6 y0 y1 hdr
        by_cases hc2 : y.1 ≤ z.2
        · have hA2 : absI (l.drop j) z = absI (l.drop (j + 1)) (min z.1 y.1, max z.2 y.2) := by
            rw [hdr]
            show (if y.1 ≤ z.2 then _ else _) = _
            rw [if_pos hc2]
          refine jk_seq ?_
          refine jk_seq ?_
          refine jk_draw (.q 0 (.q 1 (.q 2 (.q 3 (.q 4 (.q 5 (.q 6 (.q 7 (.q 8 (.q 9 (.q 10 (.q 11 (.q 12 (.q 13 .nil)))))))))))))) [] rfl (by kernel_rfl) Sel.nil ?_
          refine zd_move ?_
          refine zd_move ?_
          refine zd_len ?_
          refine zd_lt ?_
          refine zd_move ?_
          refine zd_move ?_
          refine zd_move ?_
          refine zd_idxN ?_
          refine zd_fldZ ?_
          refine zd_load ?_
          refine zd_fld0 ?_
          refine zd_load ?_
          refine zd_le ?_
          refine zd_pick_t ?_
          refine dj_end ?_
          refine jk_if_t rfl ?_
          refine jk_skip ?_
          refine jk_block ?_
          refine jk_seq ?_
          refine jk_draw (.q 0 (.q 1 (.q 2 (.q 3 (.q 4 (.q 5 (.q 6 (.q 7 (.q 8 (.q 9 (.q 10 (.q 11 (.q 12 (.q 13 (.q 14 (.q 15 (.q 16 (.l 17 .b .nil)))))))))))))))))) [] rfl (by kernel_rfl) Sel.nil ?_
          refine zd_fld0 ?_
          refine zd_load ?_
          refine zd_move ?_
          refine zd_move ?_
          refine zd_idxN ?_
          refine zd_fldZ ?_
          refine zd_load ?_
          refine zd_min ?_
          refine zd_fld0 ?_
          refine zd_load ?_
          refine zd_move ?_
          refine zd_move ?_
          refine zd_idxN ?_
          refine zd_fld ?_
          refine zd_load ?_
          refine zd_max ?_
          refine zd_build ?_
          focus ((refine dj_l ?_; refine' a_bn rfl _ rfl rfl _ _; rotate_left; (focus (apply l_storeS; exact rfl; exact rfl; exact takeZ; exact (by (repeat (first | exact (fun v hv => absurd hv List.not_mem_nil) | (refine List.forall_mem_cons.2 ⟨?_, ?_⟩; (focus (first | exact rfl | assumption))))); first | done | fail); exact rfl; exact rfl)); (focus (rintro _ _ ⟨_, rfl⟩ w hw; exact hw.sel selZ)); rintro _ _ ⟨rfl, rfl⟩))
          refine dj_end ?_
          refine jk_region ?_
          refine zq_move ?_
          refine zq_inc ?_
          refine zq_assign ?_
          refine jk_nil ?_
          refine jk_blk ?_
          exact jk_round (j + 1, (min z.1 y.1, max z.2 y.2)) ⟨by dsimp only; omega, by dsimp only; omega, by dsimp only; rw [hA, hA2]⟩ (by dsimp only; omega) covZ selZ
        · have hE := hends (fun y' hy' => by rw [hy] at hy'; obtain rfl := Option.some.inj hy'; omega)
          refine jk_seq ?_
          refine jk_seq ?_
          refine jk_draw (.q 0 (.q 1 (.q 2 (.q 3 (.q 4 (.q 5 (.q 6 (.q 7 (.q 8 (.q 9 (.q 10 (.q 11 (.q 12 (.q 13 .nil)))))))))))))) [] rfl (by kernel_rfl) Sel.nil ?_
          refine zd_move ?_
          refine zd_move ?_
          refine zd_len ?_
          refine zd_lt ?_
          refine zd_move ?_
          refine zd_move ?_
          refine zd_move ?_
          refine zd_idxN ?_
          refine zd_fldZ ?_
          refine zd_load ?_
          refine zd_fld0 ?_
          refine zd_load ?_
          refine zd_leF ?_
          refine zd_pick_t ?_
          refine dj_end ?_
          refine jk_if_f rfl ?_
          refine jk_exit rfl ?_
          refine jk_seq ?_
          refine jk_draw (.q 0 (.q 1 (.p 4 (.p 5 (.p 6 (.l 2 .e (.l 3 .b (.l 7 .b (.q 8 .nil))))))))) [] rfl (by kernel_rfl) Sel.nil ?_
          refine zd_move ?_
          refine zd_loadS ?_
          refine zp_move ?_
          refine zp_move ?_
          refine zp_cutLo ?_
          refine ze_buildSlice ?_; rintro _ _ ⟨b, rfl, rfl⟩
          refine dj_l (a_b rfl (l_append (by_ := 16) (s := 2) (news := [int z.1, int z.2]) rfl rfl rfl rfl rfl rfl rfl hO takeZ (cells_own memZ) rfl (by (repeat (first | exact (fun v hv => absurd hv List.not_mem_nil) | (refine List.forall_mem_cons.2 ⟨?_, ?_⟩; (focus (first | exact rfl | assumption))))); first | done | fail) (by omega) (by simp only [maxLen]; omega) (by omega)) rfl rfl rfl (fun _ _ _ w hw => hw.sel Sel.nil) ?_)
          rintro u1 _ ⟨σ1, hO1, rfl⟩
          refine dj_l (a_b rfl (l_appendE (by_ := 16) (s := 2) (σ := ρ) (w0 := .slice (cutP (some ⟨b1, o1, none⟩) c j 2) (l.length - j) (c - j)) (news := (l.drop j).flatMap encS) (m := (l.drop j).length) rfl rfl rfl rfl rfl rfl rfl hO1 takeZ (slE_lo encS_len hv2 hcap.le hj rfl) (fun b o h => cellsR h memZ) (ones_S _) (by rw [List.length_drop]; simp only [maxLen]; omega) (by rw [List.length_drop]; omega)) rfl rfl rfl (fun _ _ _ w hw => hw.sel Sel.nil) ?_)
          rintro u2 _ ⟨σ2, hO2, rfl⟩
          refine zd_assign ?_
          refine dj_end ?_
          skip
          refine jk_ret_any (res1 rfl rfl) (by (repeat (first | exact rs_nil | (refine rs_cons ?_ ?_; (focus ((repeat (first | exact .here | apply Mem.there | apply Take.there)); first | done | fail))) | exact fun ρ hρ => hρ | (intro ρ hρ; repeat (first | exact hρ | refine List.mem_cons_of_mem _ ?_)))); first | done | fail) selZ ⟨σ2, ?_, rfl⟩
          rw [hE]
          have e : k + 1 + (l.drop j).length = (l.take k ++ z :: l.drop j).length := by rw [List.length_append, List.length_take, List.length_cons]; omega
          rw [e] at hO2
          rw [List.flatMap_append, List.flatMap_cons, ← List.append_assoc]
          exact hO2
      · have hE := hends (fun y' hy' => by rw [List.getElem?_eq_none (by omega)] at hy'; simp at hy')
        refine jk_seq ?_
        refine jk_seq ?_
        refine jk_draw (.q 0 (.q 1 (.q 2 (.q 3 (.q 4 (.q 5 (.q 6 (.q 7 (.q 8 (.q 9 (.q 10 (.q 11 (.q 12 (.q 13 .nil)))))))))))))) [] rfl (by kernel_rfl) Sel.nil ?_
        refine zd_move ?_
        refine zd_move ?_
        refine zd_len ?_
        refine zd_ltF ?_
        refine zd_move ?_
        refine dj_pass rfl rfl rfl rfl rfl ?_
        refine dj_pass rfl rfl rfl rfl rfl ?_
        refine dj_pass rfl rfl rfl rfl rfl ?_
        refine dj_pass rfl rfl rfl rfl rfl ?_
        refine dj_pass rfl rfl rfl rfl rfl ?_
        refine dj_pass rfl rfl rfl rfl rfl ?_
        refine dj_pass rfl rfl rfl rfl rfl ?_
        refine dj_pass rfl rfl rfl rfl rfl ?_
        refine zd_pick_f ?_
        refine dj_end ?_
        refine jk_if_f rfl ?_
        refine jk_exit rfl ?_
        refine jk_seq ?_
        refine jk_draw (.q 0 (.q 1 (.p 4 (.p 5 (.p 6 (.l 2 .e (.l 3 .b (.l 7 .b (.q 8 .nil))))))))) [] rfl (by kernel_rfl) Sel.nil ?_
        refine zd_move ?_
        refine zd_loadS ?_
        refine zp_move ?_
        refine zp_move ?_
        refine zp_cutLo ?_
        refine ze_buildSlice ?_; rintro _ _ ⟨b, rfl, rfl⟩
        refine dj_l (a_b rfl (l_append (by_ := 16) (s := 2) (news := [int z.1, int z.2]) rfl rfl rfl rfl rfl rfl rfl hO takeZ (cells_own memZ) rfl (by (repeat (first | exact (fun v hv => absurd hv List.not_mem_nil) | (refine List.forall_mem_cons.2 ⟨?_, ?_⟩; (focus (first | exact rfl | assumption))))); first | done | fail) (by omega) (by simp only [maxLen]; omega) (by omega)) rfl rfl rfl (fun _ _ _ w hw => hw.sel Sel.nil) ?_)
        rintro u1 _ ⟨σ1, hO1, rfl⟩
        refine dj_l (a_b rfl (l_appendE (by_ := 16) (s := 2) (σ := ρ) (w0 := .slice (cutP (some ⟨b1, o1, none⟩) c j 2) (l.length - j) (c - j)) (news := (l.drop j).flatMap encS) (m := (l.drop j).length) rfl rfl rfl rfl rfl rfl rfl hO1 takeZ (slE_lo encS_len hv2 hcap.le hj rfl) (fun b o h => cellsR h memZ) (ones_S _) (by rw [List.length_drop]; simp only [maxLen]; omega) (by rw [List.length_drop]; omega)) rfl rfl rfl (fun _ _ _ w hw => hw.sel Sel.nil) ?_)
        rintro u2 _ ⟨σ2, hO2, rfl⟩
        refine zd_assign ?_
        refine dj_end ?_
        skip
        refine jk_ret_any (res1 rfl rfl) (by (repeat (first | exact rs_nil | (refine rs_cons ?_ ?_; (focus ((repeat (first | exact .here | apply Mem.there | apply Take.there)); first | done | fail))) | exact fun ρ hρ => hρ | (intro ρ hρ; repeat (first | exact hρ | refine List.mem_cons_of_mem _ ?_)))); first | done | fail) selZ ⟨σ2, ?_, rfl⟩
        rw [hE]
        have e : k + 1 + (l.drop j).length = (l.take k ++ z :: l.drop j).length := by rw [List.length_append, List.length_take, List.length_cons]; omega
        rw [e] at hO2
        rw [List.flatMap_append, List.flatMap_cons, ← List.append_assoc]
        exact hO2
  · have hfin : insI l x = l.take k ++ absI (l.drop k) x := by
      rw [hit, List.drop_eq_nil_of_le (by omega)]
      rfl
    refine jk_seq ?_
    refine jk_seq ?_
    refine jk_draw (.q 0 (.q 1 (.q 2 (.q 3 (.q 4 (.q 5 (.q 6 (.q 7 (.q 8 (.q 9 (.q 10 (.q 11 (.q 12 (.q 13 .nil)))))))))))))) [] rfl (by kernel_rfl) Sel.nil ?_
    refine zd_move ?_
    refine zd_move ?_
    refine zd_len ?_
    refine zd_ltF ?_
    refine zd_move ?_
    refine dj_pass rfl rfl rfl rfl rfl ?_
    refine dj_pass rfl rfl rfl rfl rfl ?_
    refine dj_pass rfl rfl rfl rfl rfl ?_
    refine dj_pass rfl rfl rfl rfl rfl ?_
    refine dj_pass rfl rfl rfl rfl rfl ?_
    refine dj_pass rfl rfl rfl rfl rfl ?_
    refine dj_pass rfl rfl rfl rfl rfl ?_
    refine dj_pass rfl rfl rfl rfl rfl ?_
    refine zd_pick_f ?_
    refine dj_end ?_
    refine jk_if_f rfl ?_
    refine jk_exit rfl ?_
    refine jk_seq ?_
    refine jk_block ?_
    clear hwhile
    refine jk_loop [0, 3, 5] (X := Nat × (Int × Int)) (k, x) (fun z => k ≤ z.1 ∧ z.1 ≤ l.length ∧ absI (l.drop k) x = absI (l.drop z.1) z.2) (fun z => [(6, int z.1)]) (fun z => [σ, sng b3 (.cells #[int z.2.1, int z.2.2] 53 (0, 0))]) (fun z => l.length - z.1) pickZ ⟨by dsimp only; omega, hk, rfl⟩ covZ selZ ?_
    rintro ⟨j, z⟩ ⟨hkj, hj, hA⟩
    dsimp only at hkj hj hA ⊢
    have hends : (∀ y, l[j]? = some y → z.2 < y.1) → insI l x = l.take k ++ z :: l.drop j := fun hst => by
      rw [hfin, hA]
      by_cases hjl : j < l.length
      · rw [List.drop_eq_getElem_cons hjl]
        have := hst _ (List.getElem?_eq_getElem hjl)
        unfold absI
        rw [if_neg (by omega)]
      · rw [List.drop_eq_nil_of_le (by omega)]; rfl
    by_cases hjl : j < l.length
    · exact absurd hjl (by omega)
    · have hE := hends (fun y' hy' => by rw [List.getElem?_eq_none (by omega)] at hy'; simp at hy')
      refine jk_seq ?_
      refine jk_seq ?_
      refine jk_draw (.q 0 (.q 1 (.q 2 (.q 3 (.q 4 (.q 5 (.q 6 (.q 7 (.q 8 (.q 9 (.q 10 (.q 11 (.q 12 (.q 13 .nil)))))))))))))) [] rfl (by kernel_rfl) Sel.nil ?_
      refine zd_move ?_
      refine zd_move ?_
      refine zd_len ?_
      refine zd_ltF ?_
      refine zd_move ?_
      refine dj_pass rfl rfl rfl rfl rfl ?_
      refine dj_pass rfl rfl rfl rfl rfl ?_
      refine dj_pass rfl rfl rfl rfl rfl ?_
      refine dj_pass rfl rfl rfl rfl rfl ?_
      refine dj_pass rfl rfl rfl rfl rfl ?_
      refine dj_pass rfl rfl rfl rfl rfl ?_
      refine dj_pass rfl rfl rfl rfl rfl ?_
      refine dj_pass rfl rfl rfl rfl rfl ?_
      refine zd_pick_f ?_
      refine dj_end ?_
      refine jk_if_f rfl ?_
      refine jk_exit rfl ?_
      refine jk_seq ?_
      refine jk_draw (.q 0 (.q 1 (.p 4 (.p 5 (.p 6 (.l 2 .e (.l 3 .b (.l 7 .b (.q 8 .nil))))))))) [] rfl (by kernel_rfl) Sel.nil ?_
      refine zd_move ?_
      refine zd_loadS ?_
      refine zp_move ?_
      refine zp_move ?_
      refine zp_cutLo ?_
      refine ze_buildSlice ?_; rintro _ _ ⟨b, rfl, rfl⟩
      refine dj_l (a_b rfl (l_append (by_ := 16) (s := 2) (news := [int z.1, int z.2]) rfl rfl rfl rfl rfl rfl rfl hO takeZ (cells_own memZ) rfl (by (repeat (first | exact (fun v hv => absurd hv List.not_mem_nil) | (refine List.forall_mem_cons.2 ⟨?_, ?_⟩; (focus (first | exact rfl | assumption))))); first | done | fail) (by omega) (by simp only [maxLen]; omega) (by omega)) rfl rfl rfl (fun _ _ _ w hw => hw.sel Sel.nil) ?_)
      rintro u1 _ ⟨σ1, hO1, rfl⟩
      refine dj_l (a_b rfl (l_appendE (by_ := 16) (s := 2) (σ := ρ) (w0 := .slice (cutP (q) c j 2) (l.length - j) (c - j)) (news := (l.drop j).flatMap encS) (m := (l.drop j).length) rfl rfl rfl rfl rfl rfl rfl hO1 takeZ (slE_lo encS_len hv2 hcap.le hj rfl) (fun b o h => cellsR h memZ) (ones_S _) (by rw [List.length_drop]; simp only [maxLen]; omega) (by rw [List.length_drop]; omega)) rfl rfl rfl (fun _ _ _ w hw => hw.sel Sel.nil) ?_)
      rintro u2 _ ⟨σ2, hO2, rfl⟩
      refine zd_assign ?_
      refine dj_end ?_
      skip
      refine jk_ret_any (res1 rfl rfl) (by (repeat (first | exact rs_nil | (refine rs_cons ?_ ?_; (focus ((repeat (first | exact .here | apply Mem.there | apply Take.there)); first | done | fail))) | exact fun ρ hρ => hρ | (intro ρ hρ; repeat (first | exact hρ | refine List.mem_cons_of_mem _ ?_)))); first | done | fail) selZ ⟨σ2, ?_, rfl⟩
      rw [hE]
      have e : k + 1 + (l.drop j).length = (l.take k ++ z :: l.drop j).length := by rw [List.length_append, List.length_take, List.length_cons]; omega
      rw [e] at hO2
      rw [List.flatMap_append, List.flatMap_cons, ← List.append_assoc]
      exact hO2
theorem refLimited_spec (p : Option Addr) (n c : Nat) (hn : n ≤ 1000) : Ans Tryz.prog (fv 61) [.slice p n c] [] (fun r => r = .tuple #[.slice p n c, int 0]) := by
  refine spec_in (cap := []) Tryz.func61 rfl rfl Tryz.ntmps61 rfl (by (repeat (first | exact EnvA.nil EnvI.nil | apply EnvA.cons | apply EnvA.nil | exact EnvI.nil | apply EnvI.cons)); first | done | fail) (fun N β => ?_)
  refine jk_seq ?_
  refine jk_region ?_
  refine zq_assign ?_
  refine zq_assign ?_
  refine jk_nil ?_
  refine jk_seq ?_
  refine jk_seq ?_
  refine jk_region ?_
  refine zq_move ?_
  refine zq_len ?_
  refine zq_gtF ?_
  refine jk_nil ?_
  refine jk_if_f rfl ?_
  refine jk_skip ?_
  refine jk_seq ?_
  refine jk_region ?_
  refine zq_move ?_
  refine zq_assign ?_
  refine zq_assign ?_
  refine jk_nil ?_
  exact jk_ret_any (res2 rfl rfl rfl) (by (repeat (first | exact rs_nil | (refine rs_cons ?_ ?_; (focus ((repeat (first | exact .here | apply Mem.there | apply Take.there)); first | done | fail))) | exact fun ρ hρ => hρ | (intro ρ hρ; repeat (first | exact hρ | refine List.mem_cons_of_mem _ ?_)))); first | done | fail) selZ ⟨rfl, rfl⟩
theorem refBad_spec (ρ τ : PH) (va vb : Value) (a m : Iv) (ha : SpAt ρ va a) (hb : SpAt τ vb m) (h0a : chkI a = 0) (h0b : chkI m = 0) : Ans Tryz.prog (fv 59) [va, vb] [ρ, τ] (fun r => r = .bool false) := by
  have la := (chkI_norm h0a).1
  have lb := (chkI_norm h0b).1
  have hca := refIvCheck_spec ρ va a ha (by omega)
  have hcb := refIvCheck_spec τ vb m hb (by omega)
  rw [h0a] at hca
  rw [h0b] at hcb
  obtain ⟨qa, ca, rfl, _⟩ := ha.val encS_len
  obtain ⟨qb, cb, rfl, _⟩ := hb.val encS_len
  refine spec_in (cap := []) Tryz.func59 rfl rfl Tryz.ntmps59 rfl (by (repeat (first | exact EnvA.nil EnvI.nil | apply EnvA.cons | apply EnvA.nil | exact EnvI.nil | apply EnvI.cons)); first | done | fail) (fun N β => ?_)
  refine jk_seq ?_
  refine jk_region ?_
  refine zq_assign ?_
  refine jk_nil ?_
  refine jk_seq ?_
  refine jk_region ?_
  refine zq_move ?_
  refine jk_call hca rfl rfl rdZ rfl rfl ?_
  rintro _ rfl
  refine zq_neF ?_
  refine zq_move ?_
  refine zq_move ?_
  refine jk_call hcb rfl rfl rdZ rfl rfl ?_
  rintro _ rfl
  refine zq_neF ?_
  refine zq_pick_f ?_
  refine zq_assign ?_
  refine jk_nil ?_
  exact jk_ret_any (res1 rfl rfl) (by (repeat (first | exact rs_nil | (refine rs_cons ?_ ?_; (focus ((repeat (first | exact .here | apply Mem.there | apply Take.there)); first | done | fail))) | exact fun ρ hρ => hρ | (intro ρ hρ; repeat (first | exact hρ | refine List.mem_cons_of_mem _ ?_)))); first | done | fail) selZ ⟨rfl, rfl⟩
theorem insAll_next (a : Iv) {m : Iv} {k : Nat} (h : k < m.length) : insAll a (m.take (k + 1)) = insI (insAll a (m.take k)) m[k] := by
  unfold insAll
  rw [List.take_succ_eq_append_getElem h, List.foldl_append]
  rfl
set_option maxHeartbeats 16000000 in
theorem refIvUnion_spec (ρ τ : PH) (va vb : Value) (a m : Iv) (ha : SpAt ρ va a) (hb : SpAt τ vb m) (h0a : chkI a = 0) (h0b : chkI m = 0) (hlen : a.length + m.length ≤ 1000) :
    Makes Tryz.prog (fv 34) [va, vb] [ρ, τ] (fun r σ => ∃ u, r = .tuple #[u, int 0] ∧ OwnS 53 2 u (combI (fun x y => x || y) a m).length ((combI (fun x y => x || y) a m).flatMap encS) σ) := by
  have hbad := refBad_spec ρ τ va vb a m ha hb h0a h0b
  have na := (chkI_norm h0a).2.1
  have nb := (chkI_norm h0b).2.1
  have hfin : insAll a m = combI (fun x y => x || y) a m := unionI_eq na nb
  have hfl := (combI_ok (f := fun x y => x || y) rfl na nb).2.2
  have ha2 := ha
  obtain ⟨qa, ca, rfl, _⟩ := ha.val encS_len
  obtain ⟨qb, cb, rfl, hrb⟩ := hb.val encS_len
  refine spec_in (cap := []) Tryz.func34 rfl rfl Tryz.ntmps34 rfl (by (repeat (first | exact EnvA.nil EnvI.nil | apply EnvA.cons | apply EnvA.nil | exact EnvI.nil | apply EnvI.cons)); first | done | fail) (fun N β => ?_)
  refine jk_seq ?_
  refine jk_region ?_
  refine zq_assign ?_
  refine zq_assign ?_
  refine jk_nil ?_
  refine jk_seq ?_
  refine jk_seq ?_
  refine jk_region ?_
  refine zq_move ?_
  refine zq_move ?_
  refine jk_call hbad rfl rfl rdZ rfl rfl ?_
  rintro _ rfl
  refine jk_nil ?_
  refine jk_if_f rfl ?_
  refine jk_skip ?_
  refine jk_seq ?_
  refine jk_region ?_
  refine zl_buildSlice ?_; rintro _ _ ⟨b, rfl, rfl⟩
  refine zq_move ?_
  refine jk_op (l_appendE (by_ := 16) (s := 2) (σ := ρ) (news := a.flatMap encS) (m := a.length) rfl rfl rfl rfl rfl rfl rfl (OwnS.empty) takeZ ha2 (fun m o h => cellsR h memZ) (ones_S _) (by simp only [maxLen]; omega) (by omega)) rfl rfl rfl ?_
  rintro u0 _ ⟨σ0, hO0, rfl⟩
  rw [List.nil_append, Nat.zero_add] at hO0
  refine zq_assign ?_
  refine jk_nil ?_
  refine jk_seq ?_
  refine jk_seq ?_
  refine jk_region ?_
  refine zq_assign ?_
  refine jk_nil ?_
  refine jk_block ?_
  refine jk_loop [1] (X := Nat × (Value × PH)) (0, (u0, σ0)) (fun z => z.1 ≤ m.length ∧ OwnS 53 2 z.2.1 (insAll a (m.take z.1)).length ((insAll a (m.take z.1)).flatMap encS) z.2.2) (fun z => [(7, int z.1), (6, z.2.1)]) (fun z => [z.2.2]) (fun z => m.length - z.1) pickZ ⟨by dsimp only; omega, hO0⟩ covZ selZ ?_
  rintro ⟨k, u, σ⟩ ⟨hk, hO⟩
  dsimp only at hk hO ⊢
  by_cases hlt : k < m.length
  · have hx := List.getElem?_eq_getElem hlt
    have hnx := insAll_next a hlt
    have hil := (insAll_ok (a := a) (b := m.take k) na (fun x hx => nb.1 x (List.mem_of_mem_take hx))).2.2
    rw [List.length_take] at hil
    obtain ⟨b1, o1, rfl, hRd1, g0, g1⟩ := spRow hrb hx
    generalize m[k] = x at hRd1 g0 g1 hx hnx
    have hins := refIvInsert_spec σ u (insAll a (m.take k)) x hO.at hO.capOK (by omega)
    refine jk_seq ?_
    refine jk_seq ?_
    refine jk_region ?_
    refine zq_move ?_
    refine zq_move ?_
    refine zq_len ?_
    refine zq_lt ?_
    refine jk_nil ?_
    refine jk_if_t rfl ?_
    refine jk_skip ?_
    refine jk_seq ?_
    refine jk_block ?_
    refine jk_region ?_
    refine zq_move ?_
    refine zq_move ?_
    refine zq_move ?_
    refine zq_idxN ?_
    refine zq_loadS ?_
    refine jk_callM hins rfl rfl rdZ rfl rfl ?_
    rintro u1 σ1 hO1
    refine zq_assign ?_
    refine jk_nil ?_
    refine jk_blk ?_
    refine jk_region ?_
    refine zq_move ?_
    refine zq_inc ?_
    refine zq_assign ?_
    refine jk_nil ?_
    refine jk_round (k + 1, (u1, σ1)) ⟨by dsimp only; omega, ?_⟩ (by dsimp only; omega) covZ selZ
    dsimp only
    rw [hnx]
    exact hO1
  · have hke : k = m.length := by omega
    subst hke
    rw [List.take_length, hfin] at hO
    obtain ⟨p, c, rfl⟩ := hO.form
    have hlm := refLimited_spec p (combI (fun x y => x || y) a m).length c (by omega)
    refine jk_seq ?_
    refine jk_seq ?_
    refine jk_region ?_
    refine zq_move ?_
    refine zq_move ?_
    refine zq_len ?_
    refine zq_ltF ?_
    refine jk_nil ?_
    refine jk_if_f rfl ?_
    refine jk_exit rfl ?_
    refine jk_seq ?_
    refine jk_region ?_
    refine zq_move ?_
    refine jk_call hlm rfl rfl rdZ rfl rfl ?_
    rintro _ rfl
    refine zq_extract ?_
    refine zq_extract ?_
    refine zq_assign ?_
    refine zq_assign ?_
    refine jk_nil ?_
    exact jk_ret_any (res2 rfl rfl rfl) (by (repeat (first | exact rs_nil | (refine rs_cons ?_ ?_; (focus ((repeat (first | exact .here | apply Mem.there | apply Take.there)); first | done | fail))) | exact fun ρ hρ => hρ | (intro ρ hρ; repeat (first | exact hρ | refine List.mem_cons_of_mem _ ?_)))); first | done | fail) selZ ⟨σ, ⟨_, rfl, hO⟩, rfl⟩
end Go.Proofs.YtjbebmealbnmgaaGreat
/- Sets of the document: intersection, equality. -/
namespace Go.Proofs.YtjbebmealbnmgaaGreat
open Go.Eng Go.Step
set_option maxRecDepth 100000
set_option maxHeartbeats 4000000

theorem bothI_len (a m : Iv) : (bothI a m).length ≤ a.length * m.length := by
  induction a with
  | nil => simp [bothI]
  | cons x a ih =>
    have h1 : (bothI (x :: a) m) = m.filterMap (cutI x) ++ bothI a m := rfl
    have h2 := List.length_filterMap_le (cutI x) m
    rw [h1, List.length_append, List.length_cons, Nat.add_mul]
    omega
theorem bothI_next {a m : Iv} {k : Nat} (h : k < a.length) : bothI (a.take (k + 1)) m = bothI (a.take k) m ++ m.filterMap (cutI a[k]) := by
  unfold bothI
  rw [List.take_succ_eq_append_getElem h, List.flatMap_append]
  simp
theorem cut_next (x : Int × Int) {m : Iv} {k : Nat} (h : k < m.length) : (m.take (k + 1)).filterMap (cutI x) = (m.take k).filterMap (cutI x) ++ (if max x.1 m[k].1 < min x.2 m[k].2 then [(max x.1 m[k].1, min x.2 m[k].2)] else []) := by
  rw [List.take_succ_eq_append_getElem h, List.filterMap_append]
  congr 1
  simp only [List.filterMap_cons, List.filterMap_nil]
  unfold cutI
  by_cases hc : max x.1 m[k].1 < min x.2 m[k].2
  · rw [if_pos hc, if_pos hc]
  · rw [if_neg hc, if_neg hc]
set_option maxHeartbeats 32000000 in
theorem refBoth_spec (ρ τ : PH) (va vb : Value) (a m : Iv) (ha : SpAt ρ va a) (hb : SpAt τ vb m) (hla : a.length ≤ 1000) (hlb : m.length ≤ 1000) :
    Makes Tryz.prog (fv 63) [va, vb] [ρ, τ] (fun r σ => OwnS 53 2 r (bothI a m).length ((bothI a m).flatMap encS) σ) := by
  obtain ⟨qa, ca, rfl, hra⟩ := ha.val encS_len
  obtain ⟨qb, cb, rfl, hrb⟩ := hb.val encS_len
  refine spec_in (cap := []) Tryz.func63 rfl rfl Tryz.ntmps63 rfl (by (repeat (first | exact EnvA.nil EnvI.nil | apply EnvA.cons | apply EnvA.nil | exact EnvI.nil | apply EnvI.cons)); first | done | fail) (fun N β => ?_)
  refine jk_seq ?_
  refine jk_region ?_
  refine zq_assign ?_
  refine jk_nil ?_
  refine jk_seq ?_
  refine jk_region ?_
  refine zl_buildSlice ?_; rintro _ _ ⟨b, rfl, rfl⟩
  refine zq_assign ?_
  refine jk_nil ?_
  refine jk_seq ?_
  refine jk_seq ?_
  refine jk_region ?_
  refine zq_assign ?_
  refine jk_nil ?_
  refine jk_block ?_
  refine jk_loop [0, 1] (X := Nat × (Value × PH)) (0, (.slice (some ⟨b, 0, none⟩) 0 0, sng b (.cells #[] 53 (0, 0)))) (fun z => z.1 ≤ a.length ∧ OwnS 53 2 z.2.1 (bothI (a.take z.1) m).length ((bothI (a.take z.1) m).flatMap encS) z.2.2) (fun z => [(6, int z.1), (5, z.2.1)]) (fun z => [z.2.2]) (fun z => a.length - z.1) pickZ ⟨by dsimp only; omega, OwnS.empty⟩ covZ selZ ?_
  rintro ⟨i, u, σ⟩ ⟨hi, hO⟩
  dsimp only at hi hO ⊢
  by_cases hlt : i < a.length
  rotate_left
  · have hie : i = a.length := by omega
    subst hie
    rw [List.take_length] at hO
    refine jk_seq ?_
    refine jk_seq ?_
    refine jk_region ?_
    refine zq_move ?_
    refine zq_move ?_
    refine zq_len ?_
    refine zq_ltF ?_
    refine jk_nil ?_
    refine jk_if_f rfl ?_
    refine jk_exit rfl ?_
    refine jk_seq ?_
    refine jk_region ?_
    refine zq_move ?_
    refine zq_assign ?_
    refine jk_nil ?_
    exact jk_ret_any (res1 rfl rfl) (by (repeat (first | exact rs_nil | (refine rs_cons ?_ ?_; (focus ((repeat (first | exact .here | apply Mem.there | apply Take.there)); first | done | fail))) | exact fun ρ hρ => hρ | (intro ρ hρ; repeat (first | exact hρ | refine List.mem_cons_of_mem _ ?_)))); first | done | fail) selZ ⟨σ, hO, rfl⟩
  have hx := List.getElem?_eq_getElem hlt
  have hnx := bothI_next (m := m) hlt
  have hbl := bothI_len (a.take i) m
  have hbl2 : (a.take i).length * m.length ≤ 1000 * 1000 := Nat.mul_le_mul (by rw [List.length_take]; omega) hlb
  obtain ⟨b1, o1, rfl, hRd1, g0, g1⟩ := spRow hra hx
  generalize a[i] = x at hRd1 g0 g1 hx hnx
  generalize bothI (a.take i) m = P at hO hnx hbl
  refine jk_seq ?_
  refine jk_seq ?_
  refine jk_region ?_
  refine zq_move ?_
  refine zq_move ?_
  refine zq_len ?_
  refine zq_lt ?_
  refine jk_nil ?_
  refine jk_if_t rfl ?_
  refine jk_skip ?_
  refine jk_seq ?_
  refine jk_block ?_
  refine jk_seq ?_
  refine jk_region ?_
  refine zq_assign ?_
  refine jk_nil ?_
  refine jk_block ?_
  refine jk_loop [0, 1, 6] (X := Nat × (Value × PH)) (0, (u, σ)) (fun z => z.1 ≤ m.length ∧ OwnS 53 2 z.2.1 (P ++ (m.take z.1).filterMap (cutI x)).length ((P ++ (m.take z.1).filterMap (cutI x)).flatMap encS) z.2.2) (fun z => [(7, int z.1), (5, z.2.1)]) (fun z => [z.2.2]) (fun z => m.length - z.1) pickZ ⟨by dsimp only; omega, by simpa using hO⟩ covZ selZ ?_
  rintro ⟨k, w, χ⟩ ⟨hk, hO2⟩
  dsimp only at hk hO2 ⊢
  by_cases hlt2 : k < m.length
  rotate_left
  · have hke : k = m.length := by omega
    subst hke
    rw [List.take_length] at hO2
    refine jk_seq ?_
    refine jk_seq ?_
    refine jk_region ?_
    refine zq_move ?_
    refine zq_move ?_
    refine zq_len ?_
    refine zq_ltF ?_
    refine jk_nil ?_
    refine jk_if_f rfl ?_
    refine jk_exit rfl ?_
    refine jk_blk ?_
    refine jk_region ?_
    refine zq_move ?_
    refine zq_inc ?_
    refine zq_assign ?_
    refine jk_nil ?_
    exact jk_round (i + 1, (w, χ)) ⟨by dsimp only; omega, by dsimp only; rw [hnx]; exact hO2⟩ (by dsimp only; omega) covZ selZ
  have hy := List.getElem?_eq_getElem hlt2
  have hcn := cut_next x hlt2
  have hfl := List.length_filterMap_le (cutI x) (m.take k)
  rw [List.length_take] at hfl
  have hPl : (P ++ (m.take k).filterMap (cutI x)).length ≤ 1001000 := by rw [List.length_append]; omega
  obtain ⟨b2, o2, rfl, hRd2, y0, y1⟩ := spRow hrb hy
  generalize m[k] = y at hRd2 y0 y1 hy hcn
  refine jk_seq ?_
  refine jk_seq ?_
  refine jk_region ?_
  refine zq_move ?_
  refine zq_move ?_
  refine zq_len ?_
  refine zq_lt ?_
  refine jk_nil ?_
  refine jk_if_t rfl ?_
  refine jk_skip ?_
  refine jk_seq ?_
  refine jk_block ?_
  refine jk_seq ?_
  refine jk_draw (.q 0 (.q 1 (.q 2 (.q 3 (.q 4 (.q 5 (.q 6 (.q 7 (.q 8 (.q 9 (.q 10 (.q 11 (.q 12 (.q 13 (.q 14 (.q 15 (.q 16 (.q 17 (.q 18 (.q 19 (.q 20 (.q 21 (.q 22 (.l 23 .e (.l 24 .b .nil))))))))))))))))))))))))) [] rfl (by kernel_rfl) Sel.nil ?_
  refine zd_move ?_
  refine zd_move ?_
  refine zd_idxN ?_
  refine zd_fldZ ?_
  refine zd_load ?_
  refine zd_move ?_
  refine zd_move ?_
  refine zd_idxN ?_
  refine zd_fldZ ?_
  refine zd_load ?_
  refine zd_max ?_
  refine zd_move ?_
  refine zd_move ?_
  refine zd_idxN ?_
  refine zd_fld ?_
  refine zd_load ?_
  refine zd_move ?_
  refine zd_move ?_
  refine zd_idxN ?_
  refine zd_fld ?_
  refine zd_load ?_
  refine zd_min ?_
  refine zd_build ?_
  refine ze_allocS ?_; rintro _ _ ⟨b, rfl, rfl⟩
  focus ((refine dj_l ?_; refine' a_bn rfl _ rfl rfl _ _; rotate_left; (focus (apply l_storeS; exact rfl; exact rfl; exact takeZ; exact (by (repeat (first | exact (fun v hv => absurd hv List.not_mem_nil) | (refine List.forall_mem_cons.2 ⟨?_, ?_⟩; (focus (first | exact rfl | assumption))))); first | done | fail); exact rfl; exact rfl)); (focus (rintro _ _ ⟨_, rfl⟩ w hw; exact hw.sel Sel.nil)); rintro _ _ ⟨rfl, rfl⟩))
  refine dj_end ?_
  by_cases hc : max x.1 y.1 < min x.2 y.2
  · rw [if_pos hc] at hcn
    refine jk_seq ?_
    refine jk_region ?_
    refine zq_fld0 ?_
    refine zq_load ?_
    refine zq_fld0 ?_
    refine zq_load ?_
    refine zq_lt ?_
    refine jk_nil ?_
    refine jk_if_t rfl ?_
    refine jk_region ?_
    refine zq_move ?_
    refine zq_loadS ?_
    refine zl_buildSlice ?_; rintro _ _ ⟨b, rfl, rfl⟩
    refine jk_op (l_append (by_ := 16) (s := 2) (news := [int (max x.1 y.1), int (min x.2 y.2)]) rfl rfl rfl rfl rfl rfl rfl hO2 takeZ (cells_own memZ) rfl (by (repeat (first | exact (fun v hv => absurd hv List.not_mem_nil) | (refine List.forall_mem_cons.2 ⟨?_, ?_⟩; (focus (first | exact rfl | assumption))))); first | done | fail) (by omega) (by simp only [maxLen]; omega) (by omega)) rfl rfl rfl ?_
    rintro u1 _ ⟨σ1, hO1, rfl⟩
    refine zq_assign ?_
    refine jk_nil ?_
    refine jk_blk ?_
    refine jk_region ?_
    refine zq_move ?_
    refine zq_inc ?_
    refine zq_assign ?_
    refine jk_nil ?_
    refine jk_round (k + 1, (u1, σ1)) ⟨by dsimp only; omega, ?_⟩ (by dsimp only; omega) covZ selZ
    dsimp only
    rw [hcn, ← List.append_assoc, List.flatMap_append, List.length_append]
    exact hO1
  · rw [if_neg hc, List.append_nil] at hcn
    refine jk_seq ?_
    refine jk_region ?_
    refine zq_fld0 ?_
    refine zq_load ?_
    refine zq_fld0 ?_
    refine zq_load ?_
    refine zq_ltF ?_
    refine jk_nil ?_
    refine jk_if_f rfl ?_
    refine jk_skip ?_
    refine jk_blk ?_
    refine jk_region ?_
    refine zq_move ?_
    refine zq_inc ?_
    refine zq_assign ?_
    refine jk_nil ?_
    exact jk_round (k + 1, (w, χ)) ⟨by dsimp only; omega, by dsimp only; rw [hcn]; exact hO2⟩ (by dsimp only; omega) covZ selZ
theorem refIvInter_spec (ρ τ : PH) (va vb : Value) (a m : Iv) (ha : SpAt ρ va a) (hb : SpAt τ vb m) (h0a : chkI a = 0) (h0b : chkI m = 0) (hlen : a.length + m.length ≤ 1000) :
    Makes Tryz.prog (fv 36) [va, vb] [ρ, τ] (fun r σ => ∃ u, r = .tuple #[u, int 0] ∧ OwnS 53 2 u (combI (fun x y => x && y) a m).length ((combI (fun x y => x && y) a m).flatMap encS) σ) := by
  have hbad := refBad_spec ρ τ va vb a m ha hb h0a h0b
  have na := (chkI_norm h0a).2.1
  have nb := (chkI_norm h0b).2.1
  have hfin : bothI a m = combI (fun x y => x && y) a m := interI_eq na nb
  have hfl := (combI_ok (f := fun x y => x && y) rfl na nb).2.2
  have hboth := refBoth_spec ρ τ va vb a m ha hb (by omega) (by omega)
  rw [hfin] at hboth
  obtain ⟨qa, ca, rfl, _⟩ := ha.val encS_len
  obtain ⟨qb, cb, rfl, _⟩ := hb.val encS_len
  refine spec_in (cap := []) Tryz.func36 rfl rfl Tryz.ntmps36 rfl (by (repeat (first | exact EnvA.nil EnvI.nil | apply EnvA.cons | apply EnvA.nil | exact EnvI.nil | apply EnvI.cons)); first | done | fail) (fun N β => ?_)
  refine jk_seq ?_
  refine jk_region ?_
  refine zq_assign ?_
  refine zq_assign ?_
  refine jk_nil ?_
  refine jk_seq ?_
  refine jk_seq ?_
  refine jk_region ?_
  refine zq_move ?_
  refine zq_move ?_
  refine jk_call hbad rfl rfl rdZ rfl rfl ?_
  rintro _ rfl
  refine jk_nil ?_
  refine jk_if_f rfl ?_
  refine jk_skip ?_
  refine jk_seq ?_
  refine jk_region ?_
  refine zq_move ?_
  refine zq_move ?_
  refine jk_callM hboth rfl rfl rdZ rfl rfl ?_
  rintro _ σ hO
  obtain ⟨p, c, rfl⟩ := hO.form
  have hlm := refLimited_spec p (combI (fun x y => x && y) a m).length c (by omega)
  refine jk_call hlm rfl rfl rdZ rfl rfl ?_
  rintro _ rfl
  refine zq_extract ?_
  refine zq_extract ?_
  refine zq_assign ?_
  refine zq_assign ?_
  refine jk_nil ?_
  exact jk_ret_any (res2 rfl rfl rfl) (by (repeat (first | exact rs_nil | (refine rs_cons ?_ ?_; (focus ((repeat (first | exact .here | apply Mem.there | apply Take.there)); first | done | fail))) | exact fun ρ hρ => hρ | (intro ρ hρ; repeat (first | exact hρ | refine List.mem_cons_of_mem _ ?_)))); first | done | fail) selZ ⟨σ, ⟨_, rfl, hO⟩, rfl⟩
set_option maxHeartbeats 16000000 in
theorem refSame_spec (ρ τ : PH) (v w : Value) (l : Iv) (hv : SpAt ρ v l) (hw : SpAt τ w l) (hl : l.length ≤ 9223372036854775807) :
    Ans Tryz.prog (fv 37) [v, w] [ρ, τ] (fun r => r = .bool true) := by
  obtain ⟨q, c, rfl, hr⟩ := hv.val encS_len
  obtain ⟨q', c', rfl, hr'⟩ := hw.val encS_len
  refine spec_in (cap := []) Tryz.func37 rfl rfl Tryz.ntmps37 rfl (by (repeat (first | exact EnvA.nil EnvI.nil | apply EnvA.cons | apply EnvA.nil | exact EnvI.nil | apply EnvI.cons)); first | done | fail) (fun N β => ?_)
  refine jk_seq ?_
  refine jk_region ?_
  refine zq_assign ?_
  refine jk_nil ?_
  refine jk_seq ?_
  refine jk_seq ?_
  refine jk_region ?_
  refine zq_move ?_
  refine zq_len ?_
  refine zq_move ?_
  refine zq_len ?_
  refine zq_neF ?_
  refine jk_nil ?_
  refine jk_if_f rfl ?_
  refine jk_skip ?_
  refine jk_seq ?_
  refine jk_seq ?_
  refine jk_region ?_
  refine zq_assign ?_
  refine jk_nil ?_
  refine jk_block ?_
  refine jk_loop [0, 1] (0 : Nat) (fun k => k ≤ l.length) (fun k => [(5, int k)]) (fun _ => []) (fun k => l.length - k) pickZ (by omega) covZ selZ ?_
  rintro k hk
  by_cases hlt : k < l.length
  · have hx := List.getElem?_eq_getElem hlt
    obtain ⟨b1, o1, rfl, hRd1, _⟩ := spRow hr hx
    obtain ⟨b2, o2, rfl, hRd2, _⟩ := spRow hr' hx
    generalize l[k] = x at hRd1 hRd2 hx
    refine jk_seq ?_
    refine jk_seq ?_
    refine jk_region ?_
    refine zq_move ?_
    refine zq_move ?_
    refine zq_len ?_
    refine zq_lt ?_
    refine jk_nil ?_
    refine jk_if_t rfl ?_
    refine jk_skip ?_
    refine jk_seq ?_
    refine jk_block ?_
    refine jk_seq ?_
    refine jk_draw (.q 0 (.q 1 (.q 2 (.q 3 (.q 4 (.q 5 (.q 6 (.q 7 (.q 8 .nil))))))))) [] rfl (by kernel_rfl) Sel.nil ?_
    refine zd_move ?_
    refine zd_move ?_
    refine zd_idxN ?_
    refine zd_loadS ?_
    refine zd_move ?_
    refine zd_move ?_
    refine zd_idxN ?_
    refine zd_loadS ?_
    focus ((refine' dj_q rfl _ rfl rfl rfl rfl _; rotate_left; (apply q_neS [x.1, x.2] [x.1, x.2] (n := 2); exact rfl; exact rfl; kernel_rfl; kernel_rfl; kernel_rfl; exact rfl; exact rfl)))
    refine dj_end ?_
    rw [show (!decide ([x.1, x.2] = [x.1, x.2])) = false by simp]
    skip
    refine jk_if_f rfl ?_
    refine jk_skip ?_
    refine jk_blk ?_
    refine jk_region ?_
    refine zq_move ?_
    refine zq_inc ?_
    refine zq_assign ?_
    refine jk_nil ?_
    exact jk_round (k + 1) (by omega) (by omega) covZ selZ
  · refine jk_seq ?_
    refine jk_seq ?_
    refine jk_region ?_
    refine zq_move ?_
    refine zq_move ?_
    refine zq_len ?_
    refine zq_ltF ?_
    refine jk_nil ?_
    refine jk_if_f rfl ?_
    refine jk_exit rfl ?_
    refine jk_seq ?_
    refine jk_region ?_
    refine zq_assign ?_
    refine jk_nil ?_
    exact jk_ret_any (res1 rfl rfl) (by (repeat (first | exact rs_nil | (refine rs_cons ?_ ?_; (focus ((repeat (first | exact .here | apply Mem.there | apply Take.there)); first | done | fail))) | exact fun ρ hρ => hρ | (intro ρ hρ; repeat (first | exact hρ | refine List.mem_cons_of_mem _ ?_)))); first | done | fail) selZ ⟨rfl, rfl⟩

end Go.Proofs.YtjbebmealbnmgaaGreat
/- Joins and meets of the document. -/
namespace Go.Proofs.YtjbebmealbnmgaaGreat
open Go.Eng Go.Step
set_option maxRecDepth 100000
set_option maxHeartbeats 4000000

set_option maxHeartbeats 16000000 in
theorem refPair_spec (γ κ γ' κ' : PH) (p p' : Option Addr) (kk kk' : Nat) (La Lb : List Sq) (hc : CutL γ κ (.slice p La.length kk) La) (hc' : CutL γ' κ' (.slice p' Lb.length kk') Lb) (lla : La.length ≤ 1000) (llb : Lb.length ≤ 1000) :
    Ans Tryz.prog (fv 33) [.slice p La.length kk, .slice p' Lb.length kk'] [γ, κ, γ', κ'] (fun r => r = int (cmbE (cuL La) (cuL Lb))) := by
  obtain ⟨_, _, e1, hra⟩ := hc.1.val encQ_len
  obtain ⟨_, _, e2, hrb⟩ := hc'.1.val encQ_len
  simp only [Value.slice.injEq] at e1 e2
  obtain ⟨rfl, _, rfl⟩ := e1
  obtain ⟨rfl, _, rfl⟩ := e2
  refine spec_in (cap := []) Tryz.func33 rfl rfl Tryz.ntmps33 rfl (by (repeat (first | exact EnvA.nil EnvI.nil | apply EnvA.cons | apply EnvA.nil | exact EnvI.nil | apply EnvI.cons)); first | done | fail) (fun N β => ?_)
  by_cases hlen : La.length = Lb.length
  rotate_left
  · have hE : cmbE (cuL La) (cuL Lb) = 10 := by unfold cmbE; rw [List.length_map, List.length_map, if_pos hlen]
    rw [hE]
    refine jk_seq ?_
    refine jk_region ?_
    refine zq_assign ?_
    refine jk_nil ?_
    refine jk_seq ?_
    refine jk_seq ?_
    refine jk_region ?_
    refine zq_move ?_
    refine zq_len ?_
    refine zq_move ?_
    refine zq_len ?_
    refine zq_ne ?_
    refine jk_nil ?_
    refine jk_if_t rfl ?_
    refine jk_seq ?_
    refine jk_region ?_
    refine zq_assign ?_
    refine jk_nil ?_
    exact jk_ret_any (res1 rfl rfl) (by (repeat (first | exact rs_nil | (refine rs_cons ?_ ?_; (focus ((repeat (first | exact .here | apply Mem.there | apply Take.there)); first | done | fail))) | exact fun ρ hρ => hρ | (intro ρ hρ; repeat (first | exact hρ | refine List.mem_cons_of_mem _ ?_)))); first | done | fail) selZ ⟨rfl, rfl⟩
  have hE0 : cmbE (cuL La) (cuL Lb) = if (La ++ Lb).any (fun x => decide (chkI x.2 ≠ 0)) then 2 else 0 := by
    unfold cmbE
    rw [List.length_map, List.length_map, if_neg (fun h => h hlen), ← List.map_append, List.any_map]
    rfl
  have hbadE : ∀ x ∈ La ++ Lb, chkI x.2 ≠ 0 → cmbE (cuL La) (cuL Lb) = 2 := fun x hx h => by
    rw [hE0, if_pos (List.any_eq_true.2 ⟨x, hx, decide_eq_true h⟩)]
  refine jk_seq ?_
  refine jk_region ?_
  refine zq_assign ?_
  refine jk_nil ?_
  refine jk_seq ?_
  refine jk_seq ?_
  refine jk_region ?_
  refine zq_move ?_
  refine zq_len ?_
  refine zq_move ?_
  refine zq_len ?_
  refine zq_neF ?_
  refine jk_nil ?_
  refine jk_if_f rfl ?_
  refine jk_skip ?_
  refine jk_seq ?_
  refine jk_seq ?_
  refine jk_region ?_
  refine zq_assign ?_
  refine jk_nil ?_
  refine jk_block ?_
  refine jk_loop [0, 1] (0 : Nat) (fun k => k ≤ La.length ∧ (∀ x ∈ La.take k, chkI x.2 = 0) ∧ ∀ x ∈ Lb.take k, chkI x.2 = 0) (fun k => [(5, int k)]) (fun _ => []) (fun k => La.length - k) pickZ ⟨by omega, by simp, by simp⟩ covZ selZ ?_
  rintro k ⟨hk, hA, hB⟩
  by_cases hlt : k < La.length
  rotate_left
  · rw [List.take_of_length_le (by omega)] at hA hB
    have hE : cmbE (cuL La) (cuL Lb) = 0 := by
      rw [hE0, if_neg]
      rw [List.any_eq_true]
      rintro ⟨x, hx, h⟩
      rw [decide_eq_true_eq] at h
      rcases List.mem_append.1 hx with hx | hx
      · exact h (hA x hx)
      · exact h (hB x hx)
    rw [hE]
    refine jk_seq ?_
    refine jk_seq ?_
    refine jk_region ?_
    refine zq_move ?_
    refine zq_move ?_
    refine zq_len ?_
    refine zq_ltF ?_
    refine jk_nil ?_
    refine jk_if_f rfl ?_
    refine jk_exit rfl ?_
    refine jk_seq ?_
    refine jk_region ?_
    refine zq_assign ?_
    refine jk_nil ?_
    exact jk_ret_any (res1 rfl rfl) (by (repeat (first | exact rs_nil | (refine rs_cons ?_ ?_; (focus ((repeat (first | exact .here | apply Mem.there | apply Take.there)); first | done | fail))) | exact fun ρ hρ => hρ | (intro ρ hρ; repeat (first | exact hρ | refine List.mem_cons_of_mem _ ?_)))); first | done | fail) selZ ⟨rfl, rfl⟩
  have hltb : k < Lb.length := by omega
  have hx := List.getElem?_eq_getElem hlt
  have hy := List.getElem?_eq_getElem hltb
  have hma := List.getElem_mem hlt
  have hmb := List.getElem_mem hltb
  have ta := List.take_succ_eq_append_getElem hlt
  have tb := List.take_succ_eq_append_getElem hltb
  obtain ⟨b1, o1, rfl, hr1⟩ := hra k _ hx
  obtain ⟨b2, o2, rfl, hr2⟩ := hrb k _ hy
  have g1 : rdc γ b1 (o1 + k) = some (.slice La[k].1.1 La[k].2.length La[k].1.2) := by have := hr1.get0; rwa [Nat.mul_one] at this
  have g2 : rdc γ' b2 (o2 + k) = some (.slice Lb[k].1.1 Lb[k].2.length Lb[k].1.2) := by have := hr2.get0; rwa [Nat.mul_one] at this
  have ka := refIvCheck_spec κ _ _ (hc.2 _ hma).1 (hc.2 _ hma).2
  have kb := refIvCheck_spec κ' _ _ (hc'.2 _ hmb).1 (hc'.2 _ hmb).2
  have ba := hbadE _ (List.mem_append_left _ hma)
  have bb := hbadE _ (List.mem_append_right _ hmb)
  clear hr1 hr2
  generalize La[k] = x at hx g1 ka ba ta
  generalize Lb[k] = y at hy g2 kb bb tb
  by_cases h1 : chkI x.2 = 0
  rotate_left
  · rw [ba h1]
    generalize chkI x.2 = z at ka h1
    refine jk_seq ?_
    refine jk_seq ?_
    refine jk_region ?_
    refine zq_move ?_
    refine zq_move ?_
    refine zq_len ?_
    refine zq_lt ?_
    refine jk_nil ?_
    refine jk_if_t rfl ?_
    refine jk_skip ?_
    refine jk_seq ?_
    refine jk_block ?_
    refine jk_seq ?_
    refine jk_region ?_
    refine zq_move ?_
    refine zq_move ?_
    refine zq_idx1 ?_
    refine zq_load ?_
    refine jk_call ka rfl rfl rdZ rfl rfl ?_
    rintro _ rfl
    refine zq_ne ?_
    refine zq_move ?_
    refine jk_pass rfl rfl rfl ?_
    refine jk_pass rfl rfl rfl ?_
    refine jk_pass rfl rfl rfl ?_
    refine jk_pass rfl rfl rfl ?_
    refine jk_pass rfl rfl rfl ?_
    refine jk_pass rfl rfl rfl ?_
    refine zq_pick_t ?_
    refine jk_nil ?_
    refine jk_if_t rfl ?_
    refine jk_seq ?_
    refine jk_region ?_
    refine zq_assign ?_
    refine jk_nil ?_
    exact jk_ret_any (res1 rfl rfl) (by (repeat (first | exact rs_nil | (refine rs_cons ?_ ?_; (focus ((repeat (first | exact .here | apply Mem.there | apply Take.there)); first | done | fail))) | exact fun ρ hρ => hρ | (intro ρ hρ; repeat (first | exact hρ | refine List.mem_cons_of_mem _ ?_)))); first | done | fail) selZ ⟨rfl, rfl⟩
  by_cases h2 : chkI y.2 = 0
  rotate_left
  · rw [bb h2]
    rw [h1] at ka
    generalize chkI y.2 = z at kb h2
    refine jk_seq ?_
    refine jk_seq ?_
    refine jk_region ?_
    refine zq_move ?_
    refine zq_move ?_
    refine zq_len ?_
    refine zq_lt ?_
    refine jk_nil ?_
    refine jk_if_t rfl ?_
    refine jk_skip ?_
    refine jk_seq ?_
    refine jk_block ?_
    refine jk_seq ?_
    refine jk_region ?_
    refine zq_move ?_
    refine zq_move ?_
    refine zq_idx1 ?_
    refine zq_load ?_
    refine jk_call ka rfl rfl rdZ rfl rfl ?_
    rintro _ rfl
    refine zq_neF ?_
    refine zq_move ?_
    refine zq_move ?_
    refine zq_move ?_
    refine zq_idx1 ?_
    refine zq_load ?_
    refine jk_call kb rfl rfl rdZ rfl rfl ?_
    rintro _ rfl
    refine zq_ne ?_
    refine zq_pick_f ?_
    refine jk_nil ?_
    refine jk_if_t rfl ?_
    refine jk_seq ?_
    refine jk_region ?_
    refine zq_assign ?_
    refine jk_nil ?_
    exact jk_ret_any (res1 rfl rfl) (by (repeat (first | exact rs_nil | (refine rs_cons ?_ ?_; (focus ((repeat (first | exact .here | apply Mem.there | apply Take.there)); first | done | fail))) | exact fun ρ hρ => hρ | (intro ρ hρ; repeat (first | exact hρ | refine List.mem_cons_of_mem _ ?_)))); first | done | fail) selZ ⟨rfl, rfl⟩
  rw [h1] at ka
  rw [h2] at kb
  refine jk_seq ?_
  refine jk_seq ?_
  refine jk_region ?_
  refine zq_move ?_
  refine zq_move ?_
  refine zq_len ?_
  refine zq_lt ?_
  refine jk_nil ?_
  refine jk_if_t rfl ?_
  refine jk_skip ?_
  refine jk_seq ?_
  refine jk_block ?_
  refine jk_seq ?_
  refine jk_region ?_
  refine zq_move ?_
  refine zq_move ?_
  refine zq_idx1 ?_
  refine zq_load ?_
  refine jk_call ka rfl rfl rdZ rfl rfl ?_
  rintro _ rfl
  refine zq_neF ?_
  refine zq_move ?_
  refine zq_move ?_
  refine zq_move ?_
  refine zq_idx1 ?_
  refine zq_load ?_
  refine jk_call kb rfl rfl rdZ rfl rfl ?_
  rintro _ rfl
  refine zq_neF ?_
  refine zq_pick_f ?_
  refine jk_nil ?_
  refine jk_if_f rfl ?_
  refine jk_skip ?_
  refine jk_blk ?_
  refine jk_region ?_
  refine zq_move ?_
  refine zq_inc ?_
  refine zq_assign ?_
  refine jk_nil ?_
  refine jk_round (k + 1) ⟨by omega, ?_, ?_⟩ (by omega) covZ selZ
  · rw [ta]
    intro z hz
    rcases List.mem_append.1 hz with hz | hz
    · exact hA z hz
    · rw [List.mem_singleton.1 hz]; exact h1
  · rw [tb]
    intro z hz
    rcases List.mem_append.1 hz with hz | hz
    · exact hB z hz
    · rw [List.mem_singleton.1 hz]; exact h2
set_option maxHeartbeats 32000000 in
theorem refJoin_spec (γ κ γ' κ' : PH) (p p' : Option Addr) (kk kk' : Nat) (La Lb : List Sq) (hc : CutL γ κ (.slice p La.length kk) La) (hc' : CutL γ' κ' (.slice p' Lb.length kk') Lb) (lla : La.length ≤ 1000) (llb : Lb.length ≤ 1000) (sa : ∀ l ∈ La, l.2.length ≤ 500) (sb : ∀ l ∈ Lb, l.2.length ≤ 500) :
    Eng.Spec Tryz.prog (fv 10) [.slice p La.length kk, .slice p' Lb.length kk'] [γ, κ, γ', κ'] [] (fun r H' => ∃ (L : List Sq) (u : Value) (σ χ : PH), r = .tuple #[u, int (cmbE (cuL La) (cuL Lb))] ∧ H' = [σ, χ] ∧ cuL L = cmbC (fun x y => x || y) (cuL La) (cuL Lb) ∧ OwnS 46 1 u L.length (L.flatMap encQ) σ ∧ ∀ x ∈ L, SpAt χ (.slice x.1.1 x.2.length x.1.2) x.2 ∧ x.2.length ≤ 9223372036854775807) := by
  have hpair := refPair_spec γ κ γ' κ' p p' kk kk' La Lb hc hc' lla llb
  obtain ⟨_, _, e1, hra⟩ := hc.1.val encQ_len
  obtain ⟨_, _, e2, hrb⟩ := hc'.1.val encQ_len
  simp only [Value.slice.injEq] at e1 e2
  obtain ⟨rfl, _, rfl⟩ := e1
  obtain ⟨rfl, _, rfl⟩ := e2
  refine spec_in (cap := []) Tryz.func10 rfl rfl Tryz.ntmps10 rfl (by (repeat (first | exact EnvA.nil EnvI.nil | apply EnvA.cons | apply EnvA.nil | exact EnvI.nil | apply EnvI.cons)); first | done | fail) (fun N β => ?_)
  refine jk_emp ?_
  refine jk_emp ?_
  refine jk_seq ?_
  refine jk_region ?_
  refine zq_assign ?_
  refine zq_assign ?_
  refine jk_nil ?_
  refine jk_seq ?_
  refine jk_seq ?_
  refine jk_region ?_
  refine zq_move ?_
  refine zq_move ?_
  refine jk_call hpair rfl rfl rdZ rfl rfl ?_
  rintro _ rfl
  by_cases hE : cmbE (cuL La) (cuL Lb) = 0
  rotate_left
  · have hC : cmbC (fun x y => x || y) (cuL La) (cuL Lb) = [] := by unfold cmbC; rw [if_neg hE]
    rw [hC]
    generalize cmbE (cuL La) (cuL Lb) = z at hE
    refine zq_assign ?_
    refine jk_nil ?_
    refine jk_seq ?_
    refine jk_region ?_
    refine zq_move ?_
    refine zq_ne ?_
    refine jk_nil ?_
    refine jk_if_t rfl ?_
    refine jk_seq ?_
    refine jk_region ?_
    refine zq_move ?_
    refine zq_assign ?_
    refine zq_assign ?_
    refine jk_nil ?_
    exact jk_ret_any (res2 rfl rfl rfl) (by (repeat (first | exact rs_nil | (refine rs_cons ?_ ?_; (focus ((repeat (first | exact .here | apply Mem.there | apply Take.there)); first | done | fail))) | exact fun ρ hρ => hρ | (intro ρ hρ; repeat (first | exact hρ | refine List.mem_cons_of_mem _ ?_)))); first | done | fail) selZ ⟨[], _, emp, emp, rfl, rfl, rfl, OwnS.nil _ _, by simp⟩
  have hC : cmbC (fun x y => x || y) (cuL La) (cuL Lb) = List.zipWith (combI (fun x y => x || y)) (cuL La) (cuL Lb) := by unfold cmbC; rw [if_pos hE]
  rw [hC]
  obtain ⟨hlen, hok⟩ : La.length = Lb.length ∧ ∀ x ∈ La ++ Lb, chkI x.2 = 0 := by
    unfold cmbE at hE
    rw [List.length_map, List.length_map] at hE
    split at hE
    · omega
    rename_i h1
    split at hE
    · omega
    rename_i h2
    refine ⟨by omega, fun x hx => ?_⟩
    rw [← List.map_append, List.any_map, List.any_eq_true] at h2
    exact Decidable.not_not.1 (fun h => h2 ⟨x, hx, decide_eq_true h⟩)
  rw [hE]
  refine zq_assign ?_
  refine jk_nil ?_
  refine jk_seq ?_
  refine jk_region ?_
  refine zq_move ?_
  refine zq_neF ?_
  refine jk_nil ?_
  refine jk_if_f rfl ?_
  refine jk_skip ?_
  refine jk_seq ?_
  refine jk_region ?_
  refine zq_assign ?_
  refine jk_nil ?_
  refine jk_seq ?_
  refine jk_seq ?_
  refine jk_region ?_
  refine zq_assign ?_
  refine jk_nil ?_
  refine jk_block ?_
  refine jk_loop [0, 1] (X := Nat × List Sq × Value × PH × PH) (0, [], .slice none 0 0, emp, emp) (fun x => x.1 ≤ La.length ∧ cuL x.2.1 = (List.zipWith (combI (fun x y => x || y)) (cuL La) (cuL Lb)).take x.1 ∧ OwnS 46 1 x.2.2.1 x.2.1.length (x.2.1.flatMap encQ) x.2.2.2.1 ∧ ∀ z ∈ x.2.1, SpAt x.2.2.2.2 (.slice z.1.1 z.2.length z.1.2) z.2 ∧ z.2.length ≤ 9223372036854775807) (fun x => [(8, int x.1), (7, x.2.2.1)]) (fun x => [x.2.2.2.1, x.2.2.2.2]) (fun x => La.length - x.1) pickZ ⟨by dsimp only; omega, by simp, OwnS.nil _ _, by simp⟩ covZ selZ ?_
  rintro ⟨k, L, u, σ, χ⟩ ⟨hk, hL, hO, hS⟩
  dsimp only at hk hL hO hS ⊢
  by_cases hlt : k < La.length
  rotate_left
  · have hke : k = La.length := by omega
    subst hke
    rw [List.take_of_length_le (by simp; omega)] at hL
    refine jk_seq ?_
    refine jk_seq ?_
    refine jk_region ?_
    refine zq_move ?_
    refine zq_move ?_
    refine zq_len ?_
    refine zq_ltF ?_
    refine jk_nil ?_
    refine jk_if_f rfl ?_
    refine jk_exit rfl ?_
    refine jk_seq ?_
    refine jk_region ?_
    refine zq_move ?_
    refine zq_assign ?_
    refine zq_assign ?_
    refine jk_nil ?_
    exact jk_ret_any (res2 rfl rfl rfl) (by (repeat (first | exact rs_nil | (refine rs_cons ?_ ?_; (focus ((repeat (first | exact .here | apply Mem.there | apply Take.there)); first | done | fail))) | exact fun ρ hρ => hρ | (intro ρ hρ; repeat (first | exact hρ | refine List.mem_cons_of_mem _ ?_)))); first | done | fail) selZ ⟨L, u, σ, χ, rfl, rfl, hL, hO, hS⟩
  have hx := List.getElem?_eq_getElem hlt
  have hy := List.getElem?_eq_getElem (show k < Lb.length by omega)
  have hma := List.getElem_mem hlt
  have hmb := List.getElem_mem (show k < Lb.length by omega)
  have hz : (List.zipWith (combI (fun x y => x || y)) (cuL La) (cuL Lb))[k]? = some (combI (fun x y => x || y) La[k].2 Lb[k].2) := by
    rw [List.getElem?_zipWith, List.getElem?_map, List.getElem?_map, hx, hy]; rfl
  have hnext : (List.zipWith (combI (fun x y => x || y)) (cuL La) (cuL Lb)).take (k + 1) = (List.zipWith (combI (fun x y => x || y)) (cuL La) (cuL Lb)).take k ++ [combI (fun x y => x || y) La[k].2 Lb[k].2] := by
    obtain ⟨h1, h2⟩ := List.getElem?_eq_some_iff.1 hz
    rw [List.take_succ_eq_append_getElem h1, h2]
  obtain ⟨b1, o1, rfl, hr1⟩ := hra k _ hx
  obtain ⟨b2, o2, rfl, hr2⟩ := hrb k _ hy
  have g1 : rdc γ b1 (o1 + k) = some (.slice La[k].1.1 La[k].2.length La[k].1.2) := by have := hr1.get0; rwa [Nat.mul_one] at this
  have g2 : rdc γ' b2 (o2 + k) = some (.slice Lb[k].1.1 Lb[k].2.length Lb[k].1.2) := by have := hr2.get0; rwa [Nat.mul_one] at this
  have hla := sa _ hma
  have hlb := sb _ hmb
  have ca := hok _ (List.mem_append_left _ hma)
  have cb := hok _ (List.mem_append_right _ hmb)
  have hgk := refIvUnion_spec κ κ' _ _ La[k].2 Lb[k].2 (hc.2 _ hma).1 (hc'.2 _ hmb).1 ca cb (by omega)
  have hcl := (combI_ok (f := (fun x y => x || y)) rfl (chkI_norm ca).2.1 (chkI_norm cb).2.1).2.2
  have hLl : L.length ≤ La.length := by
    have := congrArg List.length hL
    simp at this
    omega
  clear hz hr1 hr2
  generalize La[k] = xa at hx g1 hla hgk hcl hnext hma
  generalize Lb[k] = xb at hy g2 hlb hgk hcl hnext hmb
  refine jk_seq ?_
  refine jk_seq ?_
  refine jk_region ?_
  refine zq_move ?_
  refine zq_move ?_
  refine zq_len ?_
  refine zq_lt ?_
  refine jk_nil ?_
  refine jk_if_t rfl ?_
  refine jk_skip ?_
  refine jk_seq ?_
  refine jk_block ?_
  refine jk_seq ?_
  refine jk_draw (.q 0 (.q 1 (.q 2 (.q 3 (.q 4 (.q 5 (.q 6 (.q 7 (.l 8 .e (.q 9 (.q 10 (.q 11 (.q 12 (.q 13 .nil)))))))))))))) [] rfl (by kernel_rfl) Sel.nil ?_
  refine zd_move ?_
  refine zd_move ?_
  refine zd_idx1 ?_
  refine zd_load ?_
  refine zd_move ?_
  refine zd_move ?_
  refine zd_idx1 ?_
  refine zd_load ?_
  refine dj_l (a_callM rfl hgk rfl rfl rdZ rfl rfl ?_)
  rintro _ _ ⟨σi, ⟨ui, rfl, hOi⟩, rfl⟩
  obtain ⟨pi, ci, rfl⟩ := hOi.form
  refine zd_move ?_
  refine zd_extract ?_
  refine zd_extract ?_
  refine zd_assign ?_
  refine zd_assign ?_
  refine dj_end ?_
  refine jk_seq ?_
  refine jk_seq ?_
  refine jk_region ?_
  refine zq_move ?_
  refine zq_neF ?_
  refine jk_nil ?_
  refine jk_if_f rfl ?_
  refine jk_skip ?_
  refine jk_region ?_
  refine zq_move ?_
  refine zq_move ?_
  refine zl_buildSlice ?_; rintro _ _ ⟨b, rfl, rfl⟩
  refine jk_op (l_append (by_ := 24) (s := 1) (news := [.slice pi (combI (fun x y => x || y) xa.2 xb.2).length ci]) rfl rfl rfl rfl rfl rfl rfl hO takeZ (cells_own memZ) rfl (by (repeat (first | exact (fun v hv => absurd hv List.not_mem_nil) | (refine List.forall_mem_cons.2 ⟨?_, ?_⟩; (focus (first | exact rfl | assumption))))); first | done | fail) (by omega) (by simp only [maxLen]; omega) (by omega)) rfl rfl rfl ?_
  rintro u1 _ ⟨σ1, hO1, rfl⟩
  refine zq_assign ?_
  refine jk_nil ?_
  refine jk_blk ?_
  refine jk_region ?_
  refine zq_move ?_
  refine zq_inc ?_
  refine zq_assign ?_
  refine jk_nil ?_
  refine jk_join (ρ := σi) (σ := χ) takeZ takeZ (fun χ1 s1 s2 => ?_)
  refine jk_round (k + 1, L ++ [((pi, ci), combI (fun x y => x || y) xa.2 xb.2)], u1, σ1, χ1) ⟨by dsimp only; omega, ?_, ?_, fun z hz => ?_⟩ (by dsimp only; omega) covZ selZ
  · dsimp only
    rw [hnext, ← hL]
    exact List.map_append
  · dsimp only
    rw [List.length_append, List.flatMap_append]
    exact hO1
  · rcases List.mem_append.1 hz with hz | hz
    · exact ⟨(hS z hz).1.mono s2, (hS z hz).2⟩
    · obtain rfl := List.mem_singleton.1 hz
      exact ⟨SlE.mono (show SpAt σi _ _ from hOi.at) s1, by dsimp only; omega⟩
set_option maxHeartbeats 32000000 in
theorem refMeet_spec (γ κ γ' κ' : PH) (p p' : Option Addr) (kk kk' : Nat) (La Lb : List Sq) (hc : CutL γ κ (.slice p La.length kk) La) (hc' : CutL γ' κ' (.slice p' Lb.length kk') Lb) (lla : La.length ≤ 1000) (llb : Lb.length ≤ 1000) (sa : ∀ l ∈ La, l.2.length ≤ 500) (sb : ∀ l ∈ Lb, l.2.length ≤ 500) :
    Eng.Spec Tryz.prog (fv 12) [.slice p La.length kk, .slice p' Lb.length kk'] [γ, κ, γ', κ'] [] (fun r H' => ∃ (L : List Sq) (u : Value) (σ χ : PH), r = .tuple #[u, int (cmbE (cuL La) (cuL Lb))] ∧ H' = [σ, χ] ∧ cuL L = cmbC (fun x y => x && y) (cuL La) (cuL Lb) ∧ OwnS 46 1 u L.length (L.flatMap encQ) σ ∧ ∀ x ∈ L, SpAt χ (.slice x.1.1 x.2.length x.1.2) x.2 ∧ x.2.length ≤ 9223372036854775807) := by
  have hpair := refPair_spec γ κ γ' κ' p p' kk kk' La Lb hc hc' lla llb
  obtain ⟨_, _, e1, hra⟩ := hc.1.val encQ_len
  obtain ⟨_, _, e2, hrb⟩ := hc'.1.val encQ_len
  simp only [Value.slice.injEq] at e1 e2
  obtain ⟨rfl, _, rfl⟩ := e1
  obtain ⟨rfl, _, rfl⟩ := e2
  refine spec_in (cap := []) Tryz.func12 rfl rfl Tryz.ntmps12 rfl (by (repeat (first | exact EnvA.nil EnvI.nil | apply EnvA.cons | apply EnvA.nil | exact EnvI.nil | apply EnvI.cons)); first | done | fail) (fun N β => ?_)
  refine jk_emp ?_
  refine jk_emp ?_
  refine jk_seq ?_
  refine jk_region ?_
  refine zq_assign ?_
  refine zq_assign ?_
  refine jk_nil ?_
  refine jk_seq ?_
  refine jk_seq ?_
  refine jk_region ?_
  refine zq_move ?_
  refine zq_move ?_
  refine jk_call hpair rfl rfl rdZ rfl rfl ?_
  rintro _ rfl
  by_cases hE : cmbE (cuL La) (cuL Lb) = 0
  rotate_left
  · have hC : cmbC (fun x y => x && y) (cuL La) (cuL Lb) = [] := by unfold cmbC; rw [if_neg hE]
    rw [hC]
    generalize cmbE (cuL La) (cuL Lb) = z at hE
    refine zq_assign ?_
    refine jk_nil ?_
    refine jk_seq ?_
    refine jk_region ?_
    refine zq_move ?_
    refine zq_ne ?_
    refine jk_nil ?_
    refine jk_if_t rfl ?_
    refine jk_seq ?_
    refine jk_region ?_
    refine zq_move ?_
    refine zq_assign ?_
    refine zq_assign ?_
    refine jk_nil ?_
    exact jk_ret_any (res2 rfl rfl rfl) (by (repeat (first | exact rs_nil | (refine rs_cons ?_ ?_; (focus ((repeat (first | exact .here | apply Mem.there | apply Take.there)); first | done | fail))) | exact fun ρ hρ => hρ | (intro ρ hρ; repeat (first | exact hρ | refine List.mem_cons_of_mem _ ?_)))); first | done | fail) selZ ⟨[], _, emp, emp, rfl, rfl, rfl, OwnS.nil _ _, by simp⟩
  have hC : cmbC (fun x y => x && y) (cuL La) (cuL Lb) = List.zipWith (combI (fun x y => x && y)) (cuL La) (cuL Lb) := by unfold cmbC; rw [if_pos hE]
  rw [hC]
  obtain ⟨hlen, hok⟩ : La.length = Lb.length ∧ ∀ x ∈ La ++ Lb, chkI x.2 = 0 := by
    unfold cmbE at hE
    rw [List.length_map, List.length_map] at hE
    split at hE
    · omega
    rename_i h1
    split at hE
    · omega
    rename_i h2
    refine ⟨by omega, fun x hx => ?_⟩
    rw [← List.map_append, List.any_map, List.any_eq_true] at h2
    exact Decidable.not_not.1 (fun h => h2 ⟨x, hx, decide_eq_true h⟩)
  rw [hE]
  refine zq_assign ?_
  refine jk_nil ?_
  refine jk_seq ?_
  refine jk_region ?_
  refine zq_move ?_
  refine zq_neF ?_
  refine jk_nil ?_
  refine jk_if_f rfl ?_
  refine jk_skip ?_
  refine jk_seq ?_
  refine jk_region ?_
  refine zq_assign ?_
  refine jk_nil ?_
  refine jk_seq ?_
  refine jk_seq ?_
  refine jk_region ?_
  refine zq_assign ?_
  refine jk_nil ?_
  refine jk_block ?_
  refine jk_loop [0, 1] (X := Nat × List Sq × Value × PH × PH) (0, [], .slice none 0 0, emp, emp) (fun x => x.1 ≤ La.length ∧ cuL x.2.1 = (List.zipWith (combI (fun x y => x && y)) (cuL La) (cuL Lb)).take x.1 ∧ OwnS 46 1 x.2.2.1 x.2.1.length (x.2.1.flatMap encQ) x.2.2.2.1 ∧ ∀ z ∈ x.2.1, SpAt x.2.2.2.2 (.slice z.1.1 z.2.length z.1.2) z.2 ∧ z.2.length ≤ 9223372036854775807) (fun x => [(8, int x.1), (7, x.2.2.1)]) (fun x => [x.2.2.2.1, x.2.2.2.2]) (fun x => La.length - x.1) pickZ ⟨by dsimp only; omega, by simp, OwnS.nil _ _, by simp⟩ covZ selZ ?_
  rintro ⟨k, L, u, σ, χ⟩ ⟨hk, hL, hO, hS⟩
  dsimp only at hk hL hO hS ⊢
  by_cases hlt : k < La.length
  rotate_left
  · have hke : k = La.length := by omega
    subst hke
    rw [List.take_of_length_le (by simp; omega)] at hL
    refine jk_seq ?_
    refine jk_seq ?_
    refine jk_region ?_
    refine zq_move ?_
    refine zq_move ?_
    refine zq_len ?_
    refine zq_ltF ?_
    refine jk_nil ?_
    refine jk_if_f rfl ?_
    refine jk_exit rfl ?_
    refine jk_seq ?_
    refine jk_region ?_
    refine zq_move ?_
    refine zq_assign ?_
    refine zq_assign ?_
    refine jk_nil ?_
    exact jk_ret_any (res2 rfl rfl rfl) (by (repeat (first | exact rs_nil | (refine rs_cons ?_ ?_; (focus ((repeat (first | exact .here | apply Mem.there | apply Take.there)); first | done | fail))) | exact fun ρ hρ => hρ | (intro ρ hρ; repeat (first | exact hρ | refine List.mem_cons_of_mem _ ?_)))); first | done | fail) selZ ⟨L, u, σ, χ, rfl, rfl, hL, hO, hS⟩
  have hx := List.getElem?_eq_getElem hlt
  have hy := List.getElem?_eq_getElem (show k < Lb.length by omega)
  have hma := List.getElem_mem hlt
  have hmb := List.getElem_mem (show k < Lb.length by omega)
  have hz : (List.zipWith (combI (fun x y => x && y)) (cuL La) (cuL Lb))[k]? = some (combI (fun x y => x && y) La[k].2 Lb[k].2) := by
    rw [List.getElem?_zipWith, List.getElem?_map, List.getElem?_map, hx, hy]; rfl
  have hnext : (List.zipWith (combI (fun x y => x && y)) (cuL La) (cuL Lb)).take (k + 1) = (List.zipWith (combI (fun x y => x && y)) (cuL La) (cuL Lb)).take k ++ [combI (fun x y => x && y) La[k].2 Lb[k].2] := by
    obtain ⟨h1, h2⟩ := List.getElem?_eq_some_iff.1 hz
    rw [List.take_succ_eq_append_getElem h1, h2]
  obtain ⟨b1, o1, rfl, hr1⟩ := hra k _ hx
  obtain ⟨b2, o2, rfl, hr2⟩ := hrb k _ hy
  have g1 : rdc γ b1 (o1 + k) = some (.slice La[k].1.1 La[k].2.length La[k].1.2) := by have := hr1.get0; rwa [Nat.mul_one] at this
  have g2 : rdc γ' b2 (o2 + k) = some (.slice Lb[k].1.1 Lb[k].2.length Lb[k].1.2) := by have := hr2.get0; rwa [Nat.mul_one] at this
  have hla := sa _ hma
  have hlb := sb _ hmb
  have ca := hok _ (List.mem_append_left _ hma)
  have cb := hok _ (List.mem_append_right _ hmb)
  have hgk := refIvInter_spec κ κ' _ _ La[k].2 Lb[k].2 (hc.2 _ hma).1 (hc'.2 _ hmb).1 ca cb (by omega)
  have hcl := (combI_ok (f := (fun x y => x && y)) rfl (chkI_norm ca).2.1 (chkI_norm cb).2.1).2.2
  have hLl : L.length ≤ La.length := by
    have := congrArg List.length hL
    simp at this
    omega
  clear hz hr1 hr2
  generalize La[k] = xa at hx g1 hla hgk hcl hnext hma
  generalize Lb[k] = xb at hy g2 hlb hgk hcl hnext hmb
  refine jk_seq ?_
  refine jk_seq ?_
  refine jk_region ?_
  refine zq_move ?_
  refine zq_move ?_
  refine zq_len ?_
  refine zq_lt ?_
  refine jk_nil ?_
  refine jk_if_t rfl ?_
  refine jk_skip ?_
  refine jk_seq ?_
  refine jk_block ?_
  refine jk_seq ?_
  refine jk_draw (.q 0 (.q 1 (.q 2 (.q 3 (.q 4 (.q 5 (.q 6 (.q 7 (.l 8 .e (.q 9 (.q 10 (.q 11 (.q 12 (.q 13 .nil)))))))))))))) [] rfl (by kernel_rfl) Sel.nil ?_
  refine zd_move ?_
  refine zd_move ?_
  refine zd_idx1 ?_
  refine zd_load ?_
  refine zd_move ?_
  refine zd_move ?_
  refine zd_idx1 ?_
  refine zd_load ?_
  refine dj_l (a_callM rfl hgk rfl rfl rdZ rfl rfl ?_)
  rintro _ _ ⟨σi, ⟨ui, rfl, hOi⟩, rfl⟩
  obtain ⟨pi, ci, rfl⟩ := hOi.form
  refine zd_move ?_
  refine zd_extract ?_
  refine zd_extract ?_
  refine zd_assign ?_
  refine zd_assign ?_
  refine dj_end ?_
  refine jk_seq ?_
  refine jk_seq ?_
  refine jk_region ?_
  refine zq_move ?_
  refine zq_neF ?_
  refine jk_nil ?_
  refine jk_if_f rfl ?_
  refine jk_skip ?_
  refine jk_region ?_
  refine zq_move ?_
  refine zq_move ?_
  refine zl_buildSlice ?_; rintro _ _ ⟨b, rfl, rfl⟩
  refine jk_op (l_append (by_ := 24) (s := 1) (news := [.slice pi (combI (fun x y => x && y) xa.2 xb.2).length ci]) rfl rfl rfl rfl rfl rfl rfl hO takeZ (cells_own memZ) rfl (by (repeat (first | exact (fun v hv => absurd hv List.not_mem_nil) | (refine List.forall_mem_cons.2 ⟨?_, ?_⟩; (focus (first | exact rfl | assumption))))); first | done | fail) (by omega) (by simp only [maxLen]; omega) (by omega)) rfl rfl rfl ?_
  rintro u1 _ ⟨σ1, hO1, rfl⟩
  refine zq_assign ?_
  refine jk_nil ?_
  refine jk_blk ?_
  refine jk_region ?_
  refine zq_move ?_
  refine zq_inc ?_
  refine zq_assign ?_
  refine jk_nil ?_
  refine jk_join (ρ := σi) (σ := χ) takeZ takeZ (fun χ1 s1 s2 => ?_)
  refine jk_round (k + 1, L ++ [((pi, ci), combI (fun x y => x && y) xa.2 xb.2)], u1, σ1, χ1) ⟨by dsimp only; omega, ?_, ?_, fun z hz => ?_⟩ (by dsimp only; omega) covZ selZ
  · dsimp only
    rw [hnext, ← hL]
    exact List.map_append
  · dsimp only
    rw [List.length_append, List.flatMap_append]
    exact hO1
  · rcases List.mem_append.1 hz with hz | hz
    · exact ⟨(hS z hz).1.mono s2, (hS z hz).2⟩
    · obtain rfl := List.mem_singleton.1 hz
      exact ⟨SlE.mono (show SpAt σi _ _ from hOi.at) s1, by dsimp only; omega⟩
set_option maxHeartbeats 16000000 in
theorem refSameCut_spec (γ κ γ' κ' : PH) (p p' : Option Addr) (kk kk' : Nat) (La Lb : List Sq) (hc : CutL γ κ (.slice p La.length kk) La) (hc' : CutL γ' κ' (.slice p' Lb.length kk') Lb) (he : cuL La = cuL Lb) (lla : La.length ≤ 1000000) :
    Ans Tryz.prog (fv 13) [.slice p La.length kk, .slice p' Lb.length kk'] [γ, κ, γ', κ'] (fun r => r = .bool true) := by
  have hlen : La.length = Lb.length := by have := congrArg List.length he; simpa using this
  obtain ⟨_, _, e1, hra⟩ := hc.1.val encQ_len
  obtain ⟨_, _, e2, hrb⟩ := hc'.1.val encQ_len
  simp only [Value.slice.injEq] at e1 e2
  obtain ⟨rfl, _, rfl⟩ := e1
  obtain ⟨rfl, _, rfl⟩ := e2
  refine spec_in (cap := []) Tryz.func13 rfl rfl Tryz.ntmps13 rfl (by (repeat (first | exact EnvA.nil EnvI.nil | apply EnvA.cons | apply EnvA.nil | exact EnvI.nil | apply EnvI.cons)); first | done | fail) (fun N β => ?_)
  refine jk_seq ?_
  refine jk_region ?_
  refine zq_assign ?_
  refine jk_nil ?_
  refine jk_seq ?_
  refine jk_seq ?_
  refine jk_region ?_
  refine zq_move ?_
  refine zq_len ?_
  refine zq_move ?_
  refine zq_len ?_
  refine zq_neF ?_
  refine jk_nil ?_
  refine jk_if_f rfl ?_
  refine jk_skip ?_
  refine jk_seq ?_
  refine jk_seq ?_
  refine jk_region ?_
  refine zq_assign ?_
  refine jk_nil ?_
  refine jk_block ?_
  refine jk_loop [0, 1] (0 : Nat) (fun k => k ≤ La.length) (fun k => [(5, int k)]) (fun _ => []) (fun k => La.length - k) pickZ (by omega) covZ selZ ?_
  rintro k hk
  by_cases hlt : k < La.length
  rotate_left
  · refine jk_seq ?_
    refine jk_seq ?_
    refine jk_region ?_
    refine zq_move ?_
    refine zq_move ?_
    refine zq_len ?_
    refine zq_ltF ?_
    refine jk_nil ?_
    refine jk_if_f rfl ?_
    refine jk_exit rfl ?_
    refine jk_seq ?_
    refine jk_region ?_
    refine zq_assign ?_
    refine jk_nil ?_
    exact jk_ret_any (res1 rfl rfl) (by (repeat (first | exact rs_nil | (refine rs_cons ?_ ?_; (focus ((repeat (first | exact .here | apply Mem.there | apply Take.there)); first | done | fail))) | exact fun ρ hρ => hρ | (intro ρ hρ; repeat (first | exact hρ | refine List.mem_cons_of_mem _ ?_)))); first | done | fail) selZ ⟨rfl, rfl⟩
  have hltb : k < Lb.length := by omega
  have hx := List.getElem?_eq_getElem hlt
  have hy := List.getElem?_eq_getElem hltb
  have hexy : La[k].2 = Lb[k].2 := by
    have := congrArg (fun c : Cu => c[k]?) he
    simp only [List.getElem?_map, hx, hy, Option.map_some, Option.some.injEq] at this
    exact this
  have hma := List.getElem_mem hlt
  have hmb := List.getElem_mem hltb
  obtain ⟨b1, o1, rfl, hr1⟩ := hra k _ hx
  obtain ⟨b2, o2, rfl, hr2⟩ := hrb k _ hy
  have g1 : rdc γ b1 (o1 + k) = some (.slice La[k].1.1 La[k].2.length La[k].1.2) := by have := hr1.get0; rwa [Nat.mul_one] at this
  have g2 : rdc γ' b2 (o2 + k) = some (.slice Lb[k].1.1 Lb[k].2.length Lb[k].1.2) := by have := hr2.get0; rwa [Nat.mul_one] at this
  have hs := refSame_spec κ κ' _ _ La[k].2 (hc.2 _ hma).1 (hexy ▸ (hc'.2 _ hmb).1) (hc.2 _ hma).2
  clear hr1 hr2
  rw [hexy] at hs g1
  generalize La[k] = x at hx g1 hs
  generalize Lb[k] = y at hy g2 hs g1
  refine jk_seq ?_
  refine jk_seq ?_
  refine jk_region ?_
  refine zq_move ?_
  refine zq_move ?_
  refine zq_len ?_
  refine zq_lt ?_
  refine jk_nil ?_
  refine jk_if_t rfl ?_
  refine jk_skip ?_
  refine jk_seq ?_
  refine jk_block ?_
  refine jk_seq ?_
  refine jk_draw (.q 0 (.q 1 (.q 2 (.q 3 (.q 4 (.q 5 (.q 6 (.q 7 (.l 8 .e (.q 9 .nil)))))))))) [] rfl (by kernel_rfl) Sel.nil ?_
  refine zd_move ?_
  refine zd_move ?_
  refine zd_idx1 ?_
  refine zd_load ?_
  refine zd_move ?_
  refine zd_move ?_
  refine zd_idx1 ?_
  refine zd_load ?_
  refine dj_l (a_call rfl hs rfl rfl rdZ rfl rfl ?_)
  rintro _ rfl
  refine zd_not ?_
  refine dj_end ?_
  refine jk_if_f rfl ?_
  refine jk_skip ?_
  refine jk_blk ?_
  refine jk_region ?_
  refine zq_move ?_
  refine zq_inc ?_
  refine zq_assign ?_
  refine jk_nil ?_
  exact jk_round (k + 1) (by omega) (by omega) covZ selZ
end Go.Proofs.YtjbebmealbnmgaaGreat
/- Shipments and stocks, of the reference. -/
namespace Go.Proofs.YtjbebmealbnmgaaGreat
open Go.Eng Go.Step
set_option maxRecDepth 100000
set_option maxHeartbeats 4000000

theorem ship1_ok {cs : List Ct} {bs : List Bk} {d : Dm} {x : Sh} (h : ship1 cs bs d x = 0) : ∃ (nn : Nat) (c : Ct), x.c = nn ∧ cs[nn]? = some c ∧ ctOf cs x = c ∧ (d.r ≤ x.t ∧ c.s ≤ x.t ∧ x.t < c.e ∧ 1 ≤ x.n ∧ x.n ≤ c.r) ∧ x.t + 1 + c.g ≤ d.e ∧ arrOf cs x = x.t + 1 + c.g := by
  unfold ship1 at h
  by_cases h1 : x.c < 0 ∨ (cs.length : Int) ≤ x.c
  · rw [if_pos h1] at h; omega
  rw [if_neg h1] at h
  have hlt : x.c.toNat < cs.length := by omega
  rw [List.getElem?_eq_getElem hlt] at h
  dsimp only at h
  have hct : ctOf cs x = cs[x.c.toNat] := by unfold ctOf; rw [List.getD_eq_getElem?_getD, List.getElem?_eq_getElem hlt]; rfl
  by_cases h2 : x.t < d.r ∨ x.t < cs[x.c.toNat].s ∨ cs[x.c.toNat].e ≤ x.t ∨ x.n < 1 ∨ cs[x.c.toNat].r < x.n
  · rw [if_pos h2] at h; omega
  rw [if_neg h2] at h
  by_cases h3 : d.e < x.t + 1 + cs[x.c.toNat].g
  · rw [if_pos h3] at h; omega
  exact ⟨x.c.toNat, cs[x.c.toNat], by omega, List.getElem?_eq_getElem hlt, hct, by omega, by omega, by unfold arrOf; rw [hct]⟩
theorem shipE_bad {cs : List Ct} {bs : List Bk} {d : Dm} {l : List Sh} {i : Nat} {x : Sh} {e : Int} (h : l[i]? = some x) (h1 : ship1 cs bs d x = e) (h0 : e ≠ 0) : shipE cs bs d l i = e := by rw [shipE_at h, h1, if_pos h0]
theorem shipE_good {cs : List Ct} {bs : List Bk} {d : Dm} {l : List Sh} {i : Nat} {x : Sh} (h : l[i]? = some x) (h1 : ship1 cs bs d x = 0) : shipE cs bs d l i = if (l.take i).any (sameSl x) then 14 else 0 := by rw [shipE_at h, h1, if_neg (by simp)]
end Go.Proofs.YtjbebmealbnmgaaGreat
/- Stocks, of the reference. -/
namespace Go.Proofs.YtjbebmealbnmgaaGreat
open Go.Eng Go.Step
set_option maxRecDepth 100000
set_option maxHeartbeats 4000000

end Go.Proofs.YtjbebmealbnmgaaGreat
/- Flow, of the reference. -/
namespace Go.Proofs.YtjbebmealbnmgaaGreat
open Go.Eng Go.Step
set_option maxRecDepth 100000
set_option maxHeartbeats 4000000

theorem valid_ok {qs : List Int} {cs : List Ct} {bs : List Bk} {hs : List Hd} {d : Dm} (h : validT qs cs bs hs d = true) : (∀ c ∈ cs, chkCt c = 0 ∧ c.f < qs.length ∧ c.t < qs.length) ∧ bs.length ≤ 512 ∧ (∀ x ∈ hs, okHd qs.length x) ∧ hs.length ≤ 512 ∧ (1 ≤ qs.length ∧ qs.length ≤ 16) ∧ (∀ (j : Nat) (q : Int), qs[j]? = some q → 0 ≤ q ∧ q ≤ 1073741824) ∧ okDm qs.length d ∧ cs.length ≤ 64 := by
  obtain ⟨h1, h2⟩ := of_decide_eq_true h
  obtain ⟨p, b, hh⟩ := chkT_ok h1
  obtain ⟨k1, k2⟩ := chkPl_ct p
  obtain ⟨k3, k4⟩ := chkPl_quo p
  have k5 := chkB_ok b
  have k6 : (∀ x ∈ hs, okHd qs.length x) ∧ hs.length ≤ 512 := by
    unfold chkH at hh
    rw [if_neg (by simpa using p)] at hh
    by_cases c1 : 512 < hs.length
    · rw [if_pos c1] at hh; omega
    rw [if_neg c1] at hh
    by_cases c2 : firstE (hdE qs.length hs) hs.length = 0
    · have := hdE_ok c2
      rw [List.take_length] at this
      exact ⟨this, by omega⟩
    · rw [if_pos c2] at hh; exact absurd hh c2
  exact ⟨k2, k5.1, k6.1, k6.2, k3, k4, h2, k1⟩
theorem ships_ok {cs : List Ct} {bs : List Bk} {d : Dm} {l : List Sh} (h : firstE (shipE cs bs d l) l.length = 0) : ∀ x ∈ l, ship1 cs bs d x = 0 := fun x hx => by
  obtain ⟨i, hi, rfl⟩ := List.getElem_of_mem hx
  have h2 := firstE_zero h i hi
  rw [shipE_at (List.getElem?_eq_getElem hi)] at h2
  by_cases c : ship1 cs bs d l[i] = 0
  · exact c
  · rw [if_pos c] at h2; exact h2
end Go.Proofs.YtjbebmealbnmgaaGreat
