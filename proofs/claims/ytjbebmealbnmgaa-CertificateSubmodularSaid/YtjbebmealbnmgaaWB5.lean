/- Texts of this proof, one after the other; no conditions. -/
import Derived.Test.YtjbebmealbnmgaaWB4
import Derived.Test.YtjbebmealbnmgaaWB2
import Derived.Test.YtjbebmealbnmgaaWB1
set_option linter.all false
/- The table of stocks, change by change. No program in sight. No conditions. -/
namespace Go.Step
/-- what changes do to a cell of the table -/
def chS (d : Dm) (n : Int) (k : Nat) : List (List Int) → Int
  | [] => 0
  | c :: l => (if c.getD 0 0 = n then upd1 d (c.getD 1 0 - d.r) (c.getD 2 0) n k else 0) + chS d n k l
theorem chS_append (d : Dm) (n : Int) (k : Nat) (a b : List (List Int)) : chS d n k (a ++ b) = chS d n k a + chS d n k b := by
  induction a with
  | nil => simp [chS]
  | cons x a ih => simp only [List.cons_append, chS, ih]; omega
theorem chS_stock (cs : List Ct) (d : Dm) (n : Int) (k : Nat) : ∀ l : List Sh, chS d n k (l.flatMap (chsOf cs)) = stock cs d n (d.r + k) l
  | [] => rfl
  | x :: l => by
    have ih := chS_stock cs d n k l
    rw [List.flatMap_cons, chS_append, ih]
    simp only [stock, stk1_chs]
    simp [chsOf, chS]
theorem chS_next (d : Dm) (n : Int) (k : Nat) {l : List (List Int)} {i : Nat} {a t b : Int} (h : l[i]? = some [a, t, b]) : chS d n k (l.take (i + 1)) = chS d n k (l.take i) + if a = n then upd1 d (t - d.r) b n k else 0 := by
  obtain ⟨hk, e⟩ := List.getElem?_eq_some_iff.1 h
  rw [List.take_succ_eq_append_getElem hk, chS_append, e]
  simp [chS]
def rowC (m : Nat) (f : Nat → Int) : List Int := (List.range m).map f
theorem rowC_len (m : Nat) (f : Nat → Int) : (rowC m f).length = m := by simp [rowC]
theorem rowC_get {m : Nat} {f : Nat → Int} {k : Nat} (h : k < m) : (rowC m f)[k]? = some (f k) := by simp [rowC, h]
theorem rowC_set {m : Nat} {f : Nat → Int} {j : Nat} {v : Int} : (rowC m f).set j v = rowC m (fun k => if k = j then v else f k) := by
  apply List.ext_getElem?
  intro k
  rw [List.getElem?_set]
  unfold rowC
  rw [List.length_map, List.length_range]
  by_cases h : j = k
  · subst h
    by_cases h2 : j < m
    · simp [h2]
    · simp [h2]
  · rw [if_neg h]
    by_cases h2 : k < m
    · simp [h2, Ne.symm h]
    · simp [h2]
theorem rowC_congr {m : Nat} {f g : Nat → Int} (h : ∀ k, k < m → f k = g k) : rowC m f = rowC m g := by
  unfold rowC
  exact List.map_congr_left (fun k hk => h k (by simpa using hk))
/-- the table after some changes -/
def tabC (d : Dm) (N m : Nat) (l : List (List Int)) : List (List Int) := (List.range N).map (fun (n : Nat) => rowC m (fun k => chS d (n : Int) k l))
theorem tabC_len (d : Dm) (N m : Nat) (l : List (List Int)) : (tabC d N m l).length = N := by simp [tabC]
theorem tabC_get {d : Dm} {N m : Nat} {l : List (List Int)} {n : Nat} (h : n < N) : (tabC d N m l)[n]? = some (rowC m (fun k => chS d n k l)) := by simp [tabC, h]
theorem tabC_zero (d : Dm) (N m : Nat) : tabC d N m [] = List.replicate N (List.replicate m 0) := by
  unfold tabC rowC
  simp only [chS]
  rw [List.map_const', List.map_const', List.length_range, List.length_range]
theorem tabC_next {d : Dm} {N m : Nat} {l : List (List Int)} {i nd : Nat} {t b : Int} (h : l[i]? = some [(nd : Int), t, b]) (hn : nd < N) :
    tabC d N m (l.take (i + 1)) = (tabC d N m (l.take i)).set nd (rowC m (fun k => chS d nd k (l.take i) + upd1 d (t - d.r) b nd k)) := by
  apply List.ext_getElem?
  intro n
  rw [List.getElem?_set, tabC_len]
  by_cases e : nd = n
  · subst e
    rw [if_pos rfl, if_pos hn, tabC_get hn]
    congr 1
    refine rowC_congr (fun k _ => ?_)
    rw [chS_next d nd k h, if_pos rfl]
  · rw [if_neg e]
    by_cases h2 : n < N
    · rw [tabC_get h2, tabC_get h2]
      congr 1
      refine rowC_congr (fun k _ => ?_)
      rw [chS_next d n k h, if_neg (by omega), Int.add_zero]
    · rw [List.getElem?_eq_none (by rw [tabC_len]; omega), List.getElem?_eq_none (by rw [tabC_len]; omega)]
/-- the rows on the way: the first j cells, the cells from a on below j -/
theorem row_src {d : Dm} {m : Nat} {f : Nat → Int} {a b : Int} {n : Int} (hn : n = d.s) : rowC m (fun k => f k + if (k : Int) < min a m then -b else 0) = rowC m (fun k => f k + upd1 d a b n k) := by
  refine rowC_congr (fun k hk => ?_)
  unfold upd1
  rw [if_pos hn]
  by_cases h : (k : Int) < a
  · rw [if_pos (by omega), if_pos h]
  · rw [if_neg (by omega), if_neg h]
theorem row_oth {d : Dm} {m : Nat} {f : Nat → Int} {a j : Nat} {b : Int} {n : Int} (hn : n ≠ d.s) (hj : m ≤ j) : rowC m (fun k => f k + if a ≤ k ∧ k < j then b else 0) = rowC m (fun k => f k + upd1 d a b n k) := by
  refine rowC_congr (fun k hk => ?_)
  unfold upd1
  rw [if_neg hn]
  by_cases h : a ≤ k
  · rw [if_pos ⟨h, by omega⟩, if_pos (by omega)]
  · rw [if_neg (fun h2 => h h2.1), if_neg (by omega)]
theorem chS_bd (d : Dm) (n : Int) (k : Nat) : ∀ (l : List (List Int)), (∀ c ∈ l, -1000 ≤ c.getD 2 0 ∧ c.getD 2 0 ≤ 1000) → -(1000 * (l.length : Int)) ≤ chS d n k l ∧ chS d n k l ≤ 1000 * l.length
  | [], _ => by simp [chS]
  | c :: l, h => by
    have ih := chS_bd d n k l (fun y hy => h y (by simp [hy]))
    have h0 := h c (by simp)
    simp only [chS, List.length_cons]
    push_cast
    unfold upd1
    split <;> (try split) <;> (try split) <;> omega
end Go.Step
/- Sets of integers as spans. No program in sight. No conditions. -/
namespace Go.Step
def okSp (x : Int × Int) : Prop := x.1 < x.2 ∧ -1152921504606846976 ≤ x.1 ∧ x.2 ≤ 1152921504606846976
instance (x : Int × Int) : Decidable (okSp x) := inferInstanceAs (Decidable (_ ∧ _))
def spE (l : List (Int × Int)) (i : Nat) : Int := match l[i]? with
  | some x => if ¬ okSp x then 2 else if 0 < i ∧ x.1 ≤ (l.getD (i - 1) x).2 then 9 else 0
  | none => 0
theorem spE_at {l : List (Int × Int)} {i : Nat} {x : Int × Int} (e : l[i]? = some x) : spE l i = if ¬ okSp x then 2 else if 0 < i ∧ x.1 ≤ (l.getD (i - 1) x).2 then 9 else 0 := by unfold spE; rw [e]
/-- what is wrong with a set -/
def chkI (l : List (Int × Int)) : Int := if 1000 < l.length then 4 else firstE (spE l) l.length
def inSp (t : Int) (x : Int × Int) : Bool := decide (x.1 ≤ t) && decide (t < x.2)
def hasI (l : List (Int × Int)) (t : Int) : Bool := decide (chkI l = 0) && l.any (inSp t)
end Go.Step
/- Sets of integers: checked, asked. -/
namespace Go.Proofs.Ytjbebmealbnmgaa
open Go.Eng Go.Step
set_option maxRecDepth 100000
set_option maxHeartbeats 4000000

theorem ivValid_spec (x : Int × Int) : Ans Try.prog (fv 47) [.agg #[int x.1, int x.2]] [] (fun r => r = .bool (decide (okSp x))) := by
  refine spec_in (cap := []) Try.func47 rfl rfl Try.ntmps47 rfl (by (repeat (first | exact EnvA.nil EnvI.nil | apply EnvA.cons | apply EnvA.nil | exact EnvI.nil | apply EnvI.cons)); first | done | fail) (fun N β => ?_)
  by_cases h1 : x.1 < x.2
  · by_cases h2 : -1152921504606846976 ≤ x.1
    · by_cases h3 : x.2 ≤ 1152921504606846976
      · rw [decide_eq_true (show okSp x from ⟨h1, h2, h3⟩)]
        refine jk_seq ?_
        refine jk_region ?_
        refine zl_boxS ?_; rintro _ _ ⟨b, rfl, rfl⟩
        refine zq_assign ?_
        refine jk_nil ?_
        refine jk_seq ?_
        refine jk_region ?_
        refine zq_fld0 ?_
        refine zq_load ?_
        refine zq_fld0 ?_
        refine zq_load ?_
        refine zq_lt ?_
        refine zq_move ?_
        refine zq_fld0 ?_
        refine zq_load ?_
        refine zq_ge ?_
        refine zq_pick_t ?_
        refine zq_move ?_
        refine zq_fld0 ?_
        refine zq_load ?_
        refine zq_le ?_
        refine zq_pick_t ?_
        refine zq_assign ?_
        refine jk_nil ?_
        exact jk_ret_any (res1 rfl rfl) (by (repeat (first | exact rs_nil | (refine rs_cons ?_ ?_; (focus ((repeat (first | exact .here | apply Mem.there | apply Take.there)); first | done | fail))) | exact fun ρ hρ => hρ | (intro ρ hρ; repeat (first | exact hρ | refine List.mem_cons_of_mem _ ?_)))); first | done | fail) selZ ⟨rfl, rfl⟩
      · rw [decide_eq_false (fun h : okSp x => h3 h.2.2)]
        refine jk_seq ?_
        refine jk_region ?_
        refine zl_boxS ?_; rintro _ _ ⟨b, rfl, rfl⟩
        refine zq_assign ?_
        refine jk_nil ?_
        refine jk_seq ?_
        refine jk_region ?_
        refine zq_fld0 ?_
        refine zq_load ?_
        refine zq_fld0 ?_
        refine zq_load ?_
        refine zq_lt ?_
        refine zq_move ?_
        refine zq_fld0 ?_
        refine zq_load ?_
        refine zq_ge ?_
        refine zq_pick_t ?_
        refine zq_move ?_
        refine zq_fld0 ?_
        refine zq_load ?_
        refine zq_leF ?_
        refine zq_pick_t ?_
        refine zq_assign ?_
        refine jk_nil ?_
        exact jk_ret_any (res1 rfl rfl) (by (repeat (first | exact rs_nil | (refine rs_cons ?_ ?_; (focus ((repeat (first | exact .here | apply Mem.there | apply Take.there)); first | done | fail))) | exact fun ρ hρ => hρ | (intro ρ hρ; repeat (first | exact hρ | refine List.mem_cons_of_mem _ ?_)))); first | done | fail) selZ ⟨rfl, rfl⟩
    · rw [decide_eq_false (fun h : okSp x => h2 h.2.1)]
      refine jk_seq ?_
      refine jk_region ?_
      refine zl_boxS ?_; rintro _ _ ⟨b, rfl, rfl⟩
      refine zq_assign ?_
      refine jk_nil ?_
      refine jk_seq ?_
      refine jk_region ?_
      refine zq_fld0 ?_
      refine zq_load ?_
      refine zq_fld0 ?_
      refine zq_load ?_
      refine zq_lt ?_
      refine zq_move ?_
      refine zq_fld0 ?_
      refine zq_load ?_
      refine zq_geF ?_
      refine zq_pick_t ?_
      refine zq_move ?_
      refine jk_pass rfl rfl rfl ?_
      refine jk_pass rfl rfl rfl ?_
      refine jk_pass rfl rfl rfl ?_
      refine zq_pick_f ?_
      refine zq_assign ?_
      refine jk_nil ?_
      exact jk_ret_any (res1 rfl rfl) (by (repeat (first | exact rs_nil | (refine rs_cons ?_ ?_; (focus ((repeat (first | exact .here | apply Mem.there | apply Take.there)); first | done | fail))) | exact fun ρ hρ => hρ | (intro ρ hρ; repeat (first | exact hρ | refine List.mem_cons_of_mem _ ?_)))); first | done | fail) selZ ⟨rfl, rfl⟩
  · rw [decide_eq_false (fun h : okSp x => h1 h.1)]
    refine jk_seq ?_
    refine jk_region ?_
    refine zl_boxS ?_; rintro _ _ ⟨b, rfl, rfl⟩
    refine zq_assign ?_
    refine jk_nil ?_
    refine jk_seq ?_
    refine jk_region ?_
    refine zq_fld0 ?_
    refine zq_load ?_
    refine zq_fld0 ?_
    refine zq_load ?_
    refine zq_ltF ?_
    refine zq_move ?_
    refine jk_pass rfl rfl rfl ?_
    refine jk_pass rfl rfl rfl ?_
    refine jk_pass rfl rfl rfl ?_
    refine zq_pick_f ?_
    refine zq_move ?_
    refine jk_pass rfl rfl rfl ?_
    refine jk_pass rfl rfl rfl ?_
    refine jk_pass rfl rfl rfl ?_
    refine zq_pick_f ?_
    refine zq_assign ?_
    refine jk_nil ?_
    exact jk_ret_any (res1 rfl rfl) (by (repeat (first | exact rs_nil | (refine rs_cons ?_ ?_; (focus ((repeat (first | exact .here | apply Mem.there | apply Take.there)); first | done | fail))) | exact fun ρ hρ => hρ | (intro ρ hρ; repeat (first | exact hρ | refine List.mem_cons_of_mem _ ?_)))); first | done | fail) selZ ⟨rfl, rfl⟩
set_option maxHeartbeats 16000000 in
theorem ivCheck_spec (ρ : PH) (v : Value) (l : List (Int × Int)) (hv : SpAt ρ v l) (hl : l.length ≤ 9223372036854775807) :
    Ans Try.prog (fv 29) [v] [ρ] (fun r => r = int (chkI l)) := by
  obtain ⟨q, c, rfl, hr⟩ := hv.val encS_len
  refine spec_in (cap := []) Try.func29 rfl rfl Try.ntmps29 rfl (by (repeat (first | exact EnvA.nil EnvI.nil | apply EnvA.cons | apply EnvA.nil | exact EnvI.nil | apply EnvI.cons)); first | done | fail) (fun N β => ?_)
  unfold chkI
  by_cases hbig : 1000 < l.length
  · rw [if_pos hbig]
    refine jk_seq ?_
    refine jk_region ?_
    refine zq_assign ?_
    refine jk_nil ?_
    refine jk_seq ?_
    refine jk_seq ?_
    refine jk_region ?_
    refine zq_move ?_
    refine zq_len ?_
    refine zq_gt ?_
    refine jk_nil ?_
    refine jk_if_t rfl ?_
    refine jk_seq ?_
    refine jk_region ?_
    refine zq_assign ?_
    refine jk_nil ?_
    exact jk_ret_any (res1 rfl rfl) (by (repeat (first | exact rs_nil | (refine rs_cons ?_ ?_; (focus ((repeat (first | exact .here | apply Mem.there | apply Take.there)); first | done | fail))) | exact fun ρ hρ => hρ | (intro ρ hρ; repeat (first | exact hρ | refine List.mem_cons_of_mem _ ?_)))); first | done | fail) selZ ⟨rfl, rfl⟩
  rw [if_neg hbig]
  refine jk_seq ?_
  refine jk_region ?_
  refine zq_assign ?_
  refine jk_nil ?_
  refine jk_seq ?_
  refine jk_seq ?_
  refine jk_region ?_
  refine zq_move ?_
  refine zq_len ?_
  refine zq_gtF ?_
  refine jk_nil ?_
  refine jk_if_f rfl ?_
  refine jk_skip ?_
  refine jk_seq ?_
  refine jk_seq ?_
  refine jk_region ?_
  refine zq_move ?_
  refine zq_len ?_
  refine zq_move ?_
  refine jk_nil ?_
  refine jk_block ?_
  refine jk_loop [0, 8, 9] (0 : Nat) (fun k => k ≤ l.length ∧ firstE (spE l) k = 0) (fun k => [(10, int k)]) (fun _ => []) (fun k => l.length - k) pickZ ⟨by omega, rfl⟩ covZ selZ ?_
  rintro k ⟨hk, hI⟩
  by_cases hlt : k < l.length
  · have hx := List.getElem?_eq_getElem hlt
    obtain ⟨b4, o4, rfl, hrd, g0, g1⟩ := spRow hr hx
    have hE := spE_at hx
    generalize l[k] = x at hrd g0 g1 hE
    refine jk_seq ?_
    refine jk_region ?_
    refine zq_lt ?_
    refine jk_nil ?_
    refine jk_seq ?_
    refine jk_if_t rfl ?_
    refine jk_skip ?_
    refine jk_seq ?_
    refine jk_block ?_
    refine jk_seq ?_
    refine jk_region ?_
    refine zq_move ?_
    refine zq_idxN ?_
    refine zq_loadS ?_
    refine zl_allocS ?_; rintro _ _ ⟨b, rfl, rfl⟩
    refine zq_assign ?_
    refine zs_storeS ?_; rintro _ _ ⟨rfl, rfl⟩
    refine jk_nil ?_
    refine jk_seq ?_
    refine jk_seq ?_
    refine jk_region ?_
    refine zq_loadS ?_
    revert b; intro b6
    refine jk_call (ivValid_spec x) rfl rfl rdZ rfl rfl ?_
    rintro _ rfl
    by_cases hok : okSp x
    rotate_left
    · rw [if_pos hok] at hE
      have hh := firstE_hit hI (by rw [hE]; decide) _ hlt
      rw [hh, hE, decide_eq_false hok]
      refine zq_not ?_
      refine jk_nil ?_
      refine jk_if_t rfl ?_
      refine jk_seq ?_
      refine jk_region ?_
      refine zq_assign ?_
      refine jk_nil ?_
      exact jk_ret_any (res1 rfl rfl) (by (repeat (first | exact rs_nil | (refine rs_cons ?_ ?_; (focus ((repeat (first | exact .here | apply Mem.there | apply Take.there)); first | done | fail))) | exact fun ρ hρ => hρ | (intro ρ hρ; repeat (first | exact hρ | refine List.mem_cons_of_mem _ ?_)))); first | done | fail) selZ ⟨rfl, rfl⟩
    rw [if_neg (fun h => h hok)] at hE
    rw [decide_eq_true hok]
    refine zq_not ?_
    refine jk_nil ?_
    refine jk_if_f rfl ?_
    refine jk_skip ?_
    refine jk_seq ?_
    refine jk_draw (.q 0 (.q 1 (.q 2 (.q 3 (.q 4 (.q 5 (.q 6 (.q 7 (.q 8 (.q 9 (.q 10 (.q 11 (.q 12 .nil))))))))))))) [sng b6 _] rfl (by kernel_rfl) selZ ?_
    by_cases h0 : k = 0
    · subst h0
      rw [if_neg (by omega)] at hE
      refine zd_move ?_
      refine zd_gtF ?_
      refine zd_move ?_
      refine dj_pass rfl rfl rfl rfl rfl ?_
      refine dj_pass rfl rfl rfl rfl rfl ?_
      refine dj_pass rfl rfl rfl rfl rfl ?_
      refine dj_pass rfl rfl rfl rfl rfl ?_
      refine dj_pass rfl rfl rfl rfl rfl ?_
      refine dj_pass rfl rfl rfl rfl rfl ?_
      refine dj_pass rfl rfl rfl rfl rfl ?_
      refine dj_pass rfl rfl rfl rfl rfl ?_
      refine dj_pass rfl rfl rfl rfl rfl ?_
      refine zd_pick_f ?_
      refine dj_end ?_
      refine jk_if_f rfl ?_
      refine jk_skip ?_
      refine jk_blk ?_
      refine jk_region ?_
      refine zq_inc ?_
      refine zq_move ?_
      refine jk_nil ?_
      exact jk_round (0 + 1) ⟨by omega, firstE_ok hI hE⟩ (by omega) covZ selZ
    · have hx' := List.getElem?_eq_getElem (show k - 1 < l.length by omega)
      obtain ⟨_, _, e, _, p0, p1⟩ := spRow hr hx'
      simp only [Option.some.injEq, Addr.mk.injEq, and_true] at e
      obtain ⟨rfl, rfl⟩ := e
      rw [List.getD_eq_getElem?_getD, hx', Option.getD_some] at hE
      generalize l[k - 1] = p at p0 p1 hE
      by_cases h9 : x.1 ≤ p.2
      · rw [if_pos ⟨by omega, h9⟩] at hE
        have hh := firstE_hit hI (by rw [hE]; decide) _ hlt
        rw [hh, hE]
        refine zd_move ?_
        refine zd_gt ?_
        refine zd_move ?_
        refine zd_fld0 ?_
        refine zd_load ?_
        refine zd_move ?_
        refine zd_move ?_
        refine zd_sub_nat ?_
        refine zd_idxN ?_
        refine zd_fld ?_
        refine zd_load ?_
        refine zd_le ?_
        refine zd_pick_t ?_
        refine dj_end ?_
        refine jk_if_t rfl ?_
        refine jk_seq ?_
        refine jk_region ?_
        refine zq_assign ?_
        refine jk_nil ?_
        exact jk_ret_any (res1 rfl rfl) (by (repeat (first | exact rs_nil | (refine rs_cons ?_ ?_; (focus ((repeat (first | exact .here | apply Mem.there | apply Take.there)); first | done | fail))) | exact fun ρ hρ => hρ | (intro ρ hρ; repeat (first | exact hρ | refine List.mem_cons_of_mem _ ?_)))); first | done | fail) selZ ⟨rfl, rfl⟩
      · rw [if_neg (fun h => h9 h.2)] at hE
        refine zd_move ?_
        refine zd_gt ?_
        refine zd_move ?_
        refine zd_fld0 ?_
        refine zd_load ?_
        refine zd_move ?_
        refine zd_move ?_
        refine zd_sub_nat ?_
        refine zd_idxN ?_
        refine zd_fld ?_
        refine zd_load ?_
        refine zd_leF ?_
        refine zd_pick_t ?_
        refine dj_end ?_
        refine jk_if_f rfl ?_
        refine jk_skip ?_
        refine jk_blk ?_
        refine jk_region ?_
        refine zq_inc ?_
        refine zq_move ?_
        refine jk_nil ?_
        exact jk_round (k + 1) ⟨by omega, firstE_ok hI hE⟩ (by omega) covZ selZ
  have hke : k = l.length := by omega
  subst hke
  rw [hI]
  refine jk_seq ?_
  refine jk_region ?_
  refine zq_ltF ?_
  refine jk_nil ?_
  refine jk_seq ?_
  refine jk_if_f rfl ?_
  refine jk_exit rfl ?_
  refine jk_seq ?_
  refine jk_region ?_
  refine zq_assign ?_
  refine jk_nil ?_
  exact jk_ret_any (res1 rfl rfl) (by (repeat (first | exact rs_nil | (refine rs_cons ?_ ?_; (focus ((repeat (first | exact .here | apply Mem.there | apply Take.there)); first | done | fail))) | exact fun ρ hρ => hρ | (intro ρ hρ; repeat (first | exact hρ | refine List.mem_cons_of_mem _ ?_)))); first | done | fail) selZ ⟨rfl, rfl⟩
theorem ivHas1_spec (bt : Nat) (t : Int) (x : Int × Int) : Ans Try.prog (.func (.func 49) #[] #[.pointer (some ⟨bt, 0, none⟩)]) [.agg (encS x).toArray] [sng bt (.cells #[int t] 3 (0, 0))] (fun r => r = .bool (inSp t x)) := by
  refine spec_in (cap := [.pointer (some ⟨bt, 0, none⟩)]) Try.func49 rfl rfl Try.ntmps49 rfl (by (repeat (first | exact EnvA.nil EnvI.nil | apply EnvA.cons | apply EnvA.nil | exact EnvI.nil | apply EnvI.cons)); first | done | fail) (fun N β => ?_)
  unfold inSp
  have c1 : rdc (sng bt (.cells #[int t] 3 (0, 0))) bt 0 = some (int t) := by rw [rdc_sng]; rfl
  by_cases h1 : x.1 ≤ t
  · by_cases h2 : t < x.2
    · rw [decide_eq_true h1, decide_eq_true h2]
      refine jk_seq ?_
      refine jk_region ?_
      refine zl_boxS ?_; rintro _ _ ⟨b, rfl, rfl⟩
      refine zq_assign ?_
      refine jk_nil ?_
      refine jk_seq ?_
      refine jk_region ?_
      refine zq_fld0 ?_
      refine zq_load ?_
      refine zq_load ?_
      refine zq_le ?_
      refine zq_move ?_
      refine zq_load ?_
      refine zq_fld0 ?_
      refine zq_load ?_
      refine zq_lt ?_
      refine zq_pick_t ?_
      refine zq_assign ?_
      refine jk_nil ?_
      exact jk_ret_any (res1 rfl rfl) (by (repeat (first | exact rs_nil | (refine rs_cons ?_ ?_; (focus ((repeat (first | exact .here | apply Mem.there | apply Take.there)); first | done | fail))) | exact fun ρ hρ => hρ | (intro ρ hρ; repeat (first | exact hρ | refine List.mem_cons_of_mem _ ?_)))); first | done | fail) selZ ⟨rfl, rfl⟩
    · rw [decide_eq_true h1, decide_eq_false h2]
      refine jk_seq ?_
      refine jk_region ?_
      refine zl_boxS ?_; rintro _ _ ⟨b, rfl, rfl⟩
      refine zq_assign ?_
      refine jk_nil ?_
      refine jk_seq ?_
      refine jk_region ?_
      refine zq_fld0 ?_
      refine zq_load ?_
      refine zq_load ?_
      refine zq_le ?_
      refine zq_move ?_
      refine zq_load ?_
      refine zq_fld0 ?_
      refine zq_load ?_
      refine zq_ltF ?_
      refine zq_pick_t ?_
      refine zq_assign ?_
      refine jk_nil ?_
      exact jk_ret_any (res1 rfl rfl) (by (repeat (first | exact rs_nil | (refine rs_cons ?_ ?_; (focus ((repeat (first | exact .here | apply Mem.there | apply Take.there)); first | done | fail))) | exact fun ρ hρ => hρ | (intro ρ hρ; repeat (first | exact hρ | refine List.mem_cons_of_mem _ ?_)))); first | done | fail) selZ ⟨rfl, rfl⟩
  · rw [decide_eq_false h1, Bool.false_and]
    refine jk_seq ?_
    refine jk_region ?_
    refine zl_boxS ?_; rintro _ _ ⟨b, rfl, rfl⟩
    refine zq_assign ?_
    refine jk_nil ?_
    refine jk_seq ?_
    refine jk_region ?_
    refine zq_fld0 ?_
    refine zq_load ?_
    refine zq_load ?_
    refine zq_leF ?_
    refine zq_move ?_
    refine jk_pass rfl rfl rfl ?_
    refine jk_pass rfl rfl rfl ?_
    refine jk_pass rfl rfl rfl ?_
    refine jk_pass rfl rfl rfl ?_
    refine zq_pick_f ?_
    refine zq_assign ?_
    refine jk_nil ?_
    exact jk_ret_any (res1 rfl rfl) (by (repeat (first | exact rs_nil | (refine rs_cons ?_ ?_; (focus ((repeat (first | exact .here | apply Mem.there | apply Take.there)); first | done | fail))) | exact fun ρ hρ => hρ | (intro ρ hρ; repeat (first | exact hρ | refine List.mem_cons_of_mem _ ?_)))); first | done | fail) selZ ⟨rfl, rfl⟩
theorem ivHas_spec (ρ : PH) (v : Value) (l : List (Int × Int)) (t : Int) (hv : SpAt ρ v l) (hl : l.length ≤ 9223372036854775807) :
    Ans Try.prog (fv 30) [v, int t] [ρ] (fun r => r = .bool (hasI l t)) := by
  have hv2 := hv
  obtain ⟨q, c, rfl, hr⟩ := hv.val encS_len
  refine spec_in (cap := []) Try.func30 rfl rfl Try.ntmps30 rfl (by (repeat (first | exact EnvA.nil EnvI.nil | apply EnvA.cons | apply EnvA.nil | exact EnvI.nil | apply EnvI.cons)); first | done | fail) (fun N β => ?_)
  refine jk_seq ?_
  refine jk_region ?_
  refine zl_box1 ?_; rintro _ _ ⟨b, rfl, rfl⟩
  refine zq_assign ?_
  refine jk_nil ?_
  refine jk_seq ?_
  refine jk_region ?_
  refine zq_move ?_
  refine jk_call (ivCheck_spec ρ _ l hv2 hl) rfl rfl rdZ rfl rfl ?_
  rintro _ rfl
  unfold hasI
  by_cases h0 : chkI l = 0
  rotate_left
  · rw [decide_eq_false h0, Bool.false_and]
    generalize chkI l = z at h0
    refine zq_eqF ?_
    refine zq_move ?_
    refine jk_pass rfl rfl rfl ?_
    refine jk_pass rfl rfl rfl ?_
    refine jk_pass rfl rfl rfl ?_
    refine zq_pick_f ?_
    refine zq_assign ?_
    refine jk_nil ?_
    exact jk_ret_any (res1 rfl rfl) (by (repeat (first | exact rs_nil | (refine rs_cons ?_ ?_; (focus ((repeat (first | exact .here | apply Mem.there | apply Take.there)); first | done | fail))) | exact fun ρ hρ => hρ | (intro ρ hρ; repeat (first | exact hρ | refine List.mem_cons_of_mem _ ?_)))); first | done | fail) selZ ⟨rfl, rfl⟩
  rw [decide_eq_true h0, Bool.true_and, h0]
  refine zq_eq ?_
  refine zq_move ?_
  refine zq_move ?_
  refine zq_makeFunc ?_
  refine jk_call (contS_spec ρ [sng b (.cells #[int t] 3 (0, 0))] _ _ l (inSp t) hv2 hl (fun i x _ => ivHas1_spec b t x)) rfl rfl rdZ rfl rfl ?_
  rintro _ rfl
  refine zq_pick_t ?_
  refine zq_assign ?_
  refine jk_nil ?_
  exact jk_ret_any (res1 rfl rfl) (by (repeat (first | exact rs_nil | (refine rs_cons ?_ ?_; (focus ((repeat (first | exact .here | apply Mem.there | apply Take.there)); first | done | fail))) | exact fun ρ hρ => hρ | (intro ρ hρ; repeat (first | exact hρ | refine List.mem_cons_of_mem _ ?_)))); first | done | fail) selZ ⟨rfl, rfl⟩
end Go.Proofs.Ytjbebmealbnmgaa
/- Demands: checked. -/
namespace Go.Proofs.Ytjbebmealbnmgaa
open Go.Eng Go.Step
set_option maxRecDepth 100000
set_option maxHeartbeats 4000000

theorem chkPl_ct {qs : List Int} {cs : List Ct} (h : chkPl qs cs = 0) : cs.length ≤ 64 ∧ ∀ c ∈ cs, chkCt c = 0 ∧ c.f < qs.length ∧ c.t < qs.length := by
  unfold chkPl at h
  by_cases h1 : qs.length < 1 ∨ 16 < qs.length ∨ 64 < cs.length
  · rw [if_pos h1] at h; omega
  rw [if_neg h1] at h
  by_cases h2 : firstE (quoE qs) qs.length = 0
  · rw [if_neg (by simpa using h2)] at h
    refine ⟨by omega, fun c hc => ?_⟩
    obtain ⟨i, hi, rfl⟩ := List.getElem_of_mem hc
    have h3 := firstE_zero h i hi
    rw [ctE_at (List.getElem?_eq_getElem hi)] at h3
    by_cases h4 : chkCt cs[i] = 0
    · rw [if_neg (by simpa using h4)] at h3
      by_cases h5 : (qs.length : Int) ≤ cs[i].f ∨ (qs.length : Int) ≤ cs[i].t
      · rw [if_pos h5] at h3; omega
      · exact ⟨h4, by omega, by omega⟩
    · rw [if_pos h4] at h3; exact absurd h3 h4
  · rw [if_pos h2] at h; exact absurd h h2
theorem chkCt_all {c : Ct} (h : chkCt c = 0) : (0 ≤ c.f ∧ c.f ≤ 15) ∧ (0 ≤ c.t ∧ c.t ≤ 15) ∧ (0 ≤ c.s ∧ c.s < c.e ∧ c.e ≤ 1099511627776) ∧ (1 ≤ c.r ∧ c.r ≤ 1000) ∧ (1 ≤ c.g ∧ c.g ≤ 1048576) := by
  have h2 := chkCt_se h
  unfold chkCt at h
  by_cases h1 : okCt c
  · unfold okCt at h1
    exact ⟨h1.1, h1.2.1, h2, h1.2.2.1, h1.2.2.2.1⟩
  · rw [if_pos h1] at h; omega
theorem isNode_spec (bt : Nat) (k n : Int) : Ans Try.prog (.func (.func 38) #[] #[.pointer (some ⟨bt, 0, none⟩)]) [int k] [sng bt (.cells #[int n] 3 (0, 0))] (fun r => r = .bool (decide (0 ≤ k ∧ k < n))) := by
  refine spec_in (cap := [.pointer (some ⟨bt, 0, none⟩)]) Try.func38 rfl rfl Try.ntmps38 rfl (by (repeat (first | exact EnvA.nil EnvI.nil | apply EnvA.cons | apply EnvA.nil | exact EnvI.nil | apply EnvI.cons)); first | done | fail) (fun N β => ?_)
  have c1 : rdc (sng bt (.cells #[int n] 3 (0, 0))) bt 0 = some (int n) := by rw [rdc_sng]; rfl
  by_cases h1 : 0 ≤ k
  · by_cases h2 : k < n
    · rw [decide_eq_true ⟨h1, h2⟩]
      refine jk_seq ?_
      refine jk_region ?_
      refine zq_assign ?_
      refine jk_nil ?_
      refine jk_seq ?_
      refine jk_region ?_
      refine zq_move ?_
      refine zq_ge ?_
      refine zq_move ?_
      refine zq_move ?_
      refine zq_load ?_
      refine zq_lt ?_
      refine zq_pick_t ?_
      refine zq_assign ?_
      refine jk_nil ?_
      exact jk_ret_any (res1 rfl rfl) (by (repeat (first | exact rs_nil | (refine rs_cons ?_ ?_; (focus ((repeat (first | exact .here | apply Mem.there | apply Take.there)); first | done | fail))) | exact fun ρ hρ => hρ | (intro ρ hρ; repeat (first | exact hρ | refine List.mem_cons_of_mem _ ?_)))); first | done | fail) selZ ⟨rfl, rfl⟩
    · rw [decide_eq_false (fun h => h2 h.2)]
      refine jk_seq ?_
      refine jk_region ?_
      refine zq_assign ?_
      refine jk_nil ?_
      refine jk_seq ?_
      refine jk_region ?_
      refine zq_move ?_
      refine zq_ge ?_
      refine zq_move ?_
      refine zq_move ?_
      refine zq_load ?_
      refine zq_ltF ?_
      refine zq_pick_t ?_
      refine zq_assign ?_
      refine jk_nil ?_
      exact jk_ret_any (res1 rfl rfl) (by (repeat (first | exact rs_nil | (refine rs_cons ?_ ?_; (focus ((repeat (first | exact .here | apply Mem.there | apply Take.there)); first | done | fail))) | exact fun ρ hρ => hρ | (intro ρ hρ; repeat (first | exact hρ | refine List.mem_cons_of_mem _ ?_)))); first | done | fail) selZ ⟨rfl, rfl⟩
  · rw [decide_eq_false (fun h => h1 h.1)]
    refine jk_seq ?_
    refine jk_region ?_
    refine zq_assign ?_
    refine jk_nil ?_
    refine jk_seq ?_
    refine jk_region ?_
    refine zq_move ?_
    refine zq_geF ?_
    refine zq_move ?_
    refine jk_pass rfl rfl rfl ?_
    refine jk_pass rfl rfl rfl ?_
    refine jk_pass rfl rfl rfl ?_
    refine zq_pick_f ?_
    refine zq_assign ?_
    refine jk_nil ?_
    exact jk_ret_any (res1 rfl rfl) (by (repeat (first | exact rs_nil | (refine rs_cons ?_ ?_; (focus ((repeat (first | exact .here | apply Mem.there | apply Take.there)); first | done | fail))) | exact fun ρ hρ => hρ | (intro ρ hρ; repeat (first | exact hρ | refine List.mem_cons_of_mem _ ?_)))); first | done | fail) selZ ⟨rfl, rfl⟩
set_option maxHeartbeats 32000000 in
theorem certCheck_spec {ρ τ σ υ : PH} {pq pc pb ph : Option Addr} {kq kc kb kh : Nat} {qs : List Int} {cs : List Ct} {bs : List Bk} {hs : List Hd} (hT : TbAt ρ τ σ υ pq pc pb ph kq kc kb kh qs cs bs hs) (d : Dm) :
    Ans Try.prog (fv 18) [.agg #[.slice pq qs.length kq, .slice pc cs.length kc, .slice pb bs.length kb, .slice ph hs.length kh], .agg #[int d.s, int d.d, int d.v, int d.r, int d.e]] [ρ, τ, σ, υ] (fun r => r = int (if validT qs cs bs hs d then 0 else 1)) := by
  refine spec_in (cap := []) Try.func18 rfl rfl Try.ntmps18 rfl (by (repeat (first | exact EnvA.nil EnvI.nil | apply EnvA.cons | apply EnvA.nil | exact EnvI.nil | apply EnvI.cons)); first | done | fail) (fun N β => ?_)
  refine jk_seq ?_
  refine jk_region ?_
  refine jk_op (l_boxS rfl) rfl rfl rfl ?_
  rintro _ _ ⟨b1, rfl, rfl⟩
  refine jk_freeze (ρ := sng b1 _) takeZ ?_
  have ct : RdN (sng b1 (.cells #[.slice pq qs.length kq, .slice pc cs.length kc, .slice pb bs.length kb, .slice ph hs.length kh] 29 (0, 0))) b1 0 [.slice pq qs.length kq, .slice pc cs.length kc, .slice pb bs.length kb, .slice ph hs.length kh] := rdN_sng (vs := [.slice pq qs.length kq, .slice pc cs.length kc, .slice pb bs.length kb, .slice ph hs.length kh])
  have ct0 : rdc (sng b1 (.cells #[.slice pq qs.length kq, .slice pc cs.length kc, .slice pb bs.length kb, .slice ph hs.length kh] 29 (0, 0))) b1 0 = some (.slice pq qs.length kq) := by rw [rdc_sng]; rfl
  have ct1 : rdc (sng b1 (.cells #[.slice pq qs.length kq, .slice pc cs.length kc, .slice pb bs.length kb, .slice ph hs.length kh] 29 (0, 0))) b1 1 = some (.slice pc cs.length kc) := by rw [rdc_sng]; rfl
  have ct2 : rdc (sng b1 (.cells #[.slice pq qs.length kq, .slice pc cs.length kc, .slice pb bs.length kb, .slice ph hs.length kh] 29 (0, 0))) b1 2 = some (.slice pb bs.length kb) := by rw [rdc_sng]; rfl
  have ct3 : rdc (sng b1 (.cells #[.slice pq qs.length kq, .slice pc cs.length kc, .slice pb bs.length kb, .slice ph hs.length kh] 29 (0, 0))) b1 3 = some (.slice ph hs.length kh) := by rw [rdc_sng]; rfl
  have ctp : RdP (sng b1 (.cells #[.slice pq qs.length kq, .slice pc cs.length kc, .slice pb bs.length kb, .slice ph hs.length kh] 29 (0, 0))) b1 0 [.slice pq qs.length kq, .slice pc cs.length kc] := rdP_sng (xs := [.slice pq qs.length kq, .slice pc cs.length kc, .slice pb bs.length kb, .slice ph hs.length kh]) rfl
  refine jk_op (l_boxS rfl) rfl rfl rfl ?_
  rintro _ _ ⟨b2, rfl, rfl⟩
  refine jk_freeze (ρ := sng b2 _) takeZ ?_
  have cd : RdN (sng b2 (.cells #[int d.s, int d.d, int d.v, int d.r, int d.e] 31 (0, 0))) b2 0 [int d.s, int d.d, int d.v, int d.r, int d.e] := rdN_sng (vs := [int d.s, int d.d, int d.v, int d.r, int d.e])
  have cd0 : rdc (sng b2 (.cells #[int d.s, int d.d, int d.v, int d.r, int d.e] 31 (0, 0))) b2 0 = some (int d.s) := by rw [rdc_sng]; rfl
  have cd1 : rdc (sng b2 (.cells #[int d.s, int d.d, int d.v, int d.r, int d.e] 31 (0, 0))) b2 1 = some (int d.d) := by rw [rdc_sng]; rfl
  have cd2 : rdc (sng b2 (.cells #[int d.s, int d.d, int d.v, int d.r, int d.e] 31 (0, 0))) b2 2 = some (int d.v) := by rw [rdc_sng]; rfl
  have cd3 : rdc (sng b2 (.cells #[int d.s, int d.d, int d.v, int d.r, int d.e] 31 (0, 0))) b2 3 = some (int d.r) := by rw [rdc_sng]; rfl
  have cd4 : rdc (sng b2 (.cells #[int d.s, int d.d, int d.v, int d.r, int d.e] 31 (0, 0))) b2 4 = some (int d.e) := by rw [rdc_sng]; rfl
  refine zq_assign ?_
  refine jk_nil ?_
  refine jk_seq ?_
  refine jk_region ?_
  refine zq_fld0 ?_
  refine zq_fld0 ?_
  refine zq_load ?_
  refine zq_len ?_
  refine zl_alloc1 ?_; rintro _ _ ⟨b, rfl, rfl⟩
  refine zs_storeL ?_; rintro _ _ ⟨rfl, rfl⟩
  refine jk_nil ?_
  refine jk_seq ?_
  refine jk_region ?_
  refine zq_makeFunc ?_
  refine zq_assign ?_
  refine jk_nil ?_
  refine jk_seq ?_
  refine jk_seq ?_
  refine jk_region ?_
  refine zq_loadS ?_
  revert b; intro bn
  refine jk_call (chkTab_spec hT) rfl rfl rdZ rfl rfl ?_
  rintro _ rfl
  by_cases h0 : chkT qs cs bs hs = 0
  rotate_left
  · have hv : validT qs cs bs hs d = false := decide_eq_false (fun h => h0 h.1)
    rw [hv]
    generalize chkT qs cs bs hs = z at h0
    refine zq_ne ?_
    refine zq_move ?_
    refine jk_pass rfl rfl rfl ?_
    refine jk_pass rfl rfl rfl ?_
    refine jk_pass rfl rfl rfl ?_
    refine jk_pass rfl rfl rfl ?_
    refine jk_pass rfl rfl rfl ?_
    refine zq_pick_t ?_
    refine zq_move ?_
    refine jk_pass rfl rfl rfl ?_
    refine jk_pass rfl rfl rfl ?_
    refine jk_pass rfl rfl rfl ?_
    refine jk_pass rfl rfl rfl ?_
    refine jk_pass rfl rfl rfl ?_
    refine zq_pick_t ?_
    refine zq_move ?_
    refine jk_pass rfl rfl rfl ?_
    refine jk_pass rfl rfl rfl ?_
    refine jk_pass rfl rfl rfl ?_
    refine jk_pass rfl rfl rfl ?_
    refine jk_pass rfl rfl rfl ?_
    refine zq_pick_t ?_
    refine zq_move ?_
    refine jk_pass rfl rfl rfl ?_
    refine jk_pass rfl rfl rfl ?_
    refine jk_pass rfl rfl rfl ?_
    refine zq_pick_t ?_
    refine zq_move ?_
    refine jk_pass rfl rfl rfl ?_
    refine jk_pass rfl rfl rfl ?_
    refine jk_pass rfl rfl rfl ?_
    refine zq_pick_t ?_
    refine zq_move ?_
    refine jk_pass rfl rfl rfl ?_
    refine jk_pass rfl rfl rfl ?_
    refine jk_pass rfl rfl rfl ?_
    refine zq_pick_t ?_
    refine zq_move ?_
    refine jk_pass rfl rfl rfl ?_
    refine jk_pass rfl rfl rfl ?_
    refine jk_pass rfl rfl rfl ?_
    refine jk_pass rfl rfl rfl ?_
    refine jk_pass rfl rfl rfl ?_
    refine zq_pick_t ?_
    refine zq_move ?_
    refine jk_pass rfl rfl rfl ?_
    refine jk_pass rfl rfl rfl ?_
    refine jk_pass rfl rfl rfl ?_
    refine zq_pick_t ?_
    refine zq_move ?_
    refine jk_pass rfl rfl rfl ?_
    refine jk_pass rfl rfl rfl ?_
    refine jk_pass rfl rfl rfl ?_
    refine jk_pass rfl rfl rfl ?_
    refine jk_pass rfl rfl rfl ?_
    refine jk_pass rfl rfl rfl ?_
    refine zq_pick_t ?_
    refine jk_nil ?_
    refine jk_if_t rfl ?_
    refine jk_seq ?_
    refine jk_region ?_
    refine zq_assign ?_
    refine jk_nil ?_
    exact jk_ret_any (res1 rfl rfl) (by (repeat (first | exact rs_nil | (refine rs_cons ?_ ?_; (focus ((repeat (first | exact .here | apply Mem.there | apply Take.there)); first | done | fail))) | exact fun ρ hρ => hρ | (intro ρ hρ; repeat (first | exact hρ | refine List.mem_cons_of_mem _ ?_)))); first | done | fail) selZ ⟨rfl, rfl⟩
  rw [h0]
  have hbad : ¬ okDm qs.length d → (if validT qs cs bs hs d = true then (0 : Int) else 1) = 1 := fun h => by
    rw [show validT qs cs bs hs d = false from decide_eq_false (fun k => h k.2)]; rfl
  by_cases hs1 : 0 ≤ d.s ∧ d.s < (qs.length : Int)
  rotate_left
  · have hS : decide (0 ≤ d.s ∧ d.s < (qs.length : Int)) = false := decide_eq_false hs1
    have hD := hS
    rw [hbad (fun h => by unfold okDm at h; omega)]
    refine zq_neF ?_
    refine zq_move ?_
    refine zq_move ?_
    refine zq_fld0 ?_
    refine zq_load ?_
    focus ((refine jk_call (isNode_spec bn _ _) rfl rfl rdZ rfl rfl ?_; rintro _ rfl; first | rw [hS] | rw [hD]))
    refine zq_not ?_
    refine zq_pick_f ?_
    refine zq_move ?_
    refine jk_pass rfl rfl rfl ?_
    refine jk_pass rfl rfl rfl ?_
    refine jk_pass rfl rfl rfl ?_
    refine jk_pass rfl rfl rfl ?_
    refine jk_pass rfl rfl rfl ?_
    refine zq_pick_t ?_
    refine zq_move ?_
    refine jk_pass rfl rfl rfl ?_
    refine jk_pass rfl rfl rfl ?_
    refine jk_pass rfl rfl rfl ?_
    refine jk_pass rfl rfl rfl ?_
    refine jk_pass rfl rfl rfl ?_
    refine zq_pick_t ?_
    refine zq_move ?_
    refine jk_pass rfl rfl rfl ?_
    refine jk_pass rfl rfl rfl ?_
    refine jk_pass rfl rfl rfl ?_
    refine zq_pick_t ?_
    refine zq_move ?_
    refine jk_pass rfl rfl rfl ?_
    refine jk_pass rfl rfl rfl ?_
    refine jk_pass rfl rfl rfl ?_
    refine zq_pick_t ?_
    refine zq_move ?_
    refine jk_pass rfl rfl rfl ?_
    refine jk_pass rfl rfl rfl ?_
    refine jk_pass rfl rfl rfl ?_
    refine zq_pick_t ?_
    refine zq_move ?_
    refine jk_pass rfl rfl rfl ?_
    refine jk_pass rfl rfl rfl ?_
    refine jk_pass rfl rfl rfl ?_
    refine jk_pass rfl rfl rfl ?_
    refine jk_pass rfl rfl rfl ?_
    refine zq_pick_t ?_
    refine zq_move ?_
    refine jk_pass rfl rfl rfl ?_
    refine jk_pass rfl rfl rfl ?_
    refine jk_pass rfl rfl rfl ?_
    refine zq_pick_t ?_
    refine zq_move ?_
    refine jk_pass rfl rfl rfl ?_
    refine jk_pass rfl rfl rfl ?_
    refine jk_pass rfl rfl rfl ?_
    refine jk_pass rfl rfl rfl ?_
    refine jk_pass rfl rfl rfl ?_
    refine jk_pass rfl rfl rfl ?_
    refine zq_pick_t ?_
    refine jk_nil ?_
    refine jk_if_t rfl ?_
    refine jk_seq ?_
    refine jk_region ?_
    refine zq_assign ?_
    refine jk_nil ?_
    exact jk_ret_any (res1 rfl rfl) (by (repeat (first | exact rs_nil | (refine rs_cons ?_ ?_; (focus ((repeat (first | exact .here | apply Mem.there | apply Take.there)); first | done | fail))) | exact fun ρ hρ => hρ | (intro ρ hρ; repeat (first | exact hρ | refine List.mem_cons_of_mem _ ?_)))); first | done | fail) selZ ⟨rfl, rfl⟩
  have hS : decide (0 ≤ d.s ∧ d.s < (qs.length : Int)) = true := decide_eq_true hs1
  by_cases hd1 : 0 ≤ d.d ∧ d.d < (qs.length : Int)
  rotate_left
  · have hD : decide (0 ≤ d.d ∧ d.d < (qs.length : Int)) = false := decide_eq_false hd1
    rw [hbad (fun h => by unfold okDm at h; omega)]
    refine zq_neF ?_
    refine zq_move ?_
    refine zq_move ?_
    refine zq_fld0 ?_
    refine zq_load ?_
    focus ((refine jk_call (isNode_spec bn _ _) rfl rfl rdZ rfl rfl ?_; rintro _ rfl; first | rw [hS] | rw [hD]))
    refine zq_not ?_
    refine zq_pick_f ?_
    refine zq_move ?_
    refine zq_move ?_
    refine zq_fld0 ?_
    refine zq_load ?_
    focus ((refine jk_call (isNode_spec bn _ _) rfl rfl rdZ rfl rfl ?_; rintro _ rfl; first | rw [hS] | rw [hD]))
    refine zq_not ?_
    refine zq_pick_f ?_
    refine zq_move ?_
    refine jk_pass rfl rfl rfl ?_
    refine jk_pass rfl rfl rfl ?_
    refine jk_pass rfl rfl rfl ?_
    refine jk_pass rfl rfl rfl ?_
    refine jk_pass rfl rfl rfl ?_
    refine zq_pick_t ?_
    refine zq_move ?_
    refine jk_pass rfl rfl rfl ?_
    refine jk_pass rfl rfl rfl ?_
    refine jk_pass rfl rfl rfl ?_
    refine zq_pick_t ?_
    refine zq_move ?_
    refine jk_pass rfl rfl rfl ?_
    refine jk_pass rfl rfl rfl ?_
    refine jk_pass rfl rfl rfl ?_
    refine zq_pick_t ?_
    refine zq_move ?_
    refine jk_pass rfl rfl rfl ?_
    refine jk_pass rfl rfl rfl ?_
    refine jk_pass rfl rfl rfl ?_
    refine zq_pick_t ?_
    refine zq_move ?_
    refine jk_pass rfl rfl rfl ?_
    refine jk_pass rfl rfl rfl ?_
    refine jk_pass rfl rfl rfl ?_
    refine jk_pass rfl rfl rfl ?_
    refine jk_pass rfl rfl rfl ?_
    refine zq_pick_t ?_
    refine zq_move ?_
    refine jk_pass rfl rfl rfl ?_
    refine jk_pass rfl rfl rfl ?_
    refine jk_pass rfl rfl rfl ?_
    refine zq_pick_t ?_
    refine zq_move ?_
    refine jk_pass rfl rfl rfl ?_
    refine jk_pass rfl rfl rfl ?_
    refine jk_pass rfl rfl rfl ?_
    refine jk_pass rfl rfl rfl ?_
    refine jk_pass rfl rfl rfl ?_
    refine jk_pass rfl rfl rfl ?_
    refine zq_pick_t ?_
    refine jk_nil ?_
    refine jk_if_t rfl ?_
    refine jk_seq ?_
    refine jk_region ?_
    refine zq_assign ?_
    refine jk_nil ?_
    exact jk_ret_any (res1 rfl rfl) (by (repeat (first | exact rs_nil | (refine rs_cons ?_ ?_; (focus ((repeat (first | exact .here | apply Mem.there | apply Take.there)); first | done | fail))) | exact fun ρ hρ => hρ | (intro ρ hρ; repeat (first | exact hρ | refine List.mem_cons_of_mem _ ?_)))); first | done | fail) selZ ⟨rfl, rfl⟩
  have hD : decide (0 ≤ d.d ∧ d.d < (qs.length : Int)) = true := decide_eq_true hd1
  by_cases h3 : d.s ≠ d.d
  rotate_left
  · rw [hbad (fun h => by unfold okDm at h; omega)]
    refine zq_neF ?_
    refine zq_move ?_
    refine zq_move ?_
    refine zq_fld0 ?_
    refine zq_load ?_
    focus ((refine jk_call (isNode_spec bn _ _) rfl rfl rdZ rfl rfl ?_; rintro _ rfl; first | rw [hS] | rw [hD]))
    refine zq_not ?_
    refine zq_pick_f ?_
    refine zq_move ?_
    refine zq_move ?_
    refine zq_fld0 ?_
    refine zq_load ?_
    focus ((refine jk_call (isNode_spec bn _ _) rfl rfl rdZ rfl rfl ?_; rintro _ rfl; first | rw [hS] | rw [hD]))
    refine zq_not ?_
    refine zq_pick_f ?_
    refine zq_move ?_
    refine zq_fld0 ?_
    refine zq_load ?_
    refine zq_fld0 ?_
    refine zq_load ?_
    refine zq_eq ?_
    refine zq_pick_f ?_
    refine zq_move ?_
    refine jk_pass rfl rfl rfl ?_
    refine jk_pass rfl rfl rfl ?_
    refine jk_pass rfl rfl rfl ?_
    refine zq_pick_t ?_
    refine zq_move ?_
    refine jk_pass rfl rfl rfl ?_
    refine jk_pass rfl rfl rfl ?_
    refine jk_pass rfl rfl rfl ?_
    refine zq_pick_t ?_
    refine zq_move ?_
    refine jk_pass rfl rfl rfl ?_
    refine jk_pass rfl rfl rfl ?_
    refine jk_pass rfl rfl rfl ?_
    refine zq_pick_t ?_
    refine zq_move ?_
    refine jk_pass rfl rfl rfl ?_
    refine jk_pass rfl rfl rfl ?_
    refine jk_pass rfl rfl rfl ?_
    refine jk_pass rfl rfl rfl ?_
    refine jk_pass rfl rfl rfl ?_
    refine zq_pick_t ?_
    refine zq_move ?_
    refine jk_pass rfl rfl rfl ?_
    refine jk_pass rfl rfl rfl ?_
    refine jk_pass rfl rfl rfl ?_
    refine zq_pick_t ?_
    refine zq_move ?_
    refine jk_pass rfl rfl rfl ?_
    refine jk_pass rfl rfl rfl ?_
    refine jk_pass rfl rfl rfl ?_
    refine jk_pass rfl rfl rfl ?_
    refine jk_pass rfl rfl rfl ?_
    refine jk_pass rfl rfl rfl ?_
    refine zq_pick_t ?_
    refine jk_nil ?_
    refine jk_if_t rfl ?_
    refine jk_seq ?_
    refine jk_region ?_
    refine zq_assign ?_
    refine jk_nil ?_
    exact jk_ret_any (res1 rfl rfl) (by (repeat (first | exact rs_nil | (refine rs_cons ?_ ?_; (focus ((repeat (first | exact .here | apply Mem.there | apply Take.there)); first | done | fail))) | exact fun ρ hρ => hρ | (intro ρ hρ; repeat (first | exact hρ | refine List.mem_cons_of_mem _ ?_)))); first | done | fail) selZ ⟨rfl, rfl⟩
  by_cases h4 : 1 ≤ d.v
  rotate_left
  · rw [hbad (fun h => by unfold okDm at h; omega)]
    refine zq_neF ?_
    refine zq_move ?_
    refine zq_move ?_
    refine zq_fld0 ?_
    refine zq_load ?_
    focus ((refine jk_call (isNode_spec bn _ _) rfl rfl rdZ rfl rfl ?_; rintro _ rfl; first | rw [hS] | rw [hD]))
    refine zq_not ?_
    refine zq_pick_f ?_
    refine zq_move ?_
    refine zq_move ?_
    refine zq_fld0 ?_
    refine zq_load ?_
    focus ((refine jk_call (isNode_spec bn _ _) rfl rfl rdZ rfl rfl ?_; rintro _ rfl; first | rw [hS] | rw [hD]))
    refine zq_not ?_
    refine zq_pick_f ?_
    refine zq_move ?_
    refine zq_fld0 ?_
    refine zq_load ?_
    refine zq_fld0 ?_
    refine zq_load ?_
    refine zq_eqF ?_
    refine zq_pick_f ?_
    refine zq_move ?_
    refine zq_fld0 ?_
    refine zq_load ?_
    refine zq_lt ?_
    refine zq_pick_f ?_
    refine zq_move ?_
    refine jk_pass rfl rfl rfl ?_
    refine jk_pass rfl rfl rfl ?_
    refine jk_pass rfl rfl rfl ?_
    refine zq_pick_t ?_
    refine zq_move ?_
    refine jk_pass rfl rfl rfl ?_
    refine jk_pass rfl rfl rfl ?_
    refine jk_pass rfl rfl rfl ?_
    refine zq_pick_t ?_
    refine zq_move ?_
    refine jk_pass rfl rfl rfl ?_
    refine jk_pass rfl rfl rfl ?_
    refine jk_pass rfl rfl rfl ?_
    refine jk_pass rfl rfl rfl ?_
    refine jk_pass rfl rfl rfl ?_
    refine zq_pick_t ?_
    refine zq_move ?_
    refine jk_pass rfl rfl rfl ?_
    refine jk_pass rfl rfl rfl ?_
    refine jk_pass rfl rfl rfl ?_
    refine zq_pick_t ?_
    refine zq_move ?_
    refine jk_pass rfl rfl rfl ?_
    refine jk_pass rfl rfl rfl ?_
    refine jk_pass rfl rfl rfl ?_
    refine jk_pass rfl rfl rfl ?_
    refine jk_pass rfl rfl rfl ?_
    refine jk_pass rfl rfl rfl ?_
    refine zq_pick_t ?_
    refine jk_nil ?_
    refine jk_if_t rfl ?_
    refine jk_seq ?_
    refine jk_region ?_
    refine zq_assign ?_
    refine jk_nil ?_
    exact jk_ret_any (res1 rfl rfl) (by (repeat (first | exact rs_nil | (refine rs_cons ?_ ?_; (focus ((repeat (first | exact .here | apply Mem.there | apply Take.there)); first | done | fail))) | exact fun ρ hρ => hρ | (intro ρ hρ; repeat (first | exact hρ | refine List.mem_cons_of_mem _ ?_)))); first | done | fail) selZ ⟨rfl, rfl⟩
  by_cases h5 : d.v ≤ 1099511627776
  rotate_left
  · rw [hbad (fun h => by unfold okDm at h; omega)]
    refine zq_neF ?_
    refine zq_move ?_
    refine zq_move ?_
    refine zq_fld0 ?_
    refine zq_load ?_
    focus ((refine jk_call (isNode_spec bn _ _) rfl rfl rdZ rfl rfl ?_; rintro _ rfl; first | rw [hS] | rw [hD]))
    refine zq_not ?_
    refine zq_pick_f ?_
    refine zq_move ?_
    refine zq_move ?_
    refine zq_fld0 ?_
    refine zq_load ?_
    focus ((refine jk_call (isNode_spec bn _ _) rfl rfl rdZ rfl rfl ?_; rintro _ rfl; first | rw [hS] | rw [hD]))
    refine zq_not ?_
    refine zq_pick_f ?_
    refine zq_move ?_
    refine zq_fld0 ?_
    refine zq_load ?_
    refine zq_fld0 ?_
    refine zq_load ?_
    refine zq_eqF ?_
    refine zq_pick_f ?_
    refine zq_move ?_
    refine zq_fld0 ?_
    refine zq_load ?_
    refine zq_ltF ?_
    refine zq_pick_f ?_
    refine zq_move ?_
    refine zq_fld0 ?_
    refine zq_load ?_
    refine zq_gt ?_
    refine zq_pick_f ?_
    refine zq_move ?_
    refine jk_pass rfl rfl rfl ?_
    refine jk_pass rfl rfl rfl ?_
    refine jk_pass rfl rfl rfl ?_
    refine zq_pick_t ?_
    refine zq_move ?_
    refine jk_pass rfl rfl rfl ?_
    refine jk_pass rfl rfl rfl ?_
    refine jk_pass rfl rfl rfl ?_
    refine jk_pass rfl rfl rfl ?_
    refine jk_pass rfl rfl rfl ?_
    refine zq_pick_t ?_
    refine zq_move ?_
    refine jk_pass rfl rfl rfl ?_
    refine jk_pass rfl rfl rfl ?_
    refine jk_pass rfl rfl rfl ?_
    refine zq_pick_t ?_
    refine zq_move ?_
    refine jk_pass rfl rfl rfl ?_
    refine jk_pass rfl rfl rfl ?_
    refine jk_pass rfl rfl rfl ?_
    refine jk_pass rfl rfl rfl ?_
    refine jk_pass rfl rfl rfl ?_
    refine jk_pass rfl rfl rfl ?_
    refine zq_pick_t ?_
    refine jk_nil ?_
    refine jk_if_t rfl ?_
    refine jk_seq ?_
    refine jk_region ?_
    refine zq_assign ?_
    refine jk_nil ?_
    exact jk_ret_any (res1 rfl rfl) (by (repeat (first | exact rs_nil | (refine rs_cons ?_ ?_; (focus ((repeat (first | exact .here | apply Mem.there | apply Take.there)); first | done | fail))) | exact fun ρ hρ => hρ | (intro ρ hρ; repeat (first | exact hρ | refine List.mem_cons_of_mem _ ?_)))); first | done | fail) selZ ⟨rfl, rfl⟩
  by_cases h6 : 0 ≤ d.r
  rotate_left
  · rw [hbad (fun h => by unfold okDm at h; omega)]
    refine zq_neF ?_
    refine zq_move ?_
    refine zq_move ?_
    refine zq_fld0 ?_
    refine zq_load ?_
    focus ((refine jk_call (isNode_spec bn _ _) rfl rfl rdZ rfl rfl ?_; rintro _ rfl; first | rw [hS] | rw [hD]))
    refine zq_not ?_
    refine zq_pick_f ?_
    refine zq_move ?_
    refine zq_move ?_
    refine zq_fld0 ?_
    refine zq_load ?_
    focus ((refine jk_call (isNode_spec bn _ _) rfl rfl rdZ rfl rfl ?_; rintro _ rfl; first | rw [hS] | rw [hD]))
    refine zq_not ?_
    refine zq_pick_f ?_
    refine zq_move ?_
    refine zq_fld0 ?_
    refine zq_load ?_
    refine zq_fld0 ?_
    refine zq_load ?_
    refine zq_eqF ?_
    refine zq_pick_f ?_
    refine zq_move ?_
    refine zq_fld0 ?_
    refine zq_load ?_
    refine zq_ltF ?_
    refine zq_pick_f ?_
    refine zq_move ?_
    refine zq_fld0 ?_
    refine zq_load ?_
    refine zq_gtF ?_
    refine zq_pick_f ?_
    refine zq_move ?_
    refine zq_fld0 ?_
    refine zq_load ?_
    refine zq_lt ?_
    refine zq_pick_f ?_
    refine zq_move ?_
    refine jk_pass rfl rfl rfl ?_
    refine jk_pass rfl rfl rfl ?_
    refine jk_pass rfl rfl rfl ?_
    refine jk_pass rfl rfl rfl ?_
    refine jk_pass rfl rfl rfl ?_
    refine zq_pick_t ?_
    refine zq_move ?_
    refine jk_pass rfl rfl rfl ?_
    refine jk_pass rfl rfl rfl ?_
    refine jk_pass rfl rfl rfl ?_
    refine zq_pick_t ?_
    refine zq_move ?_
    refine jk_pass rfl rfl rfl ?_
    refine jk_pass rfl rfl rfl ?_
    refine jk_pass rfl rfl rfl ?_
    refine jk_pass rfl rfl rfl ?_
    refine jk_pass rfl rfl rfl ?_
    refine jk_pass rfl rfl rfl ?_
    refine zq_pick_t ?_
    refine jk_nil ?_
    refine jk_if_t rfl ?_
    refine jk_seq ?_
    refine jk_region ?_
    refine zq_assign ?_
    refine jk_nil ?_
    exact jk_ret_any (res1 rfl rfl) (by (repeat (first | exact rs_nil | (refine rs_cons ?_ ?_; (focus ((repeat (first | exact .here | apply Mem.there | apply Take.there)); first | done | fail))) | exact fun ρ hρ => hρ | (intro ρ hρ; repeat (first | exact hρ | refine List.mem_cons_of_mem _ ?_)))); first | done | fail) selZ ⟨rfl, rfl⟩
  by_cases h7 : d.r < d.e
  rotate_left
  · rw [hbad (fun h => by unfold okDm at h; omega)]
    refine zq_neF ?_
    refine zq_move ?_
    refine zq_move ?_
    refine zq_fld0 ?_
    refine zq_load ?_
    focus ((refine jk_call (isNode_spec bn _ _) rfl rfl rdZ rfl rfl ?_; rintro _ rfl; first | rw [hS] | rw [hD]))
    refine zq_not ?_
    refine zq_pick_f ?_
    refine zq_move ?_
    refine zq_move ?_
    refine zq_fld0 ?_
    refine zq_load ?_
    focus ((refine jk_call (isNode_spec bn _ _) rfl rfl rdZ rfl rfl ?_; rintro _ rfl; first | rw [hS] | rw [hD]))
    refine zq_not ?_
    refine zq_pick_f ?_
    refine zq_move ?_
    refine zq_fld0 ?_
    refine zq_load ?_
    refine zq_fld0 ?_
    refine zq_load ?_
    refine zq_eqF ?_
    refine zq_pick_f ?_
    refine zq_move ?_
    refine zq_fld0 ?_
    refine zq_load ?_
    refine zq_ltF ?_
    refine zq_pick_f ?_
    refine zq_move ?_
    refine zq_fld0 ?_
    refine zq_load ?_
    refine zq_gtF ?_
    refine zq_pick_f ?_
    refine zq_move ?_
    refine zq_fld0 ?_
    refine zq_load ?_
    refine zq_ltF ?_
    refine zq_pick_f ?_
    refine zq_move ?_
    refine zq_fld0 ?_
    refine zq_load ?_
    refine zq_fld0 ?_
    refine zq_load ?_
    refine zq_ge ?_
    refine zq_pick_f ?_
    refine zq_move ?_
    refine jk_pass rfl rfl rfl ?_
    refine jk_pass rfl rfl rfl ?_
    refine jk_pass rfl rfl rfl ?_
    refine zq_pick_t ?_
    refine zq_move ?_
    refine jk_pass rfl rfl rfl ?_
    refine jk_pass rfl rfl rfl ?_
    refine jk_pass rfl rfl rfl ?_
    refine jk_pass rfl rfl rfl ?_
    refine jk_pass rfl rfl rfl ?_
    refine jk_pass rfl rfl rfl ?_
    refine zq_pick_t ?_
    refine jk_nil ?_
    refine jk_if_t rfl ?_
    refine jk_seq ?_
    refine jk_region ?_
    refine zq_assign ?_
    refine jk_nil ?_
    exact jk_ret_any (res1 rfl rfl) (by (repeat (first | exact rs_nil | (refine rs_cons ?_ ?_; (focus ((repeat (first | exact .here | apply Mem.there | apply Take.there)); first | done | fail))) | exact fun ρ hρ => hρ | (intro ρ hρ; repeat (first | exact hρ | refine List.mem_cons_of_mem _ ?_)))); first | done | fail) selZ ⟨rfl, rfl⟩
  by_cases h8 : d.e ≤ 1099511627776
  rotate_left
  · rw [hbad (fun h => by unfold okDm at h; omega)]
    refine zq_neF ?_
    refine zq_move ?_
    refine zq_move ?_
    refine zq_fld0 ?_
    refine zq_load ?_
    focus ((refine jk_call (isNode_spec bn _ _) rfl rfl rdZ rfl rfl ?_; rintro _ rfl; first | rw [hS] | rw [hD]))
    refine zq_not ?_
    refine zq_pick_f ?_
    refine zq_move ?_
    refine zq_move ?_
    refine zq_fld0 ?_
    refine zq_load ?_
    focus ((refine jk_call (isNode_spec bn _ _) rfl rfl rdZ rfl rfl ?_; rintro _ rfl; first | rw [hS] | rw [hD]))
    refine zq_not ?_
    refine zq_pick_f ?_
    refine zq_move ?_
    refine zq_fld0 ?_
    refine zq_load ?_
    refine zq_fld0 ?_
    refine zq_load ?_
    refine zq_eqF ?_
    refine zq_pick_f ?_
    refine zq_move ?_
    refine zq_fld0 ?_
    refine zq_load ?_
    refine zq_ltF ?_
    refine zq_pick_f ?_
    refine zq_move ?_
    refine zq_fld0 ?_
    refine zq_load ?_
    refine zq_gtF ?_
    refine zq_pick_f ?_
    refine zq_move ?_
    refine zq_fld0 ?_
    refine zq_load ?_
    refine zq_ltF ?_
    refine zq_pick_f ?_
    refine zq_move ?_
    refine zq_fld0 ?_
    refine zq_load ?_
    refine zq_fld0 ?_
    refine zq_load ?_
    refine zq_geF ?_
    refine zq_pick_f ?_
    refine zq_move ?_
    refine zq_fld0 ?_
    refine zq_load ?_
    refine zq_gt ?_
    refine zq_pick_f ?_
    refine zq_move ?_
    refine jk_pass rfl rfl rfl ?_
    refine jk_pass rfl rfl rfl ?_
    refine jk_pass rfl rfl rfl ?_
    refine jk_pass rfl rfl rfl ?_
    refine jk_pass rfl rfl rfl ?_
    refine jk_pass rfl rfl rfl ?_
    refine zq_pick_t ?_
    refine jk_nil ?_
    refine jk_if_t rfl ?_
    refine jk_seq ?_
    refine jk_region ?_
    refine zq_assign ?_
    refine jk_nil ?_
    exact jk_ret_any (res1 rfl rfl) (by (repeat (first | exact rs_nil | (refine rs_cons ?_ ?_; (focus ((repeat (first | exact .here | apply Mem.there | apply Take.there)); first | done | fail))) | exact fun ρ hρ => hρ | (intro ρ hρ; repeat (first | exact hρ | refine List.mem_cons_of_mem _ ?_)))); first | done | fail) selZ ⟨rfl, rfl⟩
  by_cases h9 : d.e - d.r ≤ 100
  rotate_left
  · rw [hbad (fun h => by unfold okDm at h; omega)]
    refine zq_neF ?_
    refine zq_move ?_
    refine zq_move ?_
    refine zq_fld0 ?_
    refine zq_load ?_
    focus ((refine jk_call (isNode_spec bn _ _) rfl rfl rdZ rfl rfl ?_; rintro _ rfl; first | rw [hS] | rw [hD]))
    refine zq_not ?_
    refine zq_pick_f ?_
    refine zq_move ?_
    refine zq_move ?_
    refine zq_fld0 ?_
    refine zq_load ?_
    focus ((refine jk_call (isNode_spec bn _ _) rfl rfl rdZ rfl rfl ?_; rintro _ rfl; first | rw [hS] | rw [hD]))
    refine zq_not ?_
    refine zq_pick_f ?_
    refine zq_move ?_
    refine zq_fld0 ?_
    refine zq_load ?_
    refine zq_fld0 ?_
    refine zq_load ?_
    refine zq_eqF ?_
    refine zq_pick_f ?_
    refine zq_move ?_
    refine zq_fld0 ?_
    refine zq_load ?_
    refine zq_ltF ?_
    refine zq_pick_f ?_
    refine zq_move ?_
    refine zq_fld0 ?_
    refine zq_load ?_
    refine zq_gtF ?_
    refine zq_pick_f ?_
    refine zq_move ?_
    refine zq_fld0 ?_
    refine zq_load ?_
    refine zq_ltF ?_
    refine zq_pick_f ?_
    refine zq_move ?_
    refine zq_fld0 ?_
    refine zq_load ?_
    refine zq_fld0 ?_
    refine zq_load ?_
    refine zq_geF ?_
    refine zq_pick_f ?_
    refine zq_move ?_
    refine zq_fld0 ?_
    refine zq_load ?_
    refine zq_gtF ?_
    refine zq_pick_f ?_
    refine zq_move ?_
    refine zq_fld0 ?_
    refine zq_load ?_
    refine zq_fld0 ?_
    refine zq_load ?_
    refine zq_sub ?_
    refine zq_gt ?_
    refine zq_pick_f ?_
    refine jk_nil ?_
    refine jk_if_t rfl ?_
    refine jk_seq ?_
    refine jk_region ?_
    refine zq_assign ?_
    refine jk_nil ?_
    exact jk_ret_any (res1 rfl rfl) (by (repeat (first | exact rs_nil | (refine rs_cons ?_ ?_; (focus ((repeat (first | exact .here | apply Mem.there | apply Take.there)); first | done | fail))) | exact fun ρ hρ => hρ | (intro ρ hρ; repeat (first | exact hρ | refine List.mem_cons_of_mem _ ?_)))); first | done | fail) selZ ⟨rfl, rfl⟩
  have hv : validT qs cs bs hs d = true := decide_eq_true ⟨h0, by unfold okDm; omega⟩
  rw [hv]
  refine zq_neF ?_
  refine zq_move ?_
  refine zq_move ?_
  refine zq_fld0 ?_
  refine zq_load ?_
  focus ((refine jk_call (isNode_spec bn _ _) rfl rfl rdZ rfl rfl ?_; rintro _ rfl; first | rw [hS] | rw [hD]))
  refine zq_not ?_
  refine zq_pick_f ?_
  refine zq_move ?_
  refine zq_move ?_
  refine zq_fld0 ?_
  refine zq_load ?_
  focus ((refine jk_call (isNode_spec bn _ _) rfl rfl rdZ rfl rfl ?_; rintro _ rfl; first | rw [hS] | rw [hD]))
  refine zq_not ?_
  refine zq_pick_f ?_
  refine zq_move ?_
  refine zq_fld0 ?_
  refine zq_load ?_
  refine zq_fld0 ?_
  refine zq_load ?_
  refine zq_eqF ?_
  refine zq_pick_f ?_
  refine zq_move ?_
  refine zq_fld0 ?_
  refine zq_load ?_
  refine zq_ltF ?_
  refine zq_pick_f ?_
  refine zq_move ?_
  refine zq_fld0 ?_
  refine zq_load ?_
  refine zq_gtF ?_
  refine zq_pick_f ?_
  refine zq_move ?_
  refine zq_fld0 ?_
  refine zq_load ?_
  refine zq_ltF ?_
  refine zq_pick_f ?_
  refine zq_move ?_
  refine zq_fld0 ?_
  refine zq_load ?_
  refine zq_fld0 ?_
  refine zq_load ?_
  refine zq_geF ?_
  refine zq_pick_f ?_
  refine zq_move ?_
  refine zq_fld0 ?_
  refine zq_load ?_
  refine zq_gtF ?_
  refine zq_pick_f ?_
  refine zq_move ?_
  refine zq_fld0 ?_
  refine zq_load ?_
  refine zq_fld0 ?_
  refine zq_load ?_
  refine zq_sub ?_
  refine zq_gtF ?_
  refine zq_pick_f ?_
  refine jk_nil ?_
  refine jk_if_f rfl ?_
  refine jk_skip ?_
  refine jk_seq ?_
  refine jk_region ?_
  refine zq_assign ?_
  refine jk_nil ?_
  exact jk_ret_any (res1 rfl rfl) (by (repeat (first | exact rs_nil | (refine rs_cons ?_ ?_; (focus ((repeat (first | exact .here | apply Mem.there | apply Take.there)); first | done | fail))) | exact fun ρ hρ => hρ | (intro ρ hρ; repeat (first | exact hρ | refine List.mem_cons_of_mem _ ?_)))); first | done | fail) selZ ⟨rfl, rfl⟩
end Go.Proofs.Ytjbebmealbnmgaa
/- Rooms, arrivals, shipments. -/
namespace Go.Proofs.Ytjbebmealbnmgaa
open Go.Eng Go.Step
set_option maxRecDepth 100000
set_option maxHeartbeats 4000000

set_option maxHeartbeats 16000000 in
theorem certRoom_spec {ρ τ σ υ : PH} {pq pc pb ph : Option Addr} {kq kc kb kh : Nat} {qs : List Int} {cs : List Ct} {bs : List Bk} {hs : List Hd} (hT : TbAt ρ τ σ υ pq pc pb ph kq kc kb kh qs cs bs hs) (nn : Nat) (t Q : Int) (hQ : qs[nn]? = some Q) (hQb : 0 ≤ Q ∧ Q ≤ 1073741824) (hok : ∀ h ∈ hs, okHd qs.length h) (hl : hs.length ≤ 600) :
    Ans Try.prog (fv 23) [.agg #[.slice pq qs.length kq, .slice pc cs.length kc, .slice pb bs.length kb, .slice ph hs.length kh], int nn, int t] [ρ, τ, σ, υ] (fun r => r = int (Q - Step.stored hs nn t)) := by
  have hr := hT.rh
  have hnl := (List.getElem?_eq_some_iff.1 hQ).1
  refine spec_in (cap := []) Try.func23 rfl rfl Try.ntmps23 rfl (by (repeat (first | exact EnvA.nil EnvI.nil | apply EnvA.cons | apply EnvA.nil | exact EnvI.nil | apply EnvI.cons)); first | done | fail) (fun N β => ?_)
  refine jk_seq ?_
  refine jk_region ?_
  refine jk_op (l_boxS rfl) rfl rfl rfl ?_
  rintro _ _ ⟨b1, rfl, rfl⟩
  refine jk_freeze (ρ := sng b1 _) takeZ ?_
  have ct : RdN (sng b1 (.cells #[.slice pq qs.length kq, .slice pc cs.length kc, .slice pb bs.length kb, .slice ph hs.length kh] 29 (0, 0))) b1 0 [.slice pq qs.length kq, .slice pc cs.length kc, .slice pb bs.length kb, .slice ph hs.length kh] := rdN_sng (vs := [.slice pq qs.length kq, .slice pc cs.length kc, .slice pb bs.length kb, .slice ph hs.length kh])
  have ct0 : rdc (sng b1 (.cells #[.slice pq qs.length kq, .slice pc cs.length kc, .slice pb bs.length kb, .slice ph hs.length kh] 29 (0, 0))) b1 0 = some (.slice pq qs.length kq) := by rw [rdc_sng]; rfl
  have ct1 : rdc (sng b1 (.cells #[.slice pq qs.length kq, .slice pc cs.length kc, .slice pb bs.length kb, .slice ph hs.length kh] 29 (0, 0))) b1 1 = some (.slice pc cs.length kc) := by rw [rdc_sng]; rfl
  have ct2 : rdc (sng b1 (.cells #[.slice pq qs.length kq, .slice pc cs.length kc, .slice pb bs.length kb, .slice ph hs.length kh] 29 (0, 0))) b1 2 = some (.slice pb bs.length kb) := by rw [rdc_sng]; rfl
  have ct3 : rdc (sng b1 (.cells #[.slice pq qs.length kq, .slice pc cs.length kc, .slice pb bs.length kb, .slice ph hs.length kh] 29 (0, 0))) b1 3 = some (.slice ph hs.length kh) := by rw [rdc_sng]; rfl
  have ctp : RdP (sng b1 (.cells #[.slice pq qs.length kq, .slice pc cs.length kc, .slice pb bs.length kb, .slice ph hs.length kh] 29 (0, 0))) b1 0 [.slice pq qs.length kq, .slice pc cs.length kc] := rdP_sng (xs := [.slice pq qs.length kq, .slice pc cs.length kc, .slice pb bs.length kb, .slice ph hs.length kh]) rfl
  obtain ⟨bq, oq, rfl, gq⟩ := hT.rq.int hQ
  refine zq_assign ?_
  refine jk_nil ?_
  refine jk_seq ?_
  refine jk_region ?_
  refine zq_fld0 ?_
  refine zq_fld0 ?_
  refine zq_load ?_
  refine zq_move ?_
  refine zq_idx1 ?_
  refine zq_load ?_
  refine zq_assign ?_
  refine jk_nil ?_
  refine jk_seq ?_
  refine jk_seq ?_
  refine jk_region ?_
  refine zq_fld0 ?_
  refine zq_load ?_
  refine zq_len ?_
  refine zq_move ?_
  refine jk_nil ?_
  refine jk_block ?_
  refine jk_loop [1, 2, 17, 18] (0 : Nat) (fun k => k ≤ hs.length) (fun k => [(19, int k), (7, int (Q - Step.stored (hs.take k) nn t))]) (fun _ => []) (fun k => hs.length - k) pickZ (by omega) ?_ selZ ?_
  · rw [List.take_zero]
    simp only [Step.stored, Int.sub_zero]
    exact covZ
  intro k hk
  by_cases hlt : k < hs.length
  · have hx := List.getElem?_eq_getElem hlt
    have hh := (hok _ (List.getElem_mem hlt)).2.2.1
    obtain ⟨b3, o3, rfl, hrd, g0, g1, g2, g3, _⟩ := hdRow5 hr hx
    have hm := stored_snoc nn t hs[k] (hs.take k)
    rw [← List.take_succ_eq_append_getElem hlt] at hm
    have hb := stored_bd (n := nn) (t := t) (l := hs.take k) (fun h hm => hok h (List.mem_of_mem_take hm))
    rw [List.length_take, Nat.min_eq_left hk] at hb
    generalize hs[k] = h at hrd g0 g1 g2 g3 hm hh
    generalize Step.stored (hs.take k) nn t = s at hm hb
    by_cases c1 : h.n = nn
    · by_cases c2 : h.a ≤ t
      · by_cases c3 : t < h.b
        · rw [if_pos ⟨c1, c2, c3⟩] at hm
          refine jk_seq ?_
          refine jk_region ?_
          refine zq_lt ?_
          refine jk_nil ?_
          refine jk_seq ?_
          refine jk_if_t rfl ?_
          refine jk_skip ?_
          refine jk_seq ?_
          refine jk_block ?_
          refine jk_seq ?_
          refine jk_region ?_
          refine zq_idxN ?_
          refine zq_loadS ?_
          refine zl_allocS ?_; rintro _ _ ⟨b, rfl, rfl⟩
          refine zs_storeS ?_; rintro _ _ ⟨rfl, rfl⟩
          refine jk_nil ?_
          refine jk_seq ?_
          refine jk_region ?_
          refine zq_fld0 ?_
          refine zq_load ?_
          refine zq_move ?_
          refine zq_eq ?_
          refine zq_move ?_
          refine zq_fld0 ?_
          refine zq_load ?_
          refine zq_move ?_
          refine zq_le ?_
          refine zq_pick_t ?_
          refine zq_move ?_
          refine zq_move ?_
          refine zq_fld0 ?_
          refine zq_load ?_
          refine zq_lt ?_
          refine zq_pick_t ?_
          refine jk_nil ?_
          refine jk_if_t rfl ?_
          refine jk_region ?_
          refine zq_move ?_
          refine zq_fld0 ?_
          refine zq_load ?_
          refine zq_sub ?_
          refine zq_assign ?_
          refine jk_nil ?_
          refine jk_blk ?_
          refine jk_region ?_
          refine zq_inc ?_
          refine zq_move ?_
          refine jk_nil ?_
          refine jk_round (k + 1) (by omega) (by omega) ?_ selZ
          rw [hm, show Q - (s + h.s) = Q - s - h.s by omega]
          exact covZ
        · rw [if_neg (by omega), Int.add_zero] at hm
          refine jk_seq ?_
          refine jk_region ?_
          refine zq_lt ?_
          refine jk_nil ?_
          refine jk_seq ?_
          refine jk_if_t rfl ?_
          refine jk_skip ?_
          refine jk_seq ?_
          refine jk_block ?_
          refine jk_seq ?_
          refine jk_region ?_
          refine zq_idxN ?_
          refine zq_loadS ?_
          refine zl_allocS ?_; rintro _ _ ⟨b, rfl, rfl⟩
          refine zs_storeS ?_; rintro _ _ ⟨rfl, rfl⟩
          refine jk_nil ?_
          refine jk_seq ?_
          refine jk_region ?_
          refine zq_fld0 ?_
          refine zq_load ?_
          refine zq_move ?_
          refine zq_eq ?_
          refine zq_move ?_
          refine zq_fld0 ?_
          refine zq_load ?_
          refine zq_move ?_
          refine zq_le ?_
          refine zq_pick_t ?_
          refine zq_move ?_
          refine zq_move ?_
          refine zq_fld0 ?_
          refine zq_load ?_
          refine zq_ltF ?_
          refine zq_pick_t ?_
          refine jk_nil ?_
          refine jk_if_f rfl ?_
          refine jk_skip ?_
          refine jk_blk ?_
          refine jk_region ?_
          refine zq_inc ?_
          refine zq_move ?_
          refine jk_nil ?_
          refine jk_round (k + 1) (by omega) (by omega) ?_ selZ
          rw [hm]
          exact covZ
      · rw [if_neg (by omega), Int.add_zero] at hm
        refine jk_seq ?_
        refine jk_region ?_
        refine zq_lt ?_
        refine jk_nil ?_
        refine jk_seq ?_
        refine jk_if_t rfl ?_
        refine jk_skip ?_
        refine jk_seq ?_
        refine jk_block ?_
        refine jk_seq ?_
        refine jk_region ?_
        refine zq_idxN ?_
        refine zq_loadS ?_
        refine zl_allocS ?_; rintro _ _ ⟨b, rfl, rfl⟩
        refine zs_storeS ?_; rintro _ _ ⟨rfl, rfl⟩
        refine jk_nil ?_
        refine jk_seq ?_
        refine jk_region ?_
        refine zq_fld0 ?_
        refine zq_load ?_
        refine zq_move ?_
        refine zq_eq ?_
        refine zq_move ?_
        refine zq_fld0 ?_
        refine zq_load ?_
        refine zq_move ?_
        refine zq_leF ?_
        refine zq_pick_t ?_
        refine zq_move ?_
        refine jk_pass rfl rfl rfl ?_
        refine jk_pass rfl rfl rfl ?_
        refine jk_pass rfl rfl rfl ?_
        refine jk_pass rfl rfl rfl ?_
        refine zq_pick_f ?_
        refine jk_nil ?_
        refine jk_if_f rfl ?_
        refine jk_skip ?_
        refine jk_blk ?_
        refine jk_region ?_
        refine zq_inc ?_
        refine zq_move ?_
        refine jk_nil ?_
        refine jk_round (k + 1) (by omega) (by omega) ?_ selZ
        rw [hm]
        exact covZ
    · rw [if_neg (by omega), Int.add_zero] at hm
      refine jk_seq ?_
      refine jk_region ?_
      refine zq_lt ?_
      refine jk_nil ?_
      refine jk_seq ?_
      refine jk_if_t rfl ?_
      refine jk_skip ?_
      refine jk_seq ?_
      refine jk_block ?_
      refine jk_seq ?_
      refine jk_region ?_
      refine zq_idxN ?_
      refine zq_loadS ?_
      refine zl_allocS ?_; rintro _ _ ⟨b, rfl, rfl⟩
      refine zs_storeS ?_; rintro _ _ ⟨rfl, rfl⟩
      refine jk_nil ?_
      refine jk_seq ?_
      refine jk_region ?_
      refine zq_fld0 ?_
      refine zq_load ?_
      refine zq_move ?_
      refine zq_eqF ?_
      refine zq_move ?_
      refine jk_pass rfl rfl rfl ?_
      refine jk_pass rfl rfl rfl ?_
      refine jk_pass rfl rfl rfl ?_
      refine jk_pass rfl rfl rfl ?_
      refine zq_pick_f ?_
      refine zq_move ?_
      refine jk_pass rfl rfl rfl ?_
      refine jk_pass rfl rfl rfl ?_
      refine jk_pass rfl rfl rfl ?_
      refine jk_pass rfl rfl rfl ?_
      refine zq_pick_f ?_
      refine jk_nil ?_
      refine jk_if_f rfl ?_
      refine jk_skip ?_
      refine jk_blk ?_
      refine jk_region ?_
      refine zq_inc ?_
      refine zq_move ?_
      refine jk_nil ?_
      refine jk_round (k + 1) (by omega) (by omega) ?_ selZ
      rw [hm]
      exact covZ
  · have hke : k = hs.length := by omega
    subst hke
    rw [List.take_length]
    refine jk_seq ?_
    refine jk_region ?_
    refine zq_ltF ?_
    refine jk_nil ?_
    refine jk_seq ?_
    refine jk_if_f rfl ?_
    refine jk_exit rfl ?_
    refine jk_seq ?_
    refine jk_region ?_
    refine zq_move ?_
    refine zq_assign ?_
    refine jk_nil ?_
    exact jk_ret_any (res1 rfl rfl) (by (repeat (first | exact rs_nil | (refine rs_cons ?_ ?_; (focus ((repeat (first | exact .here | apply Mem.there | apply Take.there)); first | done | fail))) | exact fun ρ hρ => hρ | (intro ρ hρ; repeat (first | exact hρ | refine List.mem_cons_of_mem _ ?_)))); first | done | fail) selZ ⟨rfl, rfl⟩
theorem arrival_spec (c : Ct) (t : Int) (h1 : In64 (t + 1)) (h2 : In64 (t + 1 + c.g)) : Ans Try.prog (fv 32) [.agg #[int c.f, int c.t, int c.s, int c.e, int c.r, int c.g, int c.l], int t] [] (fun r => r = int (t + 1 + c.g)) := by
  refine spec_in (cap := []) Try.func32 rfl rfl Try.ntmps32 rfl (by (repeat (first | exact EnvA.nil EnvI.nil | apply EnvA.cons | apply EnvA.nil | exact EnvI.nil | apply EnvI.cons)); first | done | fail) (fun N β => ?_)
  unfold In64 at h1 h2
  refine jk_seq ?_
  refine jk_region ?_
  refine zl_boxS ?_; rintro _ _ ⟨b, rfl, rfl⟩
  refine zq_assign ?_
  refine jk_nil ?_
  refine jk_seq ?_
  refine jk_region ?_
  refine zq_move ?_
  refine zq_add ?_
  refine zq_fld0 ?_
  refine zq_load ?_
  refine zq_add ?_
  refine zq_assign ?_
  refine jk_nil ?_
  exact jk_ret_any (res1 rfl rfl) (by (repeat (first | exact rs_nil | (refine rs_cons ?_ ?_; (focus ((repeat (first | exact .here | apply Mem.there | apply Take.there)); first | done | fail))) | exact fun ρ hρ => hρ | (intro ρ hρ; repeat (first | exact hρ | refine List.mem_cons_of_mem _ ?_)))); first | done | fail) selZ ⟨rfl, rfl⟩
def encX (x : Sh) : List Value := [int x.c, int x.t, int x.n]
theorem encX_len (x : Sh) : (encX x).length = 3 := rfl
abbrev ShAt (ρ : PH) (v : Value) (l : List Sh) : Prop := SlE encX 3 ρ v l
theorem shRow {ρ : PH} {p : Option Addr} {l : List Sh} (h : RowsE encX 3 ρ p l) {i : Nat} {x : Sh} (hx : l[i]? = some x) :
    ∃ b o, p = some ⟨b, o, none⟩ ∧ RdN ρ b (o + i * 3) [int x.c, int x.t, int x.n] ∧ rdc ρ b (o + i * 3) = some (int x.c) ∧ rdc ρ b (o + i * 3 + 1) = some (int x.t) ∧ rdc ρ b (o + i * 3 + 2) = some (int x.n) := by
  obtain ⟨b, o, e, hr⟩ := h i x hx
  exact ⟨b, o, e, hr, hr.get0, hr.get (j := 1) rfl, hr.get (j := 2) rfl⟩
set_option maxHeartbeats 32000000 in
theorem checkShip_spec {ρ τ σ υ : PH} {pq pc pb ph : Option Addr} {kq kc kb kh : Nat} {qs : List Int} {cs : List Ct} {bs : List Bk} {hs : List Hd} (hT : TbAt ρ τ σ υ pq pc pb ph kq kc kb kh qs cs bs hs) (d : Dm) (x : Sh) (hcs : ∀ c ∈ cs, chkCt c = 0) (hbl : bs.length ≤ 1000) (hd : 0 ≤ d.r) :
    Ans Try.prog (fv 19) [.agg #[.slice pq qs.length kq, .slice pc cs.length kc, .slice pb bs.length kb, .slice ph hs.length kh], .agg #[int d.s, int d.d, int d.v, int d.r, int d.e], .agg #[int x.c, int x.t, int x.n]] [ρ, τ, σ, υ] (fun r => r = int (ship1 cs bs d x)) := by
  refine spec_in (cap := []) Try.func19 rfl rfl Try.ntmps19 rfl (by (repeat (first | exact EnvA.nil EnvI.nil | apply EnvA.cons | apply EnvA.nil | exact EnvI.nil | apply EnvI.cons)); first | done | fail) (fun N β => ?_)
  refine jk_seq ?_
  refine jk_region ?_
  refine jk_op (l_boxS rfl) rfl rfl rfl ?_
  rintro _ _ ⟨b1, rfl, rfl⟩
  refine jk_freeze (ρ := sng b1 _) takeZ ?_
  have ct : RdN (sng b1 (.cells #[.slice pq qs.length kq, .slice pc cs.length kc, .slice pb bs.length kb, .slice ph hs.length kh] 29 (0, 0))) b1 0 [.slice pq qs.length kq, .slice pc cs.length kc, .slice pb bs.length kb, .slice ph hs.length kh] := rdN_sng (vs := [.slice pq qs.length kq, .slice pc cs.length kc, .slice pb bs.length kb, .slice ph hs.length kh])
  have ct0 : rdc (sng b1 (.cells #[.slice pq qs.length kq, .slice pc cs.length kc, .slice pb bs.length kb, .slice ph hs.length kh] 29 (0, 0))) b1 0 = some (.slice pq qs.length kq) := by rw [rdc_sng]; rfl
  have ct1 : rdc (sng b1 (.cells #[.slice pq qs.length kq, .slice pc cs.length kc, .slice pb bs.length kb, .slice ph hs.length kh] 29 (0, 0))) b1 1 = some (.slice pc cs.length kc) := by rw [rdc_sng]; rfl
  have ct2 : rdc (sng b1 (.cells #[.slice pq qs.length kq, .slice pc cs.length kc, .slice pb bs.length kb, .slice ph hs.length kh] 29 (0, 0))) b1 2 = some (.slice pb bs.length kb) := by rw [rdc_sng]; rfl
  have ct3 : rdc (sng b1 (.cells #[.slice pq qs.length kq, .slice pc cs.length kc, .slice pb bs.length kb, .slice ph hs.length kh] 29 (0, 0))) b1 3 = some (.slice ph hs.length kh) := by rw [rdc_sng]; rfl
  have ctp : RdP (sng b1 (.cells #[.slice pq qs.length kq, .slice pc cs.length kc, .slice pb bs.length kb, .slice ph hs.length kh] 29 (0, 0))) b1 0 [.slice pq qs.length kq, .slice pc cs.length kc] := rdP_sng (xs := [.slice pq qs.length kq, .slice pc cs.length kc, .slice pb bs.length kb, .slice ph hs.length kh]) rfl
  refine jk_op (l_boxS rfl) rfl rfl rfl ?_
  rintro _ _ ⟨b2, rfl, rfl⟩
  refine jk_freeze (ρ := sng b2 _) takeZ ?_
  have cd : RdN (sng b2 (.cells #[int d.s, int d.d, int d.v, int d.r, int d.e] 31 (0, 0))) b2 0 [int d.s, int d.d, int d.v, int d.r, int d.e] := rdN_sng (vs := [int d.s, int d.d, int d.v, int d.r, int d.e])
  have cd0 : rdc (sng b2 (.cells #[int d.s, int d.d, int d.v, int d.r, int d.e] 31 (0, 0))) b2 0 = some (int d.s) := by rw [rdc_sng]; rfl
  have cd1 : rdc (sng b2 (.cells #[int d.s, int d.d, int d.v, int d.r, int d.e] 31 (0, 0))) b2 1 = some (int d.d) := by rw [rdc_sng]; rfl
  have cd2 : rdc (sng b2 (.cells #[int d.s, int d.d, int d.v, int d.r, int d.e] 31 (0, 0))) b2 2 = some (int d.v) := by rw [rdc_sng]; rfl
  have cd3 : rdc (sng b2 (.cells #[int d.s, int d.d, int d.v, int d.r, int d.e] 31 (0, 0))) b2 3 = some (int d.r) := by rw [rdc_sng]; rfl
  have cd4 : rdc (sng b2 (.cells #[int d.s, int d.d, int d.v, int d.r, int d.e] 31 (0, 0))) b2 4 = some (int d.e) := by rw [rdc_sng]; rfl
  refine jk_op (l_boxS rfl) rfl rfl rfl ?_
  rintro _ _ ⟨b3, rfl, rfl⟩
  refine jk_freeze (ρ := sng b3 _) takeZ ?_
  have cx : RdN (sng b3 (.cells #[int x.c, int x.t, int x.n] 53 (0, 0))) b3 0 [int x.c, int x.t, int x.n] := rdN_sng (vs := [int x.c, int x.t, int x.n])
  have cx0 : rdc (sng b3 (.cells #[int x.c, int x.t, int x.n] 53 (0, 0))) b3 0 = some (int x.c) := by rw [rdc_sng]; rfl
  have cx1 : rdc (sng b3 (.cells #[int x.c, int x.t, int x.n] 53 (0, 0))) b3 1 = some (int x.t) := by rw [rdc_sng]; rfl
  have cx2 : rdc (sng b3 (.cells #[int x.c, int x.t, int x.n] 53 (0, 0))) b3 2 = some (int x.n) := by rw [rdc_sng]; rfl
  unfold ship1
  by_cases h1 : x.c < 0
  · rw [if_pos (.inl h1)]
    refine zq_assign ?_
    refine jk_nil ?_
    refine jk_seq ?_
    refine jk_seq ?_
    refine jk_region ?_
    refine zq_fld0 ?_
    refine zq_load ?_
    refine zq_lt ?_
    refine zq_move ?_
    refine jk_pass rfl rfl rfl ?_
    refine jk_pass rfl rfl rfl ?_
    refine jk_pass rfl rfl rfl ?_
    refine jk_pass rfl rfl rfl ?_
    refine jk_pass rfl rfl rfl ?_
    refine jk_pass rfl rfl rfl ?_
    refine jk_pass rfl rfl rfl ?_
    refine zq_pick_t ?_
    refine jk_nil ?_
    refine jk_if_t rfl ?_
    refine jk_seq ?_
    refine jk_region ?_
    refine zq_assign ?_
    refine jk_nil ?_
    exact jk_ret_any (res1 rfl rfl) (by (repeat (first | exact rs_nil | (refine rs_cons ?_ ?_; (focus ((repeat (first | exact .here | apply Mem.there | apply Take.there)); first | done | fail))) | exact fun ρ hρ => hρ | (intro ρ hρ; repeat (first | exact hρ | refine List.mem_cons_of_mem _ ?_)))); first | done | fail) selZ ⟨rfl, rfl⟩
  by_cases h2 : (cs.length : Int) ≤ x.c
  · rw [if_pos (.inr h2)]
    refine zq_assign ?_
    refine jk_nil ?_
    refine jk_seq ?_
    refine jk_seq ?_
    refine jk_region ?_
    refine zq_fld0 ?_
    refine zq_load ?_
    refine zq_ltF ?_
    refine zq_move ?_
    refine zq_fld0 ?_
    refine zq_load ?_
    refine zq_fld0 ?_
    refine zq_fld0 ?_
    refine zq_load ?_
    refine zq_len ?_
    refine zq_ge ?_
    refine zq_pick_f ?_
    refine jk_nil ?_
    refine jk_if_t rfl ?_
    refine jk_seq ?_
    refine jk_region ?_
    refine zq_assign ?_
    refine jk_nil ?_
    exact jk_ret_any (res1 rfl rfl) (by (repeat (first | exact rs_nil | (refine rs_cons ?_ ?_; (focus ((repeat (first | exact .here | apply Mem.there | apply Take.there)); first | done | fail))) | exact fun ρ hρ => hρ | (intro ρ hρ; repeat (first | exact hρ | refine List.mem_cons_of_mem _ ?_)))); first | done | fail) selZ ⟨rfl, rfl⟩
  rw [if_neg (by omega)]
  obtain ⟨nn, hnn⟩ : ∃ nn : Nat, x.c = nn := ⟨x.c.toNat, by omega⟩
  have hlt : nn < cs.length := by omega
  have hx := List.getElem?_eq_getElem hlt
  have hck := chkCt_all (hcs _ (List.getElem_mem hlt))
  obtain ⟨b4, o4, rfl, hrd⟩ := ctRow hT.rc hx
  have hbk := booked_spec hT x.c x.t hbl
  rw [hnn] at hbk
  have e1 : cs[x.c.toNat]? = some cs[nn] := by rw [hnn, Int.toNat_natCast]; exact hx
  have e2 : bookedB bs x.c x.t = bookedB bs nn x.t := by rw [hnn]
  rw [e1, e2]
  have cn : rdc (sng b3 (.cells #[int x.c, int x.t, int x.n] 53 (0, 0))) b3 0 = some (int nn) := by rw [rdc_sng, ← hnn]; rfl
  clear cx0
  generalize cs[nn] = c at hrd hck
  dsimp only
  by_cases h3 : x.t < d.r
  · rw [if_pos (.inl h3)]
    refine zq_assign ?_
    refine jk_nil ?_
    refine jk_seq ?_
    refine jk_seq ?_
    refine jk_region ?_
    refine zq_fld0 ?_
    refine zq_load ?_
    refine zq_ltF ?_
    refine zq_move ?_
    refine zq_fld0 ?_
    refine zq_load ?_
    refine zq_fld0 ?_
    refine zq_fld0 ?_
    refine zq_load ?_
    refine zq_len ?_
    refine zq_geF ?_
    refine zq_pick_f ?_
    refine jk_nil ?_
    refine jk_if_f rfl ?_
    refine jk_skip ?_
    refine jk_seq ?_
    refine jk_region ?_
    refine zq_fld0 ?_
    refine zq_fld0 ?_
    refine zq_load ?_
    refine zq_fld0 ?_
    refine zq_load ?_
    refine zq_idxN ?_
    refine zq_loadS ?_
    refine zl_allocS ?_; rintro _ _ ⟨b, rfl, rfl⟩
    refine zs_storeS ?_; rintro _ _ ⟨rfl, rfl⟩
    refine jk_nil ?_
    refine jk_seq ?_
    refine jk_seq ?_
    refine jk_region ?_
    refine zq_fld0 ?_
    refine zq_load ?_
    refine zq_fld0 ?_
    refine zq_load ?_
    refine zq_fld0 ?_
    refine zq_load ?_
    refine zq_max ?_
    refine zq_lt ?_
    refine zq_move ?_
    refine jk_pass rfl rfl rfl ?_
    refine jk_pass rfl rfl rfl ?_
    refine jk_pass rfl rfl rfl ?_
    refine jk_pass rfl rfl rfl ?_
    refine jk_pass rfl rfl rfl ?_
    refine zq_pick_t ?_
    refine zq_move ?_
    refine jk_pass rfl rfl rfl ?_
    refine jk_pass rfl rfl rfl ?_
    refine jk_pass rfl rfl rfl ?_
    refine zq_pick_t ?_
    refine zq_move ?_
    refine jk_pass rfl rfl rfl ?_
    refine jk_pass rfl rfl rfl ?_
    refine jk_pass rfl rfl rfl ?_
    refine jk_pass rfl rfl rfl ?_
    refine jk_pass rfl rfl rfl ?_
    refine zq_pick_t ?_
    refine jk_nil ?_
    refine jk_if_t rfl ?_
    refine jk_seq ?_
    refine jk_region ?_
    refine zq_assign ?_
    refine jk_nil ?_
    exact jk_ret_any (res1 rfl rfl) (by (repeat (first | exact rs_nil | (refine rs_cons ?_ ?_; (focus ((repeat (first | exact .here | apply Mem.there | apply Take.there)); first | done | fail))) | exact fun ρ hρ => hρ | (intro ρ hρ; repeat (first | exact hρ | refine List.mem_cons_of_mem _ ?_)))); first | done | fail) selZ ⟨rfl, rfl⟩
  by_cases h4 : x.t < c.s
  · rw [if_pos (.inr (.inl h4))]
    refine zq_assign ?_
    refine jk_nil ?_
    refine jk_seq ?_
    refine jk_seq ?_
    refine jk_region ?_
    refine zq_fld0 ?_
    refine zq_load ?_
    refine zq_ltF ?_
    refine zq_move ?_
    refine zq_fld0 ?_
    refine zq_load ?_
    refine zq_fld0 ?_
    refine zq_fld0 ?_
    refine zq_load ?_
    refine zq_len ?_
    refine zq_geF ?_
    refine zq_pick_f ?_
    refine jk_nil ?_
    refine jk_if_f rfl ?_
    refine jk_skip ?_
    refine jk_seq ?_
    refine jk_region ?_
    refine zq_fld0 ?_
    refine zq_fld0 ?_
    refine zq_load ?_
    refine zq_fld0 ?_
    refine zq_load ?_
    refine zq_idxN ?_
    refine zq_loadS ?_
    refine zl_allocS ?_; rintro _ _ ⟨b, rfl, rfl⟩
    refine zs_storeS ?_; rintro _ _ ⟨rfl, rfl⟩
    refine jk_nil ?_
    refine jk_seq ?_
    refine jk_seq ?_
    refine jk_region ?_
    refine zq_fld0 ?_
    refine zq_load ?_
    refine zq_fld0 ?_
    refine zq_load ?_
    refine zq_fld0 ?_
    refine zq_load ?_
    refine zq_max ?_
    refine zq_lt ?_
    refine zq_move ?_
    refine jk_pass rfl rfl rfl ?_
    refine jk_pass rfl rfl rfl ?_
    refine jk_pass rfl rfl rfl ?_
    refine jk_pass rfl rfl rfl ?_
    refine jk_pass rfl rfl rfl ?_
    refine zq_pick_t ?_
    refine zq_move ?_
    refine jk_pass rfl rfl rfl ?_
    refine jk_pass rfl rfl rfl ?_
    refine jk_pass rfl rfl rfl ?_
    refine zq_pick_t ?_
    refine zq_move ?_
    refine jk_pass rfl rfl rfl ?_
    refine jk_pass rfl rfl rfl ?_
    refine jk_pass rfl rfl rfl ?_
    refine jk_pass rfl rfl rfl ?_
    refine jk_pass rfl rfl rfl ?_
    refine zq_pick_t ?_
    refine jk_nil ?_
    refine jk_if_t rfl ?_
    refine jk_seq ?_
    refine jk_region ?_
    refine zq_assign ?_
    refine jk_nil ?_
    exact jk_ret_any (res1 rfl rfl) (by (repeat (first | exact rs_nil | (refine rs_cons ?_ ?_; (focus ((repeat (first | exact .here | apply Mem.there | apply Take.there)); first | done | fail))) | exact fun ρ hρ => hρ | (intro ρ hρ; repeat (first | exact hρ | refine List.mem_cons_of_mem _ ?_)))); first | done | fail) selZ ⟨rfl, rfl⟩
  by_cases h5 : c.e ≤ x.t
  · rw [if_pos (.inr (.inr (.inl h5)))]
    refine zq_assign ?_
    refine jk_nil ?_
    refine jk_seq ?_
    refine jk_seq ?_
    refine jk_region ?_
    refine zq_fld0 ?_
    refine zq_load ?_
    refine zq_ltF ?_
    refine zq_move ?_
    refine zq_fld0 ?_
    refine zq_load ?_
    refine zq_fld0 ?_
    refine zq_fld0 ?_
    refine zq_load ?_
    refine zq_len ?_
    refine zq_geF ?_
    refine zq_pick_f ?_
    refine jk_nil ?_
    refine jk_if_f rfl ?_
    refine jk_skip ?_
    refine jk_seq ?_
    refine jk_region ?_
    refine zq_fld0 ?_
    refine zq_fld0 ?_
    refine zq_load ?_
    refine zq_fld0 ?_
    refine zq_load ?_
    refine zq_idxN ?_
    refine zq_loadS ?_
    refine zl_allocS ?_; rintro _ _ ⟨b, rfl, rfl⟩
    refine zs_storeS ?_; rintro _ _ ⟨rfl, rfl⟩
    refine jk_nil ?_
    refine jk_seq ?_
    refine jk_seq ?_
    refine jk_region ?_
    refine zq_fld0 ?_
    refine zq_load ?_
    refine zq_fld0 ?_
    refine zq_load ?_
    refine zq_fld0 ?_
    refine zq_load ?_
    refine zq_max ?_
    refine zq_ltF ?_
    refine zq_move ?_
    refine zq_fld0 ?_
    refine zq_load ?_
    refine zq_fld0 ?_
    refine zq_load ?_
    refine zq_ge ?_
    refine zq_pick_f ?_
    refine zq_move ?_
    refine jk_pass rfl rfl rfl ?_
    refine jk_pass rfl rfl rfl ?_
    refine jk_pass rfl rfl rfl ?_
    refine zq_pick_t ?_
    refine zq_move ?_
    refine jk_pass rfl rfl rfl ?_
    refine jk_pass rfl rfl rfl ?_
    refine jk_pass rfl rfl rfl ?_
    refine jk_pass rfl rfl rfl ?_
    refine jk_pass rfl rfl rfl ?_
    refine zq_pick_t ?_
    refine jk_nil ?_
    refine jk_if_t rfl ?_
    refine jk_seq ?_
    refine jk_region ?_
    refine zq_assign ?_
    refine jk_nil ?_
    exact jk_ret_any (res1 rfl rfl) (by (repeat (first | exact rs_nil | (refine rs_cons ?_ ?_; (focus ((repeat (first | exact .here | apply Mem.there | apply Take.there)); first | done | fail))) | exact fun ρ hρ => hρ | (intro ρ hρ; repeat (first | exact hρ | refine List.mem_cons_of_mem _ ?_)))); first | done | fail) selZ ⟨rfl, rfl⟩
  by_cases h6 : x.n < 1
  · rw [if_pos (.inr (.inr (.inr (.inl h6))))]
    refine zq_assign ?_
    refine jk_nil ?_
    refine jk_seq ?_
    refine jk_seq ?_
    refine jk_region ?_
    refine zq_fld0 ?_
    refine zq_load ?_
    refine zq_ltF ?_
    refine zq_move ?_
    refine zq_fld0 ?_
    refine zq_load ?_
    refine zq_fld0 ?_
    refine zq_fld0 ?_
    refine zq_load ?_
    refine zq_len ?_
    refine zq_geF ?_
    refine zq_pick_f ?_
    refine jk_nil ?_
    refine jk_if_f rfl ?_
    refine jk_skip ?_
    refine jk_seq ?_
    refine jk_region ?_
    refine zq_fld0 ?_
    refine zq_fld0 ?_
    refine zq_load ?_
    refine zq_fld0 ?_
    refine zq_load ?_
    refine zq_idxN ?_
    refine zq_loadS ?_
    refine zl_allocS ?_; rintro _ _ ⟨b, rfl, rfl⟩
    refine zs_storeS ?_; rintro _ _ ⟨rfl, rfl⟩
    refine jk_nil ?_
    refine jk_seq ?_
    refine jk_seq ?_
    refine jk_region ?_
    refine zq_fld0 ?_
    refine zq_load ?_
    refine zq_fld0 ?_
    refine zq_load ?_
    refine zq_fld0 ?_
    refine zq_load ?_
    refine zq_max ?_
    refine zq_ltF ?_
    refine zq_move ?_
    refine zq_fld0 ?_
    refine zq_load ?_
    refine zq_fld0 ?_
    refine zq_load ?_
    refine zq_geF ?_
    refine zq_pick_f ?_
    refine zq_move ?_
    refine zq_fld0 ?_
    refine zq_load ?_
    refine zq_lt ?_
    refine zq_pick_f ?_
    refine zq_move ?_
    refine jk_pass rfl rfl rfl ?_
    refine jk_pass rfl rfl rfl ?_
    refine jk_pass rfl rfl rfl ?_
    refine jk_pass rfl rfl rfl ?_
    refine jk_pass rfl rfl rfl ?_
    refine zq_pick_t ?_
    refine jk_nil ?_
    refine jk_if_t rfl ?_
    refine jk_seq ?_
    refine jk_region ?_
    refine zq_assign ?_
    refine jk_nil ?_
    exact jk_ret_any (res1 rfl rfl) (by (repeat (first | exact rs_nil | (refine rs_cons ?_ ?_; (focus ((repeat (first | exact .here | apply Mem.there | apply Take.there)); first | done | fail))) | exact fun ρ hρ => hρ | (intro ρ hρ; repeat (first | exact hρ | refine List.mem_cons_of_mem _ ?_)))); first | done | fail) selZ ⟨rfl, rfl⟩
  by_cases h7 : c.r < x.n
  · rw [if_pos (.inr (.inr (.inr (.inr h7))))]
    refine zq_assign ?_
    refine jk_nil ?_
    refine jk_seq ?_
    refine jk_seq ?_
    refine jk_region ?_
    refine zq_fld0 ?_
    refine zq_load ?_
    refine zq_ltF ?_
    refine zq_move ?_
    refine zq_fld0 ?_
    refine zq_load ?_
    refine zq_fld0 ?_
    refine zq_fld0 ?_
    refine zq_load ?_
    refine zq_len ?_
    refine zq_geF ?_
    refine zq_pick_f ?_
    refine jk_nil ?_
    refine jk_if_f rfl ?_
    refine jk_skip ?_
    refine jk_seq ?_
    refine jk_region ?_
    refine zq_fld0 ?_
    refine zq_fld0 ?_
    refine zq_load ?_
    refine zq_fld0 ?_
    refine zq_load ?_
    refine zq_idxN ?_
    refine zq_loadS ?_
    refine zl_allocS ?_; rintro _ _ ⟨b, rfl, rfl⟩
    refine zs_storeS ?_; rintro _ _ ⟨rfl, rfl⟩
    refine jk_nil ?_
    refine jk_seq ?_
    refine jk_seq ?_
    refine jk_region ?_
    refine zq_fld0 ?_
    refine zq_load ?_
    refine zq_fld0 ?_
    refine zq_load ?_
    refine zq_fld0 ?_
    refine zq_load ?_
    refine zq_max ?_
    refine zq_ltF ?_
    refine zq_move ?_
    refine zq_fld0 ?_
    refine zq_load ?_
    refine zq_fld0 ?_
    refine zq_load ?_
    refine zq_geF ?_
    refine zq_pick_f ?_
    refine zq_move ?_
    refine zq_fld0 ?_
    refine zq_load ?_
    refine zq_ltF ?_
    refine zq_pick_f ?_
    refine zq_move ?_
    refine zq_fld0 ?_
    refine zq_load ?_
    refine zq_fld0 ?_
    refine zq_load ?_
    refine zq_gt ?_
    refine zq_pick_f ?_
    refine jk_nil ?_
    refine jk_if_t rfl ?_
    refine jk_seq ?_
    refine jk_region ?_
    refine zq_assign ?_
    refine jk_nil ?_
    exact jk_ret_any (res1 rfl rfl) (by (repeat (first | exact rs_nil | (refine rs_cons ?_ ?_; (focus ((repeat (first | exact .here | apply Mem.there | apply Take.there)); first | done | fail))) | exact fun ρ hρ => hρ | (intro ρ hρ; repeat (first | exact hρ | refine List.mem_cons_of_mem _ ?_)))); first | done | fail) selZ ⟨rfl, rfl⟩
  rw [if_neg (by omega)]
  have harr := arrival_spec c x.t ⟨by omega, by omega⟩ ⟨by omega, by omega⟩
  refine zq_assign ?_
  refine jk_nil ?_
  refine jk_seq ?_
  refine jk_seq ?_
  refine jk_region ?_
  refine zq_fld0 ?_
  refine zq_load ?_
  refine zq_ltF ?_
  refine zq_move ?_
  refine zq_fld0 ?_
  refine zq_load ?_
  refine zq_fld0 ?_
  refine zq_fld0 ?_
  refine zq_load ?_
  refine zq_len ?_
  refine zq_geF ?_
  refine zq_pick_f ?_
  refine jk_nil ?_
  refine jk_if_f rfl ?_
  refine jk_skip ?_
  refine jk_seq ?_
  refine jk_region ?_
  refine zq_fld0 ?_
  refine zq_fld0 ?_
  refine zq_load ?_
  refine zq_fld0 ?_
  refine zq_load ?_
  refine zq_idxN ?_
  refine zq_loadS ?_
  refine zl_allocS ?_; rintro _ _ ⟨b, rfl, rfl⟩
  refine zs_storeS ?_; rintro _ _ ⟨rfl, rfl⟩
  refine jk_nil ?_
  refine jk_seq ?_
  refine jk_seq ?_
  refine jk_region ?_
  refine zq_fld0 ?_
  refine zq_load ?_
  refine zq_fld0 ?_
  refine zq_load ?_
  refine zq_fld0 ?_
  refine zq_load ?_
  refine zq_max ?_
  refine zq_ltF ?_
  refine zq_move ?_
  refine zq_fld0 ?_
  refine zq_load ?_
  refine zq_fld0 ?_
  refine zq_load ?_
  refine zq_geF ?_
  refine zq_pick_f ?_
  refine zq_move ?_
  refine zq_fld0 ?_
  refine zq_load ?_
  refine zq_ltF ?_
  refine zq_pick_f ?_
  refine zq_move ?_
  refine zq_fld0 ?_
  refine zq_load ?_
  refine zq_fld0 ?_
  refine zq_load ?_
  refine zq_gtF ?_
  refine zq_pick_f ?_
  refine jk_nil ?_
  refine jk_if_f rfl ?_
  refine jk_skip ?_
  refine jk_seq ?_
  refine jk_seq ?_
  revert b; intro b7
  refine jk_draw (.q 0 (.q 1 (.q 2 (.q 4 (.q 5 (.l 3 .e (.q 6 .nil))))))) [sng b7 _] rfl (by kernel_rfl) selZ ?_
  refine zd_loadS ?_
  refine zd_fld0 ?_
  refine zd_load ?_
  refine zd_fld0 ?_
  refine zd_load ?_
  refine dj_l (a_call rfl harr rfl rfl rdZ rfl rfl ?_)
  rintro _ rfl
  by_cases h8 : d.e < x.t + 1 + c.g
  · rw [if_pos h8]
    refine zd_gt ?_
    refine dj_end ?_
    refine jk_if_t rfl ?_
    refine jk_seq ?_
    refine jk_region ?_
    refine zq_assign ?_
    refine jk_nil ?_
    exact jk_ret_any (res1 rfl rfl) (by (repeat (first | exact rs_nil | (refine rs_cons ?_ ?_; (focus ((repeat (first | exact .here | apply Mem.there | apply Take.there)); first | done | fail))) | exact fun ρ hρ => hρ | (intro ρ hρ; repeat (first | exact hρ | refine List.mem_cons_of_mem _ ?_)))); first | done | fail) selZ ⟨rfl, rfl⟩
  rw [if_neg h8]
  refine zd_gtF ?_
  refine dj_end ?_
  refine jk_if_f rfl ?_
  refine jk_skip ?_
  refine jk_seq ?_
  refine jk_seq ?_
  refine jk_region ?_
  refine zq_loadS ?_
  refine zq_fld0 ?_
  refine zq_load ?_
  refine zq_fld0 ?_
  refine zq_load ?_
  refine jk_call hbk rfl rfl rdZ rfl rfl ?_
  rintro _ rfl
  cases bookedB bs nn x.t with
  | true =>
    refine jk_nil ?_
    refine jk_if_t rfl ?_
    refine jk_seq ?_
    refine jk_region ?_
    refine zq_assign ?_
    refine jk_nil ?_
    exact jk_ret_any (res1 rfl rfl) (by (repeat (first | exact rs_nil | (refine rs_cons ?_ ?_; (focus ((repeat (first | exact .here | apply Mem.there | apply Take.there)); first | done | fail))) | exact fun ρ hρ => hρ | (intro ρ hρ; repeat (first | exact hρ | refine List.mem_cons_of_mem _ ?_)))); first | done | fail) selZ ⟨rfl, rfl⟩
  | false =>
    refine jk_nil ?_
    refine jk_if_f rfl ?_
    refine jk_skip ?_
    refine jk_seq ?_
    refine jk_region ?_
    refine zq_assign ?_
    refine jk_nil ?_
    exact jk_ret_any (res1 rfl rfl) (by (repeat (first | exact rs_nil | (refine rs_cons ?_ ?_; (focus ((repeat (first | exact .here | apply Mem.there | apply Take.there)); first | done | fail))) | exact fun ρ hρ => hρ | (intro ρ hρ; repeat (first | exact hρ | refine List.mem_cons_of_mem _ ?_)))); first | done | fail) selZ ⟨rfl, rfl⟩
end Go.Proofs.Ytjbebmealbnmgaa
/- Cuts and their capacities. No program in sight. No conditions. -/
namespace Go.Step
abbrev Cu := List (List (Int × Int))
def cuAt (c : Cu) (n : Int) : List (Int × Int) := c.getD n.toNat []
/-- does a cut's edge cross: from there at a time, to there at a time? -/
def crossB (c : Cu) (f a t u : Int) : Bool := hasI (cuAt c f) a && !hasI (cuAt c t) u
def sumT (f : Int → Int) (a : Int) : Nat → Int
  | 0 => 0
  | m + 1 => sumT f a m + f (a + m)
theorem sumT_bd {f : Int → Int} {B : Int} (h : ∀ t, -B ≤ f t ∧ f t ≤ B) (a : Int) : ∀ m : Nat, -(B * m) ≤ sumT f a m ∧ sumT f a m ≤ B * m
  | 0 => by simp [sumT]
  | m + 1 => by
    have ih := sumT_bd h a m
    have := h (a + m)
    have e : B * ((m + 1 : Nat) : Int) = B * (m : Int) + B := by rw [Int.natCast_succ, Int.mul_add, Int.mul_one]
    show -(B * ((m + 1 : Nat) : Int)) ≤ sumT f a m + f (a + m) ∧ sumT f a m + f (a + m) ≤ B * ((m + 1 : Nat) : Int)
    rw [e]
    omega
theorem sumT_ext {f : Int → Int} {a : Int} {m : Nat} : ∀ {k : Nat}, (∀ j : Nat, m ≤ j → j < m + k → f (a + j) = 0) → sumT f a (m + k) = sumT f a m
  | 0, _ => rfl
  | k + 1, h => by
    have h1 := sumT_ext (k := k) (fun j h1 h2 => h j h1 (by omega))
    have h2 := h (m + k) (by omega) (by omega)
    show sumT f a (m + k) + f (a + ((m + k : Nat) : Int)) = sumT f a m
    rw [h1, h2, Int.add_zero]
theorem sumT_succ0 (f : Int → Int) (n : Nat) : sumT f 0 (n + 1) = sumT f 0 n + f n := by
  show sumT f 0 n + f (0 + n) = _
  rw [Int.zero_add]
/-- the sum over the times from a to before t -/
def sumU (f : Int → Int) (a t : Int) : Int := sumT f a (t - a).toNat
theorem sumU_self (f : Int → Int) (a : Int) : sumU f a a = 0 := by unfold sumU; rw [Int.sub_self]; rfl
theorem sumU_succ {f : Int → Int} {a t : Int} (h : a ≤ t) : sumU f a (t + 1) = sumU f a t + f t := by
  unfold sumU
  rw [show (t + 1 - a).toNat = (t - a).toNat + 1 by omega]
  show sumT f a (t - a).toNat + f (a + (t - a).toNat) = _
  rw [show a + ((t - a).toNat : Int) = t by omega]
theorem sumU_bd {f : Int → Int} {B a t : Int} (hB : 0 ≤ B) (h : ∀ t, -B ≤ f t ∧ f t ≤ B) (h1 : t - a ≤ 100) : -(B * 100) ≤ sumU f a t ∧ sumU f a t ≤ B * 100 := by
  have := sumT_bd h a (t - a).toNat
  have h2 : B * ((t - a).toNat : Int) ≤ B * 100 := Int.mul_le_mul_of_nonneg_left (by omega) hB
  unfold sumU
  omega
theorem sumU_ext {f : Int → Int} {a t u : Int} (h : a ≤ t) (h2 : t ≤ u) (hz : ∀ v, t ≤ v → v < u → f v = 0) : sumU f a u = sumU f a t := by
  unfold sumU
  rw [show (u - a).toNat = (t - a).toNat + (u - t).toNat by omega]
  exact sumT_ext (fun j h1 h2 => hz _ (by omega) (by omega))
/-- bytes that wait at a node over a tick, across the cut -/
def waitC (qs : List Int) (hs : List Hd) (d : Dm) (c : Cu) (n t : Int) : Int := if crossB c n t n (t + 1) then roomT qs hs d n t else 0
/-- bytes over a contact in a tick, across the cut -/
def conC (cs : List Ct) (bs : List Bk) (d : Dm) (c : Cu) (i t : Int) : Int :=
  match cs[i.toNat]? with
  | none => 0
  | some x => if x.s ≤ t ∧ t < x.e ∧ t + 1 + x.g ≤ d.e ∧ bookedB bs i t = false ∧ crossB c x.f t x.t (t + 1 + x.g) = true then x.r else 0
theorem waitC_bd {qs : List Int} {hs : List Hd} {nq : Nat} (hq : ∀ (j : Nat) (q : Int), qs[j]? = some q → 0 ≤ q ∧ q ≤ 1073741824) (hok : ∀ h ∈ hs, okHd nq h) (hl : hs.length ≤ 512) (d : Dm) (c : Cu) (n t : Int) : -1099511627776 ≤ waitC qs hs d c n t ∧ waitC qs hs d c n t ≤ 1099511627776 := by
  have h1 := stored_bd (n := n) (t := t) hok
  have h2 : 0 ≤ qs.getD n.toNat 0 ∧ qs.getD n.toNat 0 ≤ 1073741824 := by
    rw [List.getD_eq_getElem?_getD]
    cases e : qs[n.toNat]? with
    | none => exact ⟨by simp, by simp⟩
    | some q => exact hq _ _ e
  unfold waitC roomT
  split
  · split <;> omega
  · omega
theorem conC_bd {cs : List Ct} (h : ∀ x ∈ cs, 0 ≤ x.r ∧ x.r ≤ 1000) (bs : List Bk) (d : Dm) (c : Cu) (i t : Int) : -1000 ≤ conC cs bs d c i t ∧ conC cs bs d c i t ≤ 1000 := by
  unfold conC
  cases e : cs[i.toNat]? with
  | none => dsimp only; omega
  | some x =>
    have := h x (List.mem_of_getElem? e)
    dsimp only
    split <;> omega
def badS (d : Dm) (x : Int × Int) : Bool := decide (x.1 < d.r) || decide (d.e + 1 < x.2)
def badL2 (d : Dm) (l : List (Int × Int)) : Bool := decide (chkI l ≠ 0) || l.any (badS d)
def capW (qs : List Int) (hs : List Hd) (d : Dm) (c : Cu) : Nat → Int := sumT (fun n => sumU (waitC qs hs d c n) d.r d.e) 0
def capC (cs : List Ct) (bs : List Bk) (d : Dm) (c : Cu) : Nat → Int := sumT (fun i => sumU (conC cs bs d c i) d.r d.e) 0
def capSum (qs : List Int) (cs : List Ct) (bs : List Bk) (hs : List Hd) (d : Dm) (c : Cu) : Int := capW qs hs d c qs.length + capC cs bs d c cs.length
/-- the capacity of a cut -/
def capR (qs : List Int) (cs : List Ct) (bs : List Bk) (hs : List Hd) (d : Dm) (c : Cu) : Int × Int :=
  if validT qs cs bs hs d = false then (0, 1) else if c.length ≠ qs.length then (0, 10) else if c.any (badL2 d) then (0, 2)
  else if hasI (cuAt c d.s) d.r = false ∨ hasI (cuAt c d.d) d.e = true then (0, 24) else (capSum qs cs bs hs d c, 0)
end Go.Step
/- What crosses a cut. -/
namespace Go.Proofs.Ytjbebmealbnmgaa
open Go.Eng Go.Step
set_option maxRecDepth 100000
set_option maxHeartbeats 4000000

/-- a cut in memory: the slices in ρ, what they hold in κ -/
def CutRow (ρ κ : PH) (p : Option Addr) (c : Cu) : Prop := ∀ (i : Nat) (l : List (Int × Int)), c[i]? = some l → ∃ b o q k, p = some ⟨b, o, none⟩ ∧ rdc ρ b (o + i) = some (.slice q l.length k) ∧ SpAt κ (.slice q l.length k) l ∧ l.length ≤ 9223372036854775807
theorem cuAt_get {c : Cu} {n : Nat} {l : List (Int × Int)} (h : c[n]? = some l) : cuAt c n = l := by unfold cuAt; rw [Int.toNat_natCast, List.getD_eq_getElem?_getD, h]; rfl
set_option maxHeartbeats 16000000 in
theorem cross_spec (ρ κ : PH) (bc bs' : Nat) (p : Option Addr) (kk : Nat) (c : Cu) (hc : CutRow ρ κ p c) (f t : Nat) (a u w S : Int) (hf : f < c.length) (ht : t < c.length) (hS : In64 (S + w)) :
    Eng.Spec Try.prog (.func (.func 31) #[] #[.pointer (some ⟨bc, 0, none⟩), .pointer (some ⟨bs', 0, none⟩)]) [int f, int a, int t, int u, int w] [sng bc (.cells #[.slice p c.length kk] 39 (0, 0)), ρ, κ] [sng bs' (.cells #[int S] 3 (0, 0))]
      (fun r H' => r = .tuple #[] ∧ H' = [sng bs' (.cells #[int (S + if crossB c f a t u then w else 0)] 3 (0, 0))]) := by
  unfold In64 at hS
  have gc : rdc (sng bc (.cells #[.slice p c.length kk] 39 (0, 0))) bc 0 = some (.slice p c.length kk) := by rw [rdc_sng]; rfl
  obtain ⟨b1, o1, q1, k1, rfl, g1, s1, l1⟩ := hc f _ (List.getElem?_eq_getElem hf)
  obtain ⟨_, _, q2, k2, e, g2, s2, l2⟩ := hc t _ (List.getElem?_eq_getElem ht)
  simp only [Option.some.injEq, Addr.mk.injEq, and_true] at e
  obtain ⟨rfl, rfl⟩ := e
  have h1 := ivHas_spec κ _ _ a s1 l1
  have h2 := ivHas_spec κ _ _ u s2 l2
  unfold crossB
  rw [cuAt_get (List.getElem?_eq_getElem hf), cuAt_get (List.getElem?_eq_getElem ht)]
  refine spec_in (cap := [.pointer (some ⟨bc, 0, none⟩), .pointer (some ⟨bs', 0, none⟩)]) Try.func31 rfl rfl Try.ntmps31 rfl (by (repeat (first | exact EnvA.nil EnvI.nil | apply EnvA.cons | apply EnvA.nil | exact EnvI.nil | apply EnvI.cons)); first | done | fail) (fun N β => ?_)
  refine jk_seq ?_
  refine jk_region ?_
  refine zq_load ?_
  refine zq_move ?_
  refine zq_idx1 ?_
  refine zq_load ?_
  refine zq_move ?_
  refine jk_call h1 rfl rfl rdZ rfl rfl ?_
  rintro _ rfl
  cases hasI c[f] a with
  | false =>
    rw [Bool.false_and, if_neg (by simp), Int.add_zero]
    refine zq_move ?_
    refine jk_pass rfl rfl rfl ?_
    refine jk_pass rfl rfl rfl ?_
    refine jk_pass rfl rfl rfl ?_
    refine jk_pass rfl rfl rfl ?_
    refine jk_pass rfl rfl rfl ?_
    refine jk_pass rfl rfl rfl ?_
    refine jk_pass rfl rfl rfl ?_
    refine zq_pick_f ?_
    refine jk_nil ?_
    refine jk_if_f rfl ?_
    refine jk_skip ?_
    exact jk_end_any (res0 rfl) (by (repeat (first | exact rs_nil | (refine rs_cons ?_ ?_; (focus ((repeat (first | exact .here | apply Mem.there | apply Take.there)); first | done | fail))) | exact fun ρ hρ => hρ | (intro ρ hρ; repeat (first | exact hρ | refine List.mem_cons_of_mem _ ?_)))); first | done | fail) selZ ⟨rfl, rfl⟩
  | true =>
    refine zq_move ?_
    refine zq_load ?_
    refine zq_move ?_
    refine zq_idx1 ?_
    refine zq_load ?_
    refine zq_move ?_
    refine jk_call h2 rfl rfl rdZ rfl rfl ?_
    rintro _ rfl
    cases hasI c[t] u with
    | true =>
      rw [Bool.not_true, Bool.and_false, if_neg (by simp), Int.add_zero]
      refine zq_not ?_
      refine zq_pick_t ?_
      refine jk_nil ?_
      refine jk_if_f rfl ?_
      refine jk_skip ?_
      exact jk_end_any (res0 rfl) (by (repeat (first | exact rs_nil | (refine rs_cons ?_ ?_; (focus ((repeat (first | exact .here | apply Mem.there | apply Take.there)); first | done | fail))) | exact fun ρ hρ => hρ | (intro ρ hρ; repeat (first | exact hρ | refine List.mem_cons_of_mem _ ?_)))); first | done | fail) selZ ⟨rfl, rfl⟩
    | false =>
      rw [Bool.not_false, Bool.and_true, if_pos rfl]
      refine zq_not ?_
      refine zq_pick_t ?_
      refine jk_nil ?_
      refine jk_if_t rfl ?_
      refine jk_region ?_
      refine zq_load ?_
      refine zq_move ?_
      refine zq_add ?_
      refine zs_storeL ?_; rintro _ _ ⟨rfl, rfl⟩
      refine jk_nil ?_
      exact jk_end_any (res0 rfl) (by (repeat (first | exact rs_nil | (refine rs_cons ?_ ?_; (focus ((repeat (first | exact .here | apply Mem.there | apply Take.there)); first | done | fail))) | exact fun ρ hρ => hρ | (intro ρ hρ; repeat (first | exact hρ | refine List.mem_cons_of_mem _ ?_)))); first | done | fail) selZ ⟨rfl, rfl⟩
end Go.Proofs.Ytjbebmealbnmgaa
/- Arguments that are slices: their room. No conditions. -/
namespace Go.Eng
open Go.ChangeShapes Go.WideShapes Go.RowKit
variable {P : Program} {W : World} {t : TypeId}
theorem RdT.capOK {e : TypeId} {v : Value} (ht : P.underlying t = some (.slice e)) (h : RdT P W t [v]) : CapOK v := by
  obtain ⟨H, enc, fuel, x, h⟩ := h
  rcases Deep.open_slice ht h with ⟨e, _⟩ | ⟨a, len, cap, m, n, D, Pl, e, _, hlc, _⟩
  · simp only [List.cons.injEq, and_true] at e
    exact ⟨_, _, _, e, Nat.le_refl _⟩
  · simp only [List.cons.injEq, and_true] at e
    exact ⟨_, _, _, e, hlc⟩
end Go.Eng
