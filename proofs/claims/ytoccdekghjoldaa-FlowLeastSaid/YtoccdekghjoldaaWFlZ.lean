/- The rows: each law, for every input. -/
import Derived.Test.YtoccdekghjoldaaWFlO
import Derived.Test.YtoccdekghjoldaaWMbRow
import Derived.Test.YtoccdekghjoldaaRows
set_option linter.all false
namespace Go.Proofs.Ytoccdekghjoldaa
open Go.Eng Go.Flow
set_option maxRecDepth 100000
set_option maxHeartbeats 4000000
open Go.ChangeShapes Go.WideShapes Go.ChangeAt Go.RowKit

theorem Try.own : ownKnob Try.prog.godebug = none := by kernel_rfl
theorem Try.laidOut : laidOutB Try.prog = true := by kernel_rfl
theorem arc_of {W : World} {x : List Value} (h : RdT Try.prog W 36 x) : ∃ a : Arc, x = encA a ∧ True := by
  obtain ⟨h1, _⟩ := h.struct Try.underlying36
  have hc : Try.prog.cellsOf 36 = 3 := by kernel_rfl
  rw [hc] at h1
  match x, h1 with
  | [c0, c1, c2], _ =>
    have k : Try.prog.cellsOf 3 = 1 := by kernel_rfl
    obtain ⟨f, e0, _⟩ := (h.fld1 Try.underlying36 0 rfl rfl rfl k rfl).i64 Try.underlying3
    obtain ⟨t, e1, _⟩ := (h.fld1 Try.underlying36 1 rfl rfl rfl k rfl).i64 Try.underlying3
    obtain ⟨c, e2, _⟩ := (h.fld1 Try.underlying36 2 rfl rfl rfl k rfl).i64 Try.underlying3
    simp at e0 e1 e2
    subst e0 e1 e2
    exact ⟨⟨f, t, c⟩, rfl, trivial⟩
theorem arcs_of {W : World} {x : List Value} (h : RdT Try.prog W 22 x) : ∃ v, x = [v] ∧ ∃ l : List Arc, ArcsAt (heapPH W) v l := by
  obtain ⟨v, e, l, h1, _⟩ := h.sliceE Try.underlying22 (s := 3) (by kernel_rfl) (by omega) (fun x hx => arc_of hx)
  exact ⟨v, e, l, h1⟩
theorem graph_of {W : World} {r : Reach} {base : Nat} {v0 : Value} (hv : Value.okWide Try.prog W r base 24 v0) (h : RdT Try.prog W 24 v0.cells.toList) :
    ∃ (n : Int) (v : Value) (s t : Int) (l : List Arc), v0 = .agg #[int n, v, int s, int t] ∧ ArcsAt (heapPH W) v l := by
  obtain ⟨cs, rfl⟩ := okWide_agg Try.underlying24 hv
  obtain ⟨h1, _⟩ := h.struct Try.underlying24
  have hc : Try.prog.cellsOf 24 = 4 := by kernel_rfl
  rw [hc] at h1
  obtain ⟨x⟩ := cs
  match x, h1 with
  | [c0, c1, c2, c3], _ =>
    have k : Try.prog.cellsOf 3 = 1 := by kernel_rfl
    have k2 : Try.prog.cellsOf 22 = 1 := by kernel_rfl
    obtain ⟨n, e0, _⟩ := (h.fld1 Try.underlying24 0 rfl rfl rfl k rfl).i64 Try.underlying3
    obtain ⟨v, e1, l, hl⟩ := arcs_of (h.fld1 Try.underlying24 1 rfl rfl rfl k2 rfl)
    obtain ⟨s, e2, _⟩ := (h.fld1 Try.underlying24 2 rfl rfl rfl k rfl).i64 Try.underlying3
    obtain ⟨t, e3, _⟩ := (h.fld1 Try.underlying24 3 rfl rfl rfl k rfl).i64 Try.underlying3
    simp at e0 e1 e2 e3
    subst e0 e1 e2 e3
    exact ⟨n, _, s, t, l, rfl, hl⟩
theorem ints_of {W : World} {r : Reach} {base : Nat} {v0 : Value} (hv : Value.okWide Try.prog W r base 26 v0) (h : RdT Try.prog W 26 v0.cells.toList) : ∃ l : List Int, IntsAt (heapPH W) v0 l := by
  obtain ⟨a, len, cap, rfl⟩ := okWide_slice Try.underlying26 hv
  obtain ⟨v, e, l, hl, _⟩ := h.ints Try.underlying26 Try.underlying3 (by kernel_rfl)
  have e2 : [Value.slice a len cap] = [v] := e
  simp only [List.cons.injEq, and_true] at e2
  subst e2
  exact ⟨l, hl⟩
set_option maxRecDepth 100000 in
theorem flowDuality_lifted (os : Os) (started : os.Started) (H : Type) (enc : TypeId × Value → H) :
    ReturnsInHanded {} Try.checked os 7 .any (Rows.flowDualitySpec.pre6 enc Try.prog Try.f7 Rows.flowDualityRow.domain false) (Rows.flowDualitySpec.post enc Try.prog Try.f7 false true false false) := by
  refine returnsInHanded_of_change (C := Try.checked) Try.own started (by kernel_rfl) Try.func7
    (ChangeSpec.witness6 (enc := enc) (C := Try.checked) false ⟨#[], #[.agg #[.int .i64 0, .slice none 0 0, .int .i64 0, .int .i64 0]], []⟩ 8 (by kernel_rfl) (by kernel_rfl) (by kernel_rfl) (by kernel_rfl)) ?_
  intro W base args ds gs before hval0 hW hcnd _
  have hval : ∀ (j : Nat) t v, Try.f7.params[j]? = some t → args[j]? = some v → Value.okWide Try.prog W .any base t v := hval0
  have hW' := hW
  obtain ⟨p, q, hA0, hV, rfl, hfz, hnd⟩ := hW
  have hA : DataW.TrodAll enc Try.prog W 0 (fun _ => true) true Try.f7.params.toList args.toList ds p := hA0
  rw [Try.params7] at hA hval
  obtain ⟨v0, vs0, d0, ds0, p0, q0, hargs, rfl, rfl, h0, r0⟩ := trodAll_cons hA
  obtain ⟨rfl, rfl, rfl⟩ := trodAll_nil r0
  obtain rfl : args = #[v0] := by cases args; simp_all
  obtain ⟨rfl, rfl⟩ := trodVars_none hV
  have lt0 : ∀ x ∈ p0, x.block < W.heap.size := by obtain ⟨m, hm⟩ := h0; exact DataW.trod_lt m _ _ _ hm
  have hlaw : Ans Try.prog (fv 7) [v0] [heapPH W] (fun v => v = .bool true) := by
    obtain ⟨n, v, s, t, l, rfl, hl⟩ := graph_of (hval 0 _ v0 rfl rfl) (RdT.of h0)
    exact duality_law _ v n s t l hl
  refine (law_calls Try.func7 rfl rfl hlaw).mono fun e W' ⟨he, bel⟩ => ?_
  subst he
  exact ⟨_, rfl, _, _, _, [], _, [], hW', trodAll_mk1 (shut_bool Try.underlying4 _), (trodAll_cons_mk (Below.trod Try.laidOut (by kernel_rfl) (of_decide_eq_true (by kernel_rfl)) h0 bel lt0) trodAll_mk0), rfl, bel.frame _, fun h => by cases h⟩
theorem flowDuality_holds : Rows.FlowDualitySaid :=
  OpenClaim.holds_of_wide 7 Try.f7 rfl rfl rfl rfl rfl rfl rfl ⟨rfl, rfl, rfl, rfl, rfl⟩ rfl rfl rfl rfl rfl (by kernel_rfl) Try.func7 (by kernel_rfl)
    (of_decide_eq_true (by kernel_rfl)) (by unfold Func.isWrapper; first | (rw [if_pos (by decide +kernel)]; kernel_rfl) | (rw [if_neg (by decide +kernel)]; exact ⟨rfl, rfl⟩))
    (fun os started H enc _ => flowDuality_lifted os started H enc)
set_option maxRecDepth 100000 in
theorem flowBounds_lifted (os : Os) (started : os.Started) (H : Type) (enc : TypeId × Value → H) :
    ReturnsInHanded {} Try.checked os 8 .any (Rows.flowBoundsSpec.pre6 enc Try.prog Try.f8 Rows.flowBoundsRow.domain false) (Rows.flowBoundsSpec.post enc Try.prog Try.f8 false true false false) := by
  refine returnsInHanded_of_change (C := Try.checked) Try.own started (by kernel_rfl) Try.func8
    (ChangeSpec.witness6 (enc := enc) (C := Try.checked) false ⟨#[], #[.agg #[.int .i64 0, .slice none 0 0, .int .i64 0, .int .i64 0], .slice none 0 0, .slice none 0 0], []⟩ 8 (by kernel_rfl) (by kernel_rfl) (by kernel_rfl) (by kernel_rfl)) ?_
  intro W base args ds gs before hval0 hW hcnd _
  have hval : ∀ (j : Nat) t v, Try.f8.params[j]? = some t → args[j]? = some v → Value.okWide Try.prog W .any base t v := hval0
  have hW' := hW
  obtain ⟨p, q, hA0, hV, rfl, hfz, hnd⟩ := hW
  have hA : DataW.TrodAll enc Try.prog W 0 (fun _ => true) true Try.f8.params.toList args.toList ds p := hA0
  rw [Try.params8] at hA hval
  obtain ⟨v0, vs0, d0, ds0, p0, q0, hargs, rfl, rfl, h0, r0⟩ := trodAll_cons hA
  obtain ⟨v1, vs1, d1, ds1, p1, q1, rfl, rfl, rfl, h1, r1⟩ := trodAll_cons r0
  obtain ⟨v2, vs2, d2, ds2, p2, q2, rfl, rfl, rfl, h2, r2⟩ := trodAll_cons r1
  obtain ⟨rfl, rfl, rfl⟩ := trodAll_nil r2
  obtain rfl : args = #[v0, v1, v2] := by cases args; simp_all
  obtain ⟨rfl, rfl⟩ := trodVars_none hV
  have lt0 : ∀ x ∈ p0, x.block < W.heap.size := by obtain ⟨m, hm⟩ := h0; exact DataW.trod_lt m _ _ _ hm
  have lt1 : ∀ x ∈ p1, x.block < W.heap.size := by obtain ⟨m, hm⟩ := h1; exact DataW.trod_lt m _ _ _ hm
  have lt2 : ∀ x ∈ p2, x.block < W.heap.size := by obtain ⟨m, hm⟩ := h2; exact DataW.trod_lt m _ _ _ hm
  have hlaw : Ans Try.prog (fv 8) [v0, v1, v2] [heapPH W] (fun v => v = .bool true) := by
    obtain ⟨n, v, s, t, l, rfl, hl⟩ := graph_of (hval 0 _ v0 rfl rfl) (RdT.of h0)
    obtain ⟨f, hf⟩ := ints_of (hval 1 _ v1 rfl rfl) (RdT.of h1)
    obtain ⟨d, hd⟩ := ints_of (hval 2 _ v2 rfl rfl) (RdT.of h2)
    exact (bounds_law _ _ _ v v1 v2 n s t l f d hl hf hd).rsub (by simp)
  refine (law_calls Try.func8 rfl rfl hlaw).mono fun e W' ⟨he, bel⟩ => ?_
  subst he
  exact ⟨_, rfl, _, _, _, [], _, [], hW', trodAll_mk1 (shut_bool Try.underlying4 _), (trodAll_cons_mk (Below.trod Try.laidOut (by kernel_rfl) (of_decide_eq_true (by kernel_rfl)) h0 bel lt0) (trodAll_cons_mk (Below.trod Try.laidOut (by kernel_rfl) (of_decide_eq_true (by kernel_rfl)) h1 bel lt1) (trodAll_cons_mk (Below.trod Try.laidOut (by kernel_rfl) (of_decide_eq_true (by kernel_rfl)) h2 bel lt2) trodAll_mk0))), rfl, bel.frame _, fun h => by cases h⟩
theorem flowBounds_holds : Rows.FlowBoundsSaid :=
  OpenClaim.holds_of_wide 8 Try.f8 rfl rfl rfl rfl rfl rfl rfl ⟨rfl, rfl, rfl, rfl, rfl⟩ rfl rfl rfl rfl rfl (by kernel_rfl) Try.func8 (by kernel_rfl)
    (of_decide_eq_true (by kernel_rfl)) (by unfold Func.isWrapper; first | (rw [if_pos (by decide +kernel)]; kernel_rfl) | (rw [if_neg (by decide +kernel)]; exact ⟨rfl, rfl⟩))
    (fun os started H enc _ => flowBounds_lifted os started H enc)
set_option maxRecDepth 100000 in
theorem flowLeast_lifted (os : Os) (started : os.Started) (H : Type) (enc : TypeId × Value → H) :
    ReturnsInHanded {} Try.checked os 6 .any (Rows.flowLeastSpec.pre6 enc Try.prog Try.f6 Rows.flowLeastRow.domain false) (Rows.flowLeastSpec.post enc Try.prog Try.f6 false true false false) := by
  refine returnsInHanded_of_change (C := Try.checked) Try.own started (by kernel_rfl) Try.func6
    (ChangeSpec.witness6 (enc := enc) (C := Try.checked) false ⟨#[], #[.agg #[.int .i64 0, .slice none 0 0, .int .i64 0, .int .i64 0], .slice none 0 0], []⟩ 8 (by kernel_rfl) (by kernel_rfl) (by kernel_rfl) (by kernel_rfl)) ?_
  intro W base args ds gs before hval0 hW hcnd _
  have hval : ∀ (j : Nat) t v, Try.f6.params[j]? = some t → args[j]? = some v → Value.okWide Try.prog W .any base t v := hval0
  have hW' := hW
  obtain ⟨p, q, hA0, hV, rfl, hfz, hnd⟩ := hW
  have hA : DataW.TrodAll enc Try.prog W 0 (fun _ => true) true Try.f6.params.toList args.toList ds p := hA0
  rw [Try.params6] at hA hval
  obtain ⟨v0, vs0, d0, ds0, p0, q0, hargs, rfl, rfl, h0, r0⟩ := trodAll_cons hA
  obtain ⟨v1, vs1, d1, ds1, p1, q1, rfl, rfl, rfl, h1, r1⟩ := trodAll_cons r0
  obtain ⟨rfl, rfl, rfl⟩ := trodAll_nil r1
  obtain rfl : args = #[v0, v1] := by cases args; simp_all
  obtain ⟨rfl, rfl⟩ := trodVars_none hV
  have lt0 : ∀ x ∈ p0, x.block < W.heap.size := by obtain ⟨m, hm⟩ := h0; exact DataW.trod_lt m _ _ _ hm
  have lt1 : ∀ x ∈ p1, x.block < W.heap.size := by obtain ⟨m, hm⟩ := h1; exact DataW.trod_lt m _ _ _ hm
  have hlaw : Ans Try.prog (fv 6) [v0, v1] [heapPH W] (fun v => v = .bool true) := by
    obtain ⟨n, v, s, t, l, rfl, hl⟩ := graph_of (hval 0 _ v0 rfl rfl) (RdT.of h0)
    obtain ⟨d, hd⟩ := ints_of (hval 1 _ v1 rfl rfl) (RdT.of h1)
    exact (least_law _ _ v v1 n s t l d hl hd).rsub (by simp)
  refine (law_calls Try.func6 rfl rfl hlaw).mono fun e W' ⟨he, bel⟩ => ?_
  subst he
  exact ⟨_, rfl, _, _, _, [], _, [], hW', trodAll_mk1 (shut_bool Try.underlying4 _), (trodAll_cons_mk (Below.trod Try.laidOut (by kernel_rfl) (of_decide_eq_true (by kernel_rfl)) h0 bel lt0) (trodAll_cons_mk (Below.trod Try.laidOut (by kernel_rfl) (of_decide_eq_true (by kernel_rfl)) h1 bel lt1) trodAll_mk0)), rfl, bel.frame _, fun h => by cases h⟩
theorem flowLeast_holds : Rows.FlowLeastSaid :=
  OpenClaim.holds_of_wide 6 Try.f6 rfl rfl rfl rfl rfl rfl rfl ⟨rfl, rfl, rfl, rfl, rfl⟩ rfl rfl rfl rfl rfl (by kernel_rfl) Try.func6 (by kernel_rfl)
    (of_decide_eq_true (by kernel_rfl)) (by unfold Func.isWrapper; first | (rw [if_pos (by decide +kernel)]; kernel_rfl) | (rw [if_neg (by decide +kernel)]; exact ⟨rfl, rfl⟩))
    (fun os started H enc _ => flowLeast_lifted os started H enc)
end Go.Proofs.Ytoccdekghjoldaa
