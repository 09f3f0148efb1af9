/- Texts of this proof, one after the other; no conditions. -/
import Derived.WideKeyRuns
import Derived.Test.YtijheemiknkleaaGreatDoorWB6
import Derived.Test.YtijheemiknkleaaGreatDoorWB2
import Derived.Test.YtijheemiknkleaaGreatDoorWB5
import Derived.Test.YtijheemiknkleaaGreatDoorWB1
import Derived.Test.YtijheemiknkleaaGreatDoorWB4
set_option linter.all false
/- The least of labels; labels in order. -/
namespace Go.Proofs.YtijheemiknkleaaGreatDoor
open Go.Eng Go.Step
set_option maxRecDepth 100000
set_option maxHeartbeats 4000000

theorem cmpL_lt (x y : Lb) : cmpL x y < 0 ↔ x.a < y.a ∨ (x.a = y.a ∧ (x.n < y.n ∨ (x.n = y.n ∧ x.f < y.f))) := by
 unfold cmpL
 simp only [orI, cmpI]
 repeat' split
 all_goals omega
set_option maxHeartbeats 8000000 in
theorem minL_spec (ρ : PH) (v : Value) (l : List Lb) (hv : SlE encL 4 ρ v l) (hl : l.length ≤ 1000000) (h0 : 0 < l.length) :
  Ans Tryz.prog (fv 53) [v, fv 54] [ρ] (fun r => ∃ x ∈ l, (∀ y ∈ l, ¬ cmpL y x < 0) ∧ r = .agg #[int x.n, int x.f, int x.t, int x.a]) := by
 obtain ⟨q, c, rfl, hr⟩ := hv.val encL_len
 refine spec_in (cap := []) Tryz.func53 rfl rfl Tryz.ntmps53 rfl envZ (fun N β => ?_)
 have hx0 := List.getElem?_eq_getElem h0
 have hm0 := List.getElem_mem h0
 obtain ⟨b0, o0, rfl, hrd0, g0, g1, g2, g3⟩ := lbRow hr hx0
 have hI0 : ∀ y ∈ l.take 1, ¬ cmpL y l[0] < 0 := fun y hy => by
  rw [List.take_succ, hx0] at hy
  simp at hy
  subst hy
  rw [cmpL_lt]; omega
 generalize l[0] = x0 at hx0 hm0 hrd0 g0 g1 g2 g3 hI0
 clear g0 g1 g2 g3
 refine AB ?_
 refine AA ?_
 refine A4 ?_; rintro _ _ ⟨b, rfl, rfl⟩
 refine AE ?_
 refine AB ?_
 refine AB ?_
 refine AA ?_
 refine AC ?_
 refine AY ?_
 refine AZ ?_
 refine AE ?_
 refine AM rfl ?_
 refine AL ?_
 refine AB ?_
 refine AA ?_
 refine AC ?_
 refine A9 ?_
 refine AN ?_
 refine A4 ?_; rintro _ _ ⟨b, rfl, rfl⟩
 refine A2 ?_; rintro _ _ ⟨rfl, rfl⟩
 refine AE ?_
 refine AB ?_
 refine AB ?_
 refine AA ?_
 refine AD ?_
 refine AE ?_
 refine AV ?_
 revert b; intro b5
 revert b; intro b4
 refine BM [0, 1, 4, 5] (X := Nat × Lb) (1, x0) (fun z => z.1 ≤ l.length ∧ z.2 ∈ l ∧ ∀ y ∈ l.take z.1, ¬ cmpL y z.2 < 0) (fun z => [(6, int z.1)]) (fun z => [sng b5 (.cells #[int z.2.n, int z.2.f, int z.2.t, int z.2.a] 77 (0, 0)), sng b4 (.cells #[int 0, int 0, int 0, int 0] 77 (0, 0))]) (fun z => l.length - z.1) pickZ ⟨by dsimp only; omega, hm0, hI0⟩ covZ selZ ?_
 rintro ⟨k, m⟩ ⟨hk, hm, hI⟩
 dsimp only at hk hm hI ⊢
 by_cases hlt : k < l.length
 ·have hx := List.getElem?_eq_getElem hlt
  have hxm := List.getElem_mem hlt
  have htk : l.take (k + 1) = l.take k ++ [l[k]] := by rw [List.take_succ, hx]; rfl
  obtain ⟨b6, o6, e6, hrd, g0, g1, g2, g3⟩ := lbRow hr hx
  simp only [Option.some.injEq, Addr.mk.injEq, and_true] at e6
  obtain ⟨rfl, rfl⟩ := e6
  have hc := cmpL_spec l[k] m
  generalize l[k] = x at hx hxm htk hrd g0 g1 g2 g3 hc
  clear g0 g1 g2 g3
  by_cases hlt2 : cmpL x m < 0
  ·generalize hcv : cmpL x m = cv at hc hlt2
   refine AB ?_
   refine AB ?_
   refine AA ?_
   refine AC ?_
   refine AC ?_
   refine AY ?_
   refine BI ?_
   refine AE ?_
   refine AQ rfl ?_
   refine AL ?_
   refine AB ?_
   refine AV ?_
   refine AB ?_
   refine BA (.q 0 (.q 1 (.q 2 (.q 3 (.q 4 (.q 5 (.l 6 .e (.q 7 .nil)))))))) [] rfl (by kernel_rfl) selZ ?_
   refine AS ?_
   refine AS ?_
   refine AS ?_
   refine BJ ?_
   refine BL ?_
   refine BL ?_
   refine CJ (BY rfl hc rfl rfl rdZ rfl rfl ?_)
   rintro _ rfl
   refine DV ?_
   refine A7 ?_
   refine AQ rfl ?_
   refine AA ?_
   refine AC ?_
   refine AC ?_
   refine A9 ?_
   refine AN ?_
   refine A2 ?_; rintro _ _ ⟨rfl, rfl⟩
   refine AE ?_
   refine A8 ?_
   refine AA ?_
   refine AC ?_
   refine BD ?_
   refine AD ?_
   refine AE ?_
   refine A5 (k + 1, x) ⟨by dsimp only; omega, hxm, fun y hy => ?_⟩ (by dsimp only; omega) covZ selZ
   rw [← hcv, cmpL_lt] at hlt2
   dsimp only at hy ⊢
   rw [htk, List.mem_append, List.mem_singleton] at hy
   rcases hy with hy | rfl
   ·have := hI y hy
    rw [cmpL_lt] at this ⊢; omega
   ·rw [cmpL_lt]; omega
  ·generalize hcv : cmpL x m = cv at hc hlt2
   refine AB ?_
   refine AB ?_
   refine AA ?_
   refine AC ?_
   refine AC ?_
   refine AY ?_
   refine BI ?_
   refine AE ?_
   refine AQ rfl ?_
   refine AL ?_
   refine AB ?_
   refine AV ?_
   refine AB ?_
   refine BA (.q 0 (.q 1 (.q 2 (.q 3 (.q 4 (.q 5 (.l 6 .e (.q 7 .nil)))))))) [] rfl (by kernel_rfl) selZ ?_
   refine AS ?_
   refine AS ?_
   refine AS ?_
   refine BJ ?_
   refine BL ?_
   refine BL ?_
   refine CJ (BY rfl hc rfl rfl rdZ rfl rfl ?_)
   rintro _ rfl
   refine CP ?_
   refine A7 ?_
   refine AM rfl ?_
   refine AL ?_
   refine A8 ?_
   refine AA ?_
   refine AC ?_
   refine BD ?_
   refine AD ?_
   refine AE ?_
   refine A5 (k + 1, m) ⟨by dsimp only; omega, hm, fun y hy => ?_⟩ (by dsimp only; omega) covZ selZ
   rw [← hcv] at hlt2
   dsimp only at hy ⊢
   rw [htk, List.mem_append, List.mem_singleton] at hy
   rcases hy with hy | rfl
   ·exact hI y hy
   ·exact hlt2
 ·have hke : k = l.length := by omega
  subst hke
  rw [List.take_length] at hI
  refine AB ?_
  refine AB ?_
  refine AA ?_
  refine AC ?_
  refine AC ?_
  refine AY ?_
  refine AZ ?_
  refine AE ?_
  refine AM rfl ?_
  refine BE rfl ?_
  refine AB ?_
  refine AA ?_
  refine AN ?_
  refine A2 ?_; rintro _ _ ⟨rfl, rfl⟩
  refine AE ?_
  exact AI (resS1 (b1 := b4) (T := 77) (v1 := [int m.n, int m.f, int m.t, int m.a]) rfl rfl rfl rfl (cells_own memZ)) rsubZ selZ ⟨rfl, m, hm, hI, rfl⟩
theorem swoL : Go.Sort.SWO (Go.Proofs.ltOf cmpL) := by
 have h : ∀ x y, Go.Proofs.ltOf cmpL x y = true ↔ x.a < y.a ∨ (x.a = y.a ∧ (x.n < y.n ∨ (x.n = y.n ∧ x.f < y.f))) := fun x y => by unfold Go.Proofs.ltOf; rw [decide_eq_true_eq, cmpL_lt]
 have h2 : ∀ x y, Go.Proofs.ltOf cmpL x y = false ↔ ¬ (x.a < y.a ∨ (x.a = y.a ∧ (x.n < y.n ∨ (x.n = y.n ∧ x.f < y.f)))) := fun x y => by rw [← h x y, Bool.not_eq_true]
 refine ⟨fun x => (h2 x x).2 (by omega), fun x y z a b => (h x z).2 ?_, fun x y z a b => (h2 x z).2 ?_⟩
 ·have a := (h x y).1 a; have b := (h y z).1 b; omega
 ·have a := (h2 x y).1 a; have b := (h2 y z).1 b; omega
instance : Inhabited Lb := ⟨⟨0, 0, 0, 0⟩⟩
theorem one_Lb (x : Lb) : ∀ u ∈ encL x, u.oneCell' = true := by
 intro u hu
 simp only [encL, List.mem_cons, List.not_mem_nil, or_false] at hu
 rcases hu with rfl | rfl | rfl | rfl <;> rfl
theorem sortL_spec (σ : PH) (v : Value) (l : List Lb) (hO : OwnS 77 4 v l.length (l.flatMap encL) σ) (hl : l.length ≤ 1000000) :
  Eng.Spec Tryz.prog (fv 60) [v, fv 54] [] [σ] (fun r H' => r = .tuple #[] ∧ ∃ (m : List Lb) (σ' : PH), m.Perm l ∧ m.Pairwise (fun x y => ¬ cmpL y x < 0) ∧ OwnS 77 4 v m.length (m.flatMap encL) σ' ∧ H' = [σ']) :=
 sortF_of (f := 60) (g := 54) (enc := encL) (cf := cmpL) Tryz.func60 rfl rfl Tryz.func54 rfl rfl encL_len
  (fun blk cap d w hc hH hb hs => Go.Proofs.AnyQ.slices_SortFunc Tryz.layLb 4 Tryz.isAgg77 Tryz.sizeOf77 encL encL_len one_Lb cmpL swoL 54 #[] blk 0 cap d w (Go.Proofs.enters_of Tryz.func54 (by kernel_rfl) rfl) hc hH hb hs)
  (fun p cap w => Go.Proofs.AnyF.slices_SortFunc_none { Tryz.layLb with } p cap (fv 54) w)
  (fun x y => cmpL_spec x y) hO (by omega)
end Go.Proofs.YtijheemiknkleaaGreatDoor
/- The labels of a search. -/
namespace Go.Proofs.YtijheemiknkleaaGreatDoor
open Go.Eng Go.Step
set_option maxRecDepth 100000
set_option maxHeartbeats 4000000

theorem oneO {e : TypeId} {s : Nat} : ∀ z n (xs : List Value) (χ : PH), OwnS e s z n xs χ → z.oneCell' = true := fun z n xs χ h => by obtain ⟨_, _, rfl⟩ := h.form; rfl
set_option maxHeartbeats 32000000 in
theorem labels_spec {γ τ : PH} {A : GA} {G : Gr} (hG : GrAt γ τ A G) (hg : GOK G) :
  Makes Tryz.prog (fv 21) [gp A] [γ, τ] (fun r χ => ∃ L, LabR G L ∧ OwnS 77 4 r L.length (L.flatMap encL) χ) := by
 have hit := fun c1 c2 (x : Lb) hx => moves_iter hG hg c1 c2 x hx
 obtain ⟨bA, pq, nq, kq, pc, kc, pg, kg, pr, kr, pd, kd⟩ := A
 obtain ⟨qv, hnq, cv, src, dst, rdy, dln, cus, gv, rv, dv, hcs, gaps, rooms, durs⟩ := hG
 dsimp only at qv hnq cv src dst rdy dln cus gv rv dv hcs gaps rooms durs hit ⊢
 show Makes Tryz.prog _ [.pointer (some ⟨bA, 0, none⟩)] _ _
 have hq := hg.q
 obtain ⟨ms0, hms0⟩ := Int.eq_ofNat_of_zero_le hq.1
 have hlt0 : ms0 < G.rooms.length := by omega
 have hR0 := List.getElem?_eq_getElem hlt0
 have hRR := hg.room _ (List.mem_of_getElem? hR0)
 obtain ⟨b1, o1, q1, k1, rfl, h1, hS⟩ := rooms _ _ hR0
 have hbeg : begs G = ((G.rooms[ms0]).filter (fun p => decide (p.1 ≤ G.q.rdy) && decide (G.q.rdy < p.2))).map (fun p => ⟨G.q.src, p.1, p.2, G.q.rdy⟩) := by
  unfold begs
  rw [hms0, Int.toNat_natCast, getD_at hR0]
 generalize G.rooms[ms0] = L at hR0 hRR h1 hS hbeg
 obtain ⟨_, _, ew, hrw⟩ := SlE.val (enc := encS) encS_len hS
 simp only [Value.slice.injEq] at ew
 obtain ⟨rfl, _, rfl⟩ := ew
 have src : rdc γ bA 4 = some (int (ms0 : Int)) := by rw [← hms0]; exact src
 refine spec_in (cap := []) Tryz.func21 rfl rfl Tryz.ntmps21 rfl envZ (fun N β => ?_)
 refine AB ?_
 refine AA ?_
 refine BF (C7 rfl rfl) rfl rfl rfl ?_
 rintro _ _ ⟨b2, rfl, rfl⟩
 refine AU (ρ := sng b2 _) takeZ ?_
 have g0 : rdc (sng b2 (.cells #[.pointer (some ⟨bA, 0, none⟩)] 67 (0, 0))) b2 0 = some (.pointer (some ⟨bA, 0, none⟩)) := by rw [rdc_sng]; rfl
 refine CA ?_
 refine AD ?_
 refine AE ?_
 refine AB ?_
 refine AA ?_
 refine BS ?_; rintro _ _ ⟨b, rfl, rfl⟩
 refine BS ?_; rintro _ _ ⟨b, rfl, rfl⟩
 refine AE ?_
 refine AB ?_
 refine AB ?_
 revert b; intro b4
 revert b; intro b3
 refine BA (.q 0 (.q 1 (.q 2 (.q 3 (.q 4 (.q 5 (.q 6 (.q 7 (.q 8 (.q 9 (.q 10 (.q 11 (.q 12 .nil))))))))))))) [] rfl (by kernel_rfl) Sel.nil ?_
 refine AP ?_
 refine A6 ?_
 refine AW ?_
 refine AP ?_
 refine AP ?_
 refine A6 ?_
 refine AW ?_
 refine B8 ?_
 refine AP ?_
 refine C1 ?_
 refine AP ?_
 refine E4 ?_
 refine AS ?_
 refine A7 ?_
 refine AV ?_
 refine BM [1, 2, 3, 4, 19, 20] (X := Nat × (Value × PH)) (0, (.slice none 0 0, emp)) (fun z => z.1 ≤ L.length ∧ OwnS 77 4 z.2.1 (((L.take z.1).filter (fun p => decide (p.1 ≤ G.q.rdy) && decide (G.q.rdy < p.2))).map (fun p => (⟨ms0, p.1, p.2, G.q.rdy⟩ : Lb))).length ((((L.take z.1).filter (fun p => decide (p.1 ≤ G.q.rdy) && decide (G.q.rdy < p.2))).map (fun p => (⟨ms0, p.1, p.2, G.q.rdy⟩ : Lb))).flatMap encL) z.2.2) (fun z => [(21, int z.1)]) (fun z => [sng b4 (.cells #[z.2.1] 41 (0, 0)), sng b3 (.cells #[.slice none 0 0] 41 (0, 0)), z.2.2]) (fun z => L.length - z.1) pickZ ⟨by dsimp only; omega, OwnS.nil _ _⟩ covZ selZ ?_
 rintro ⟨k, u, σ⟩ ⟨hk, hO⟩
 dsimp only at hk hO ⊢
 have hu := oneO _ _ _ _ hO
 by_cases hlt : k < L.length
 ·have hx := List.getElem?_eq_getElem hlt
  have hlen : (((L.take k).filter (fun p => decide (p.1 ≤ G.q.rdy) && decide (G.q.rdy < p.2))).map (fun p => (⟨ms0, p.1, p.2, G.q.rdy⟩ : Lb))).length ≤ 70 := by
   have := List.length_filter_le (fun p : Int × Int => decide (p.1 ≤ G.q.rdy) && decide (G.q.rdy < p.2)) (L.take k)
   rw [List.length_take] at this
   rw [List.length_map]; omega
  have hnx : ((L.take (k + 1)).filter (fun p => decide (p.1 ≤ G.q.rdy) && decide (G.q.rdy < p.2))).map (fun p => (⟨ms0, p.1, p.2, G.q.rdy⟩ : Lb)) = ((L.take k).filter (fun p => decide (p.1 ≤ G.q.rdy) && decide (G.q.rdy < p.2))).map (fun p => (⟨ms0, p.1, p.2, G.q.rdy⟩ : Lb)) ++ (if L[k].1 ≤ G.q.rdy ∧ G.q.rdy < L[k].2 then [⟨ms0, L[k].1, L[k].2, G.q.rdy⟩] else []) := by
   rw [List.take_add_one, hx, List.filter_append, List.map_append]
   congr 1
   by_cases c1 : L[k].1 ≤ G.q.rdy <;> by_cases c2 : G.q.rdy < L[k].2 <;> simp [c1, c2]
  obtain ⟨b6, o6, e6, hRd6, y0, y1⟩ := spRow hrw hx
  generalize L[k] = p at hx hRd6 y0 y1 hnx
  generalize ((L.take k).filter (fun p => decide (p.1 ≤ G.q.rdy) && decide (G.q.rdy < p.2))).map (fun p => (⟨ms0, p.1, p.2, G.q.rdy⟩ : Lb)) = Q at hO hnx hlen
  subst e6
  by_cases c1 : p.1 ≤ G.q.rdy
  rotate_left
  ·rw [if_neg (by omega), List.append_nil] at hnx
   refine AB ?_
   refine AA ?_
   refine BI ?_
   refine AE ?_
   refine AB ?_
   refine AQ rfl ?_
   refine AL ?_
   refine AB ?_
   refine AV ?_
   refine AB ?_
   refine AA ?_
   refine A9 ?_
   refine AN ?_
   refine A4 ?_; rintro _ _ ⟨b, rfl, rfl⟩
   refine A2 ?_; rintro _ _ ⟨rfl, rfl⟩
   refine AE ?_
   refine AB ?_
   refine BA (.q 0 (.q 1 (.q 2 (.q 3 (.q 4 (.q 5 (.q 6 (.q 7 (.q 8 (.q 9 (.q 10 (.q 11 (.q 12 (.q 13 (.q 14 (.q 15 (.q 16 (.q 17 .nil)))))))))))))))))) [] rfl (by kernel_rfl) Sel.nil ?_
   refine AW ?_
   refine AP ?_
   refine AP ?_
   refine A6 ?_
   refine AW ?_
   refine BU ?_
   refine AP ?_
   refine E6 ?_
   refine AS ?_
   refine AR rfl rfl rfl rfl rfl ?_
   refine AR rfl rfl rfl rfl rfl ?_
   refine AR rfl rfl rfl rfl rfl ?_
   refine AR rfl rfl rfl rfl rfl ?_
   refine AR rfl rfl rfl rfl rfl ?_
   refine AR rfl rfl rfl rfl rfl ?_
   refine AR rfl rfl rfl rfl rfl ?_
   refine AR rfl rfl rfl rfl rfl ?_
   refine BB ?_
   refine A7 ?_
   refine AM rfl ?_
   refine AL ?_
   refine A8 ?_
   refine AA ?_
   refine BD ?_
   refine AC ?_
   refine AE ?_
   exact A5 (k + 1, (u, σ)) ⟨by dsimp only; omega, by dsimp only; rw [hnx]; exact hO⟩ (by dsimp only; omega) covZ selZ
  by_cases c2 : G.q.rdy < p.2
  rotate_left
  ·rw [if_neg (by omega), List.append_nil] at hnx
   refine AB ?_
   refine AA ?_
   refine BI ?_
   refine AE ?_
   refine AB ?_
   refine AQ rfl ?_
   refine AL ?_
   refine AB ?_
   refine AV ?_
   refine AB ?_
   refine AA ?_
   refine A9 ?_
   refine AN ?_
   refine A4 ?_; rintro _ _ ⟨b, rfl, rfl⟩
   refine A2 ?_; rintro _ _ ⟨rfl, rfl⟩
   refine AE ?_
   refine AB ?_
   refine BA (.q 0 (.q 1 (.q 2 (.q 3 (.q 4 (.q 5 (.q 6 (.q 7 (.q 8 (.q 9 (.q 10 (.q 11 (.q 12 (.q 13 (.q 14 (.q 15 (.q 16 (.q 17 .nil)))))))))))))))))) [] rfl (by kernel_rfl) Sel.nil ?_
   refine AW ?_
   refine AP ?_
   refine AP ?_
   refine A6 ?_
   refine AW ?_
   refine BU ?_
   refine AP ?_
   refine FL ?_
   refine AS ?_
   refine AP ?_
   refine A6 ?_
   refine AW ?_
   refine BU ?_
   refine AP ?_
   refine AW ?_
   refine AP ?_
   refine CP ?_
   refine BK ?_
   refine A7 ?_
   refine AM rfl ?_
   refine AL ?_
   refine A8 ?_
   refine AA ?_
   refine BD ?_
   refine AC ?_
   refine AE ?_
   exact A5 (k + 1, (u, σ)) ⟨by dsimp only; omega, by dsimp only; rw [hnx]; exact hO⟩ (by dsimp only; omega) covZ selZ
  rw [if_pos ⟨c1, c2⟩] at hnx
  refine AB ?_
  refine AA ?_
  refine BI ?_
  refine AE ?_
  refine AB ?_
  refine AQ rfl ?_
  refine AL ?_
  refine AB ?_
  refine AV ?_
  refine AB ?_
  refine AA ?_
  refine A9 ?_
  refine AN ?_
  refine A4 ?_; rintro _ _ ⟨b, rfl, rfl⟩
  refine A2 ?_; rintro _ _ ⟨rfl, rfl⟩
  refine AE ?_
  refine AB ?_
  refine BA (.q 0 (.q 1 (.q 2 (.q 3 (.q 4 (.q 5 (.q 6 (.q 7 (.q 8 (.q 9 (.q 10 (.q 11 (.q 12 (.q 13 (.q 14 (.q 15 (.q 16 (.q 17 .nil)))))))))))))))))) [] rfl (by kernel_rfl) Sel.nil ?_
  refine AW ?_
  refine AP ?_
  refine AP ?_
  refine A6 ?_
  refine AW ?_
  refine BU ?_
  refine AP ?_
  refine FL ?_
  refine AS ?_
  refine AP ?_
  refine A6 ?_
  refine AW ?_
  refine BU ?_
  refine AP ?_
  refine AW ?_
  refine AP ?_
  refine DV ?_
  refine BK ?_
  refine A7 ?_
  refine AQ rfl ?_
  refine BA (.q 0 (.q 1 (.q 2 (.q 3 (.q 4 (.q 5 (.q 6 (.q 7 (.q 8 (.q 9 (.q 10 (.q 11 (.q 12 (.q 13 (.q 14 (.q 15 (.l 16 .e (.l 17 .b (.l 18 .b .nil))))))))))))))))))) [] rfl (by kernel_rfl) Sel.nil ?_
  refine AP ?_
  refine AP ?_
  refine A6 ?_
  refine AW ?_
  refine B8 ?_
  refine AP ?_
  refine AW ?_
  refine AP ?_
  refine AW ?_
  refine AP ?_
  refine AP ?_
  refine A6 ?_
  refine AW ?_
  refine BU ?_
  refine AP ?_
  refine D6 ?_
  refine B0 ?_; rintro _ _ ⟨b, rfl, rfl⟩
  refine CJ (a_b rfl (B5 (by_ := 32) (s := 4) (news := [int (ms0 : Int), int p.1, int p.2, int G.q.rdy]) rfl rfl rfl rfl rfl rfl rfl hO takeZ (cells_own memZ) rfl (by (repeat (first | exact (fun v hv => absurd hv List.not_mem_nil) | (refine List.forall_mem_cons.2 ⟨?_, ?_⟩; (focus (first | exact rfl | assumption))))); first | done | fail) (by omega) (by simp only [maxLen]; omega) (by omega)) rfl rfl rfl (fun _ _ _ w hw => hw.sel Sel.nil) ?_)
  rintro u1 _ ⟨σ1, hO1, rfl⟩
  have hu1 := oneO _ _ _ _ hO1
  refine CK ?_; rintro _ _ ⟨rfl, rfl⟩
  refine A7 ?_
  refine A8 ?_
  refine AA ?_
  refine BD ?_
  refine AC ?_
  refine AE ?_
  refine A5 (k + 1, (u1, σ1)) ⟨by dsimp only; omega, ?_⟩ (by dsimp only; omega) covZ selZ
  dsimp only
  rw [hnx, List.length_append, List.flatMap_append]
  exact hO1
 have hke : k = L.length := by omega
 subst hke
 rw [List.take_length] at hO
 rw [hms0] at hbeg
 rw [← hbeg] at hO
 refine CA ?_
 refine CA ?_
 refine AB ?_
 refine AA ?_
 refine AZ ?_
 refine AE ?_
 refine AB ?_
 refine AM rfl ?_
 refine BE rfl ?_
 refine AB ?_
 refine AV ?_
 refine DM [1, 2, 3, 4] (X := ((List Lb × List Lb) × (Value × Value)) × ((PH × PH) × (List Nat × PH))) ((([], begs G), (.slice none 0 0, u)), ((emp, σ), ([], emp))) (fun x => x.2.2.1.map mk) (fun x => LabI G x.1.1.1 x.1.1.2 ∧ OwnS 77 4 x.1.2.1 x.1.1.1.length (x.1.1.1.flatMap encL) x.2.1.1 ∧ OwnS 77 4 x.1.2.2 x.1.1.2.length (x.1.1.2.flatMap encL) x.2.1.2 ∧ MkIn x.2.2.2 x.2.2.1) (fun _ => []) (fun x => [sng b4 (.cells #[x.1.2.2] 41 (0, 0)), sng b3 (.cells #[x.1.2.1] 41 (0, 0)), x.2.1.2, x.2.1.1, x.2.2.2]) (fun x => 421 - x.1.1.1.length) pickZ rfl ⟨LabI.zero hg, OwnS.nil _ _, hO, MkIn.nil⟩ covZ selZ ?_
 clear hO hu hbeg
 rintro ⟨⟨⟨D, O⟩, ⟨dv, ov⟩⟩, ⟨⟨σD, σO⟩, ⟨ms, μ⟩⟩⟩ ⟨hI, hOD, hOO, hM⟩
 dsimp only at hI hOD hOO hM ⊢
 have hd1 := oneO _ _ _ _ hOD
 have ho1 := oneO _ _ _ _ hOO
 have hfew := hI.few hg
 have hol := hI.len
 obtain ⟨po, ko, rfl⟩ := hOO.form
 by_cases h0 : 0 < O.length
 rotate_left
 ·have hO0 : O = [] := List.length_eq_zero_iff.1 (by omega)
  subst hO0
  have hsort := sortL_spec σD dv D hOD (by omega)
  refine AB ?_
  refine AB ?_
  refine AA ?_
  refine AF ?_
  refine AY ?_
  refine BO ?_
  refine AE ?_
  refine AM rfl ?_
  refine BE rfl ?_
  refine AB ?_
  refine AA ?_
  refine AF ?_
  refine BT hsort rfl rfl takesZ rdZ rfl rfl ?_
  rintro _ _ ⟨rfl, Lf, σF, hp, hpw, hOF, rfl⟩
  refine AE ?_
  refine AB ?_
  refine AA ?_
  refine AF ?_
  refine AD ?_
  refine AE ?_
  exact DI hM takeZ (res1 rfl rfl) rsubZ selZ ⟨σF, ⟨Lf, hI.done hg hp, hOF⟩, rfl⟩
 have hmn := minL_spec σO _ O hOO.at (by omega) h0
 refine AB ?_
 refine AB ?_
 refine AA ?_
 refine AF ?_
 refine AY ?_
 refine CH ?_
 refine AE ?_
 refine AQ rfl ?_
 refine AL ?_
 refine AV ?_
 refine AB ?_
 refine AA ?_
 refine AF ?_
 refine A3 hmn rfl rfl rdZ rfl rfl ?_
 rintro _ ⟨x, hx, hmin, rfl⟩
 refine A4 ?_; rintro _ _ ⟨b, rfl, rfl⟩
 refine A2 ?_; rintro _ _ ⟨rfl, rfl⟩
 refine AE ?_
 refine AB ?_
 refine AA ?_
 refine AF ?_
 refine BX ?_
 revert b; intro b7
 refine AU (ρ := sng b7 _) takeZ ?_
 have hmin2 : ∀ y ∈ O, x.a ≤ y.a := fun y hy => by
  have := hmin y hy
  rw [cmpL_lt] at this
  omega
 have hxa := fine_bd hg (rch_fine hg (hI.rch x (by simp [hx])))
 have hI2 := hI.step hg hx hmin2
 have hfew2 := hI2.few hg
 rw [List.length_append, List.length_singleton] at hfew2
 clear hmin
 have cb : RdN (sng b7 (.cells #[int x.n, int x.f, int x.t, int x.a] 77 (0, 0))) b7 0 [int x.n, int x.f, int x.t, int x.a] := rdN_sng (vs := [int x.n, int x.f, int x.t, int x.a])
 have hdel := deleteL_spec σO _ O hOO (by omega) _ (fun y => sameL x y) [sng b7 (.cells #[int x.n, int x.f, int x.t, int x.a] 77 (0, 0))] (fun y => del1_spec b7 x y)
 have hOl := List.length_filter_le (fun y => !sameL x y) O
 generalize O.filter (fun y => !sameL x y) = O1 at hI2 hdel hOl
 skip
 refine BT hdel rfl rfl takesZ rdZ rfl rfl ?_
 rintro ov1 _ ⟨σO1, hOO1, rfl⟩
 have ho2 := oneO _ _ _ _ hOO1
 simp only [List.cons_append, List.nil_append]
 refine BH ?_; rintro _ _ ⟨rfl, rfl⟩
 refine AE ?_
 refine AB ?_
 refine AA ?_
 refine AF ?_
 refine AN ?_
 refine BR ?_; rintro _ _ ⟨b, rfl, rfl⟩
 revert b; intro bn
 refine BF (B5 (by_ := 32) (s := 4) (news := [int x.n, int x.f, int x.t, int x.a]) rfl rfl rfl rfl rfl rfl rfl hOD takeZ (cells_own memZ) rfl (by (repeat (first | exact (fun v hv => absurd hv List.not_mem_nil) | (refine List.forall_mem_cons.2 ⟨?_, ?_⟩; (focus (first | exact rfl | assumption))))); first | done | fail) (by omega) (by simp only [maxLen]; omega) (by omega)) rfl rfl rfl ?_
 rintro dv1 _ ⟨σD1, hOD1, rfl⟩
 have hd2 := oneO _ _ _ _ hOD1
 have hOD2 : OwnS 77 4 dv1 (D ++ [x]).length ((D ++ [x]).flatMap encL) σD1 := by
  rw [List.length_append, List.flatMap_append]; exact hOD1
 clear hOD1 hOD hOO
 have hit1 := fun c1 c2 => hit c1 c2 x (by omega)
 have hmv := moves_spec bA x
 refine BH ?_; rintro _ _ ⟨rfl, rfl⟩
 refine AE ?_
 refine AB ?_
 refine AA ?_
 refine AF ?_
 refine AN ?_
 refine BT hmv rfl rfl takesZ rdZ rfl rfl ?_
 rintro _ _ ⟨c1, c2, rfl, rfl⟩
 simp only [List.cons_append, List.nil_append]
 refine AU (ρ := sng c2 _) takeZ ?_
 refine AU (ρ := sng c1 _) takeZ ?_
 refine AE ?_
 refine AV ?_
 have hml := mvs_len hg x
 have hnl : ∀ j, (newL G (D ++ [x]) ((mvs G x).take j)).length ≤ 770 := fun j => by
  have h4 := List.length_filter_le (fun m : Lb × Hp => decide (m.1.n ≠ G.q.dst) && !(D ++ [x]).any (sameL m.1)) ((mvs G x).take j)
  unfold newL
  rw [List.length_map]
  rw [List.length_take] at h4
  omega
 have hO10 : OwnS 77 4 ov1 (O1 ++ newL G (D ++ [x]) ((mvs G x).take 0)).length ((O1 ++ newL G (D ++ [x]) ((mvs G x).take 0)).flatMap encL) σO1 := by
  have e : O1 ++ newL G (D ++ [x]) ((mvs G x).take 0) = O1 := by simp [newL]
  rw [e]; exact hOO1
 refine CW (gf := 103) (cap := [.pointer (some ⟨c1, 0, none⟩), .pointer (some ⟨c2, 0, none⟩)]) (ps := [77]) (X := Value × PH) rfl Tryz.func103 rfl rfl
  (hit1 c1 c2) ?_ (fun j z => OwnS 77 4 z.1 (O1 ++ newL G (D ++ [x]) ((mvs G x).take j)).length ((O1 ++ newL G (D ++ [x]) ((mvs G x).take j)).flatMap encL) z.2) (fun z => [sng b4 (.cells #[z.1] 41 (0, 0)), sng b3 (.cells #[dv1] 41 (0, 0)), z.2, σD1]) (fun _ _ => False) (ov1, σO1) rfl takesZ hO10 ?_ ?_ ?_
 ·intro σ' hσ
  simp only [List.mem_cons, List.not_mem_nil, or_false] at hσ ⊢
  rcases hσ with h | h | h | h <;> simp [h]
 ·rintro lo r j ⟨ov2, σO2⟩ vs hvs hO2 hps has hbd hst hpe hfr
  dsimp only at hO2 ⊢
  have ho3 := oneO _ _ _ _ hO2
  obtain ⟨st, pe, fnn, tm, prm, asg, bdy, df⟩ := r
  simp only at hps has hbd hst hpe hfr
  subst hps has hbd hst hpe
  rw [List.getElem?_map] at hvs
  obtain ⟨m, hm, rfl⟩ := Option.map_eq_some_iff.1 hvs
  have hnx := newL_next (G := G) (D := D ++ [x]) hm
  have hnj := hnl j
  refine yield_spec hfr rfl (by intro p hp; simp at hp; omega) putiZ (fun N' β' => ?_)
  unfold encM
  generalize newL G (D ++ [x]) ((mvs G x).take j) = Q at hO2 hnx hnj
  refine AA ?_
  refine A4 ?_; rintro _ _ ⟨b, rfl, rfl⟩
  refine A2 ?_; rintro _ _ ⟨rfl, rfl⟩
  refine AE ?_
  revert b; intro b8
  refine CN rfl rfl ?_
  refine CV takeZ rfl ?_
  refine AU (ρ := sng b8 _) takeZ ?_
  have m0 : rdc (sng b8 (.cells #[int m.1.n, int m.1.f, int m.1.t, int m.1.a, int m.2.c, int m.2.b, int m.2.e, int m.2.a] 137 (0, 0))) b8 0 = some (int m.1.n) := by rw [rdc_sng]; rfl
  have mP : RdP (sng b8 (.cells #[int m.1.n, int m.1.f, int m.1.t, int m.1.a, int m.2.c, int m.2.b, int m.2.e, int m.2.a] 137 (0, 0))) b8 0 [int m.1.n, int m.1.f, int m.1.t, int m.1.a] := rdP_sng (xs := [int m.1.n, int m.1.f, int m.1.t, int m.1.a, int m.2.c, int m.2.b, int m.2.e, int m.2.a]) rfl
  by_cases q1 : m.1.n = G.q.dst
  ·rw [if_neg (by simp [q1]), List.append_nil] at hnx
   refine AV ?_
   refine AB ?_
   refine BA (.q 0 (.q 1 (.q 2 (.q 3 (.q 4 (.q 5 (.q 6 (.q 7 (.q 8 (.q 9 (.q 10 (.q 11 (.q 12 (.q 13 (.q 14 .nil))))))))))))))) [] rfl (by kernel_rfl) selZ ?_
   refine AW ?_
   refine AW ?_
   refine AP ?_
   refine AP ?_
   refine A6 ?_
   refine AW ?_
   refine BU ?_
   refine AP ?_
   refine E5 ?_
   refine AS ?_
   refine AR rfl rfl rfl rfl rfl ?_
   refine AR rfl rfl rfl rfl rfl ?_
   refine AR rfl rfl rfl rfl rfl ?_
   refine AR rfl rfl rfl rfl rfl ?_
   refine BB ?_
   refine A7 ?_
   refine AM rfl ?_
   refine AL ?_
   refine A8 ?_
   exact B3 takeZ rsubZ selZ ⟨(ov2, σO2), .inl ⟨rfl, by dsimp only; rw [hnx]; exact hO2, rfl⟩⟩
  have hco := contL_spec σD1 _ (D ++ [x]) hOD2.at (by rw [List.length_append, List.length_singleton]; omega) _ (fun y => sameL m.1 y) _ (fun y => in2_spec b8 m y)
  cases hany : (D ++ [x]).any (fun y => sameL m.1 y) with
  | true =>
   rw [hany] at hco
   rw [if_neg (by simp only [not_and]; intro _ h2; rw [show (D ++ [x]).any (sameL m.1) = true from hany] at h2; cases h2), List.append_nil] at hnx
   refine AV ?_
   refine AB ?_
   refine BA (.q 0 (.q 1 (.q 2 (.q 3 (.q 4 (.q 5 (.q 6 (.q 7 (.q 8 (.q 9 (.q 10 (.q 11 (.l 12 .e (.q 13 (.q 14 .nil))))))))))))))) [] rfl (by kernel_rfl) selZ ?_
   refine AW ?_
   refine AW ?_
   refine AP ?_
   refine AP ?_
   refine A6 ?_
   refine AW ?_
   refine BU ?_
   refine AP ?_
   refine EW ?_
   refine AS ?_
   refine AP ?_
   refine DC ?_
   refine CJ (BY rfl hco rfl rfl rdZ rfl rfl ?_)
   rintro _ rfl
   refine CG ?_
   refine BK ?_
   refine A7 ?_
   refine AM rfl ?_
   refine AL ?_
   refine A8 ?_
   exact B3 takeZ rsubZ selZ ⟨(ov2, σO2), .inl ⟨rfl, by dsimp only; rw [hnx]; exact hO2, rfl⟩⟩
  | false =>
   rw [hany] at hco
   rw [if_pos ⟨q1, hany⟩] at hnx
   refine AV ?_
   refine AB ?_
   refine BA (.q 0 (.q 1 (.q 2 (.q 3 (.q 4 (.q 5 (.q 6 (.q 7 (.q 8 (.q 9 (.q 10 (.q 11 (.l 12 .e (.q 13 (.q 14 .nil))))))))))))))) [] rfl (by kernel_rfl) selZ ?_
   refine AW ?_
   refine AW ?_
   refine AP ?_
   refine AP ?_
   refine A6 ?_
   refine AW ?_
   refine BU ?_
   refine AP ?_
   refine EW ?_
   refine AS ?_
   refine AP ?_
   refine DC ?_
   refine CJ (BY rfl hco rfl rfl rdZ rfl rfl ?_)
   rintro _ rfl
   refine CG ?_
   refine BK ?_
   refine A7 ?_
   refine AQ rfl ?_
   refine AA ?_
   refine AF ?_
   refine AG ?_
   refine AN ?_
   refine BR ?_; rintro _ _ ⟨b, rfl, rfl⟩
   revert b; intro bn2
   have hlq : (O1 ++ Q).length = O1.length + Q.length := List.length_append
   refine BF (B5 (by_ := 32) (s := 4) (news := [int m.1.n, int m.1.f, int m.1.t, int m.1.a]) rfl rfl rfl rfl rfl rfl rfl hO2 takeZ (cells_own memZ) rfl (by (repeat (first | exact (fun v hv => absurd hv List.not_mem_nil) | (refine List.forall_mem_cons.2 ⟨?_, ?_⟩; (focus (first | exact rfl | assumption))))); first | done | fail) (by omega) (by simp only [maxLen]; omega) (by omega)) rfl rfl rfl ?_
   rintro ov3 _ ⟨σO3, hO3, rfl⟩
   have ho4 := oneO _ _ _ _ hO3
   refine BH ?_; rintro _ _ ⟨rfl, rfl⟩
   refine AE ?_
   refine A8 ?_
   refine B3 takeZ rsubZ selZ ⟨(ov3, σO3), .inl ⟨rfl, ?_, rfl⟩⟩
   dsimp only
   have e : ∀ W : List Lb, OwnS 77 4 ov3 (W.length + 1) (W.flatMap encL ++ [int m.1.n, int m.1.f, int m.1.t, int m.1.a]) σO3 → OwnS 77 4 ov3 (W ++ [m.1]).length ((W ++ [m.1]).flatMap encL) σO3 := fun W h => by
    rw [List.length_append, List.flatMap_append]; exact h
   rw [hnx, ← List.append_assoc]
   exact e _ hO3
 ·rintro bm ⟨ov2, σO2⟩ hO2
  dsimp only at hO2 ⊢
  simp only [List.cons_append, List.nil_append]
  rw [List.length_map, List.take_length] at hO2
  refine DL (R' := [sng b2 (.cells #[.pointer (some ⟨bA, 0, none⟩)] 67 (0, 0)), β, γ, τ]) (by intro σ hσ; simp at hσ ⊢; rcases hσ with h | h | h | h <;> simp [h]) ?_
  refine CT (b := bm) takeZ (μ := μ) takeZ hM ?_
  intro μ2 hM2
  refine A8 ?_
  refine A8 ?_
  exact C9 ((((D ++ [x]), (O1 ++ newL G (D ++ [x]) (mvs G x))), (dv1, ov2)), ((σD1, σO2), (bm :: ms, μ2))) rfl ⟨hI2, hOD2, hO2, hM2⟩ (by dsimp only; rw [List.length_append, List.length_singleton]; omega) covZ selZ
 ·rintro bm cc o' hf
  exact hf.elim
end Go.Proofs.YtijheemiknkleaaGreatDoor
/- Shipments and stocks, of the reference. -/
namespace Go.Proofs.YtijheemiknkleaaGreatDoor
open Go.Eng Go.Step
set_option maxRecDepth 100000
set_option maxHeartbeats 4000000

end Go.Proofs.YtijheemiknkleaaGreatDoor
/- Stocks, of the reference. -/
namespace Go.Proofs.YtijheemiknkleaaGreatDoor
open Go.Eng Go.Step
set_option maxRecDepth 100000
set_option maxHeartbeats 4000000

end Go.Proofs.YtijheemiknkleaaGreatDoor
/- Flow, of the reference. -/
namespace Go.Proofs.YtijheemiknkleaaGreatDoor
open Go.Eng Go.Step
set_option maxRecDepth 100000
set_option maxHeartbeats 4000000

end Go.Proofs.YtijheemiknkleaaGreatDoor
/- Joins and meets of cuts: submodular. No program in sight. No conditions. -/
namespace Go.Step
theorem stored_none {n t : Int} : ∀ {l : List Hd}, (∀ g ∈ l, g.n = n → ¬ (g.a ≤ t ∧ t < g.b)) → stored l n t = 0
  | [], _ => rfl
  | h :: l, hh => by
    unfold stored
    rw [stored_none (fun g hg => hh g (by simp [hg])), if_neg (fun hc => hh h (by simp) hc.1 hc.2)]
    rfl
theorem fits_all {l : List Hd} {nq : Nat} (hok : ∀ h ∈ l, okHd nq h) {n Q t : Int} (hQ : 0 ≤ Q) (hf : ∀ h ∈ l, h.n = n → stored l n h.a ≤ Q) : stored l n t ≤ Q := by
  rcases last_active (n := n) (t := t) l with h | ⟨h, hm, hn, ha, hlast⟩
  · rw [stored_none h]; exact hQ
  · refine Int.le_trans (stored_mono (s := h.a) (fun g hg => ⟨?_, fun h1 h2 h3 => ⟨hlast g hg h1 h2 h3, by omega⟩⟩)) (hf h hm hn)
    have := (hok g hg).2.2.1
    omega
theorem room_nonneg {qs : List Int} {hs : List Hd} (hquo : ∀ (j : Nat) (q : Int), qs[j]? = some q → 0 ≤ q ∧ q ≤ 1073741824) (hok : ∀ h ∈ hs, okHd qs.length h) (hfit : fitB qs hs = true) (d : Dm) (n : Nat) (hn : n < qs.length) (t : Int) : 0 ≤ roomT qs hs d n t := by
  unfold roomT
  split
  · omega
  have hx := List.getElem?_eq_getElem hn
  have hq := hquo n _ hx
  rw [Int.toNat_natCast, List.getD_eq_getElem?_getD, hx, Option.getD_some]
  have hf := List.all_eq_true.1 hfit
  have := fits_all (n := (n : Int)) (t := t) hok hq.1 (fun h hh hn' => by
    have h2 := of_decide_eq_true (hf h hh)
    rw [hn', Int.toNat_natCast, List.getD_eq_getElem?_getD, hx, Option.getD_some] at h2
    exact h2)
  omega
def SetsC (c : Cu) : Prop := ∀ l ∈ c, chkI l = 0 ∧ l.length ≤ 500
theorem SetsC.at {c : Cu} (h : SetsC c) (n : Int) : chkI (cuAt c n) = 0 ∧ (cuAt c n).length ≤ 500 := by
  unfold cuAt
  rw [List.getD_eq_getElem?_getD]
  cases e : c[n.toNat]? with
  | none => exact ⟨by decide, by simp⟩
  | some l => exact h l (List.mem_of_getElem? e)
end Go.Step
/- The plain words on flow networks: arcs, checks, values. No program in sight. No conditions. -/
namespace Go.Flow
structure Arc where
  f : Int
  t : Int
  c : Int
  deriving DecidableEq, Inhabited
def okArc (n : Int) (a : Arc) : Bool := decide (0 ≤ a.f ∧ a.f < n ∧ 0 ≤ a.t ∧ a.t < n ∧ a.f ≠ a.t ∧ 0 ≤ a.c ∧ a.c ≤ 1099511627776)
def chk (n : Int) (l : List Arc) : Int := if n < 0 then 2 else if 2000 < n ∨ 20000 < l.length then 4 else if l.all (okArc n) then 0 else 2
theorem okArc_iff {n : Int} {a : Arc} : okArc n a = true ↔ (0 ≤ a.f ∧ a.f < n ∧ 0 ≤ a.t ∧ a.t < n ∧ a.f ≠ a.t ∧ 0 ≤ a.c ∧ a.c ≤ 1099511627776) := by unfold okArc; rw [decide_eq_true_eq]
def capOf (p : Nat → Bool) : List Arc → Int
  | [] => 0
  | a :: l => (if p a.f.toNat = true ∧ p a.t.toNat = false then a.c else 0) + capOf p l
end Go.Flow
/- Residual arcs, their rooms, paths in them. No program in sight. No conditions. -/
namespace Go.Flow
def leastR (rm : Nat → Int) (p : List Lk) : Int := p.foldl (fun m x => min m (rm x.k)) 1099511627776
def rmR (l : List Arc) (fl : List Int) (k : Nat) : Int := if k % 2 = 0 then (l.getD (k / 2) default).c - fl.getD (k / 2) 0 else fl.getD (k / 2) 0
def rlFrom : Nat → List Arc → List Lk
  | _, [] => []
  | i, a :: l => ⟨2 * i, a.f.toNat, a.t.toNat⟩ :: ⟨2 * i + 1, a.t.toNat, a.f.toNat⟩ :: rlFrom (i + 1) l
def rlinks (l : List Arc) : List Lk := rlFrom 0 l
theorem rlFrom_mem {n : Nat} : ∀ (l : List Arc) (i : Nat), (∀ a ∈ l, okArc n a = true) → ∀ x ∈ rlFrom i l, x.f < n ∧ x.t < n ∧ x.k < 2 * (i + l.length)
  | [], _, _, x, hx => by simp [rlFrom] at hx
  | a :: l, i, hok, x, hx => by
    have ha := okArc_iff.1 (hok a (by simp))
    simp only [rlFrom, List.mem_cons, List.length_cons] at hx ⊢
    rcases hx with rfl | rfl | hx
    · exact ⟨by simp only; omega, by simp only; omega, by simp only; omega⟩
    · exact ⟨by simp only; omega, by simp only; omega, by simp only; omega⟩
    · have := rlFrom_mem l (i + 1) (fun b hb => hok b (by simp [hb])) x hx
      exact ⟨this.1, this.2.1, by omega⟩
theorem rlinks_mem {n : Nat} {l : List Arc} (hok : ∀ a ∈ l, okArc n a = true) {x : Lk} (hx : x ∈ rlinks l) : x.f < n ∧ x.t < n ∧ x.k < 2 * l.length := by
  have := rlFrom_mem l 0 hok x hx
  simpa using this
end Go.Flow
/- Augmenting paths: a flow stays a flow, its value grows; the runs of the two searches. No program in sight. No conditions. -/
namespace Go.Flow
def opn (ls : List Lk) (rm : Nat → Int) (x : Lk) : Prop := x ∈ ls ∧ 0 < rm x.k
inductive Chn (E : Lk → Prop) : Nat → List Lk → Nat → Prop
  | nil {v : Nat} : Chn E v [] v
  | cons {x : Lk} {v : Nat} {p : List Lk} {u : Nat} : x.f = v → E x → Chn E x.t p u → Chn E v (x :: p) u
theorem Chn.mono {E E' : Lk → Prop} (h : ∀ x, E x → E' x) {v u : Nat} {p : List Lk} (hc : Chn E v p u) : Chn E' v p u := by
  induction hc with
  | nil => exact .nil
  | cons h1 h2 _ ih => exact .cons h1 (h _ h2) ih
theorem Chn.all {E : Lk → Prop} {v u : Nat} {p : List Lk} (hc : Chn E v p u) : ∀ x ∈ p, E x := by
  induction hc with
  | nil => simp
  | cons _ h2 _ ih => intro y hy; simp at hy; rcases hy with rfl | hy; exact h2; exact ih y hy
section
variable {n t : Nat} {ls : List Lk} {rm : Nat → Int} {D : List Int}
end

/-! ### links of the residual graph -/
def augR (room : Int) (fl : List Int) (x : Lk) : List Int := fl.set (x.k / 2) (if x.k % 2 = 0 then fl.getD (x.k / 2) 0 + room else fl.getD (x.k / 2) 0 - room)
def augAll (room : Int) (fl : List Int) (p : List Lk) : List Int := p.foldl (augR room) fl
section
variable {n s t : Nat} {l : List Arc}
theorem rl_lt (hok : ∀ a ∈ l, okArc n a = true) : ∀ x ∈ rlinks l, x.f < n ∧ x.t < n := fun _ hx => ⟨(rlinks_mem hok hx).1, (rlinks_mem hok hx).2.1⟩
abbrev rE (l : List Arc) (fl : List Int) : Lk → Prop := opn (rlinks l) (rmR l fl)
abbrev rP (l : List Arc) (fl : List Int) (D : List Int) (s : Nat) : List Lk := pathD (nxt (rlinks l) (rmR l fl) D) D s
abbrev rNext (l : List Arc) (fl : List Int) (D : List Int) (s : Nat) : List Int := augAll (leastR (rmR l fl) (rP l fl D s)) fl (rP l fl D s)
end
inductive RunR (n : Nat) (l : List Arc) (s t : Nat) : List Int → List Int → Prop
  | done {fl D : List Int} : IsDist n t (rE l fl) D → D.getD s 0 < 0 → RunR n l s t fl fl
  | step {fl D F : List Int} : IsDist n t (rE l fl) D → 0 ≤ D.getD s 0 → RunR n l s t (rNext l fl D s) F → RunR n l s t fl F
theorem RunR.uniq {n s t : Nat} {l : List Arc} (hok : ∀ a ∈ l, okArc n a = true) {fl F G : List Int} (h1 : RunR n l s t fl F) (h2 : RunR n l s t fl G) : F = G := by
  have hE : ∀ fl x, rE l fl x → x.f < n ∧ x.t < n := fun fl x hx => rl_lt hok x hx.1
  induction h1 generalizing G with
  | done hD hn =>
    cases h2 with
    | done => rfl
    | step hD2 h0 _ => rw [hD.uniq (hE _) hD2] at hn; omega
  | step hD h0 _ ih =>
    cases h2 with
    | done hD2 hn => rw [hD.uniq (hE _) hD2] at h0; omega
    | step hD2 _ hr => rw [hD.uniq (hE _) hD2] at ih; exact ih hr
end Go.Flow
namespace Go.Flow
theorem Chn.take {E : Lk → Prop} {v u : Nat} {p : List Lk} (hc : Chn E v p u) : ∀ i, ∃ w, Chn E v (p.take i) w := by
  induction hc with
  | nil => intro i; exact ⟨_, by simpa using Chn.nil⟩
  | cons h1 h2 _ ih =>
    intro i
    cases i with
    | zero => exact ⟨_, by simpa using Chn.nil⟩
    | succ i => obtain ⟨w, hw⟩ := ih i; exact ⟨w, .cons h1 h2 hw⟩
end Go.Flow
/- Cuts and flows: the value of a flow is at most the capacity of a cut; where nothing more can be reached, it is the capacity. No program in sight. No conditions. -/
namespace Go.Flow
section
variable {n s t : Nat} {l : List Arc} {fl : List Int} {B : Nat → Bool}
end
inductive Rch (E : Lk → Prop) (s : Nat) : Nat → Prop
  | refl : Rch E s s
  | step {x : Lk} : Rch E s x.f → E x → Rch E s x.t
theorem Rch.sub {E : Lk → Prop} {s : Nat} {B : Nat → Bool} (hs : B s = true) (hcl : ∀ x, E x → B x.f = true → B x.t = true) {v : Nat} (h : Rch E s v) : B v = true := by
  induction h with
  | refl => exact hs
  | step _ hx ih => exact hcl _ hx ih
section
variable {n s t : Nat} {l : List Arc} {fl : List Int} {B : Nat → Bool}
end
end Go.Flow
/- Time-expanded networks. No program in sight. No conditions. -/
namespace Go.Step
open Go.Flow (capOf chk okArc okArc_iff)
abbrev Arc := Go.Flow.Arc
structure VOk (qs : List Int) (cs : List Ct) (bs : List Bk) (hs : List Hd) (d : Dm) : Prop where
  ct : ∀ c ∈ cs, (0 ≤ c.f ∧ c.f < qs.length) ∧ (0 ≤ c.t ∧ c.t < qs.length) ∧ (0 ≤ c.s ∧ c.s < c.e ∧ c.e ≤ 1099511627776) ∧ (1 ≤ c.r ∧ c.r ≤ 1000) ∧ (1 ≤ c.g ∧ c.g ≤ 1048576)
  nb : bs.length ≤ 512
  bk : firstE (bkE cs bs) bs.length = 0
  hd : ∀ x ∈ hs, okHd qs.length x
  nh : hs.length ≤ 512
  fit : fitB qs hs = true
  nq : 1 ≤ qs.length ∧ qs.length ≤ 16
  quo : ∀ (j : Nat) (q : Int), qs[j]? = some q → 0 ≤ q ∧ q ≤ 1073741824
  dm : okDm qs.length d
  nc : cs.length ≤ 64
def wd (d : Dm) : Int := d.e - d.r + 1
def vtx (d : Dm) (n t : Int) : Int := n * wd d + (t - d.r)
theorem vtx_div {d : Dm} {n t : Int} (h1 : d.r ≤ t) (h2 : t ≤ d.e) : vtx d n t / wd d = n := by
  unfold vtx
  have hw : wd d ≠ 0 := by unfold wd; omega
  rw [Int.add_comm, Int.add_mul_ediv_right _ _ hw, Int.ediv_eq_zero_of_lt (by omega) (by unfold wd; omega), Int.zero_add]
theorem vtx_mod {d : Dm} {n t : Int} (h1 : d.r ≤ t) (h2 : t ≤ d.e) : vtx d n t % wd d = t - d.r := by
  unfold vtx
  rw [Int.add_comm, Int.add_mul_emod_self_right, Int.emod_eq_of_lt (by omega) (by unfold wd; omega)]
theorem vtx_inj {d : Dm} {n t m u : Int} (h1 : d.r ≤ t) (h2 : t ≤ d.e) (h3 : d.r ≤ u) (h4 : u ≤ d.e) (h : vtx d n t = vtx d m u) : n = m ∧ t = u := by
  have a := vtx_div (n := n) h1 h2
  have b := vtx_mod (n := n) h1 h2
  rw [h] at a b
  rw [vtx_div h3 h4] at a
  rw [vtx_mod h3 h4] at b
  omega
theorem vtx_next (d : Dm) (n t : Int) : vtx d n (t + 1) = vtx d n t + 1 := by unfold vtx; omega
theorem vtx_lt {d : Dm} {n t : Int} {N : Nat} (h1 : 0 ≤ n) (h2 : n < N) (h3 : d.r ≤ t) (h4 : t ≤ d.e) : 0 ≤ vtx d n t ∧ vtx d n t < N * wd d := by
  have hw : 0 ≤ wd d := by unfold wd; omega
  have a := Int.mul_nonneg h1 hw
  have b := Int.mul_le_mul_of_nonneg_right (show n + 1 ≤ (N : Int) by omega) hw
  rw [Int.add_mul, Int.one_mul] at b
  unfold vtx
  have e : wd d = d.e - d.r + 1 := rfl
  omega
structure EA where
  a : Arc
  c : Int
  t : Int
deriving DecidableEq
def waitN (qs : List Int) (hs : List Hd) (d : Dm) (n : Int) : List EA := (rngI d.r d.e).map (fun t => ⟨⟨vtx d n t, vtx d n (t + 1), roomT qs hs d n t⟩, -1, t⟩)
def waitA (qs : List Int) (hs : List Hd) (d : Dm) : Nat → List EA
  | 0 => []
  | n + 1 => waitA qs hs d n ++ waitN qs hs d n
def conE (d : Dm) (c : Ct) (i t : Int) : EA := ⟨⟨vtx d c.f t, vtx d c.t (t + 1 + c.g), c.r⟩, i, t⟩
def conN (cs : List Ct) (bs : List Bk) (d : Dm) (i : Nat) : List EA := match cs[i]? with
  | none => []
  | some c => (tickL d.r d.e c.g (freeC cs bs i)).map (conE d c i)
def conA (cs : List Ct) (bs : List Bk) (d : Dm) : Nat → List EA
  | 0 => []
  | i + 1 => conA cs bs d i ++ conN cs bs d i
def arcsE (qs : List Int) (cs : List Ct) (bs : List Bk) (hs : List Hd) (d : Dm) : List EA := waitA qs hs d qs.length ++ conA cs bs d cs.length
def arcsG (qs : List Int) (cs : List Ct) (bs : List Bk) (hs : List Hd) (d : Dm) : List Arc := (arcsE qs cs bs hs d).map (fun x => x.a)
theorem mem_waitA {qs : List Int} {hs : List Hd} {d : Dm} {x : EA} : ∀ {m : Nat}, x ∈ waitA qs hs d m ↔ ∃ n : Nat, n < m ∧ ∃ t, d.r ≤ t ∧ t < d.e ∧ x = ⟨⟨vtx d n t, vtx d n (t + 1), roomT qs hs d n t⟩, -1, t⟩
  | 0 => by simp [waitA]
  | m + 1 => by
    unfold waitA
    rw [List.mem_append, mem_waitA (m := m)]
    unfold waitN
    rw [List.mem_map]
    constructor
    · rintro (⟨n, h1, h2⟩ | ⟨t, h1, rfl⟩)
      · exact ⟨n, by omega, h2⟩
      · rw [mem_rngI] at h1
        exact ⟨m, by omega, t, h1.1, h1.2, rfl⟩
    · rintro ⟨n, h1, t, h2, h3, rfl⟩
      by_cases h : n < m
      · exact .inl ⟨n, h, t, h2, h3, rfl⟩
      · obtain rfl : n = m := by omega
        exact .inr ⟨t, by rw [mem_rngI]; exact ⟨h2, h3⟩, rfl⟩
theorem mem_conA {cs : List Ct} {bs : List Bk} {d : Dm} {x : EA} : ∀ {m : Nat}, x ∈ conA cs bs d m ↔ ∃ i : Nat, i < m ∧ ∃ c t, cs[i]? = some c ∧ memI (freeC cs bs i) t = true ∧ d.r ≤ t ∧ t + c.g < d.e ∧ x = conE d c i t
  | 0 => by simp [conA]
  | m + 1 => by
    unfold conA
    rw [List.mem_append, mem_conA (m := m)]
    have key : x ∈ conN cs bs d m ↔ ∃ c t, cs[m]? = some c ∧ memI (freeC cs bs m) t = true ∧ d.r ≤ t ∧ t + c.g < d.e ∧ x = conE d c m t := by
      unfold conN
      cases e : cs[m]? with
      | none => simp
      | some c =>
        simp only [List.mem_map, mem_tickL, Option.some.injEq]
        constructor
        · rintro ⟨t, ⟨h1, h2, h3⟩, rfl⟩
          exact ⟨c, t, rfl, h1, h2, h3, rfl⟩
        · rintro ⟨c', t, rfl, h1, h2, h3, rfl⟩
          exact ⟨t, ⟨h1, h2, h3⟩, rfl⟩
    rw [key]
    constructor
    · rintro (⟨i, h1, h2⟩ | h)
      · exact ⟨i, by omega, h2⟩
      · exact ⟨m, by omega, h⟩
    · rintro ⟨i, h1, h2⟩
      by_cases h : i < m
      · exact .inl ⟨i, h, h2⟩
      · obtain rfl : i = m := by omega
        exact .inr h2
section
variable {qs : List Int} {cs : List Ct} {bs : List Bk} {hs : List Hd} {d : Dm}
theorem VOk.room (h : VOk qs cs bs hs d) (n : Nat) (hn : n < qs.length) (t : Int) : 0 ≤ roomT qs hs d n t ∧ roomT qs hs d n t ≤ 1099511627776 := by
  refine ⟨room_nonneg h.quo h.hd h.fit d n hn t, ?_⟩
  unfold roomT
  split
  · omega
  have h1 := stored_bd (n := (n : Int)) (t := t) h.hd
  have hx := List.getElem?_eq_getElem hn
  have hq := h.quo n _ hx
  rw [Int.toNat_natCast, List.getD_eq_getElem?_getD, hx, Option.getD_some]
  omega
theorem VOk.free (h : VOk qs cs bs hs d) {i : Nat} {c : Ct} (hc : cs[i]? = some c) : NormI (freeC cs bs i) ∧ (∀ z ∈ freeC cs bs i, c.s ≤ z.1 ∧ z.2 ≤ c.e) ∧ ∀ t, memI (freeC cs bs i) t = (decide (c.s ≤ t ∧ t < c.e) && !(bookedB bs i t)) := freeC_ok h.bk hc
inductive ArcIs (qs : List Int) (cs : List Ct) (bs : List Bk) (hs : List Hd) (d : Dm) : EA → Prop
  | wait {n : Nat} {t : Int} : n < qs.length → d.r ≤ t → t < d.e → ArcIs qs cs bs hs d ⟨⟨vtx d n t, vtx d n (t + 1), roomT qs hs d n t⟩, -1, t⟩
  | con {i : Nat} {c : Ct} {t : Int} : cs[i]? = some c → d.r ≤ t → c.s ≤ t → t < c.e → t + 1 + c.g ≤ d.e → bookedB bs i t = false → ArcIs qs cs bs hs d (conE d c i t)
theorem VOk.arc (h : VOk qs cs bs hs d) {x : EA} : x ∈ arcsE qs cs bs hs d ↔ ArcIs qs cs bs hs d x := by
  unfold arcsE
  rw [List.mem_append, mem_waitA, mem_conA]
  constructor
  · rintro (⟨n, h1, t, h2, h3, rfl⟩ | ⟨i, h1, c, t, hc, hm, h2, h3, rfl⟩)
    · exact .wait h1 h2 h3
    · rw [(h.free hc).2.2 t, Bool.and_eq_true, decide_eq_true_eq, Bool.not_eq_true'] at hm
      exact .con hc h2 hm.1.1 hm.1.2 (by omega) hm.2
  · rintro (⟨h1, h2, h3⟩ | ⟨hc, h1, h2, h3, h4, h5⟩)
    · exact .inl ⟨_, h1, _, h2, h3, rfl⟩
    · refine .inr ⟨_, (List.getElem?_eq_some_iff.1 hc).1, _, _, hc, ?_, h1, by omega, rfl⟩
      rw [(h.free hc).2.2, h5, decide_eq_true ⟨h2, h3⟩]
      rfl
def vsN (qs : List Int) (d : Dm) : Int := qs.length * wd d
theorem VOk.wd (h : VOk qs cs bs hs d) : 2 ≤ Go.Step.wd d ∧ Go.Step.wd d ≤ 101 := by
  have := h.dm.2.2.2.2
  unfold Go.Step.wd
  omega
theorem VOk.vs (h : VOk qs cs bs hs d) : 0 ≤ vsN qs d ∧ vsN qs d ≤ 1616 := by
  have h1 := h.wd
  have h2 := h.nq
  unfold vsN
  refine ⟨Int.mul_nonneg (by omega) (by omega), ?_⟩
  exact Int.le_trans (Int.mul_le_mul (show ((qs.length : Nat) : Int) ≤ 16 by omega) h1.2 (by omega) (by omega)) (by omega)
theorem VOk.ok (h : VOk qs cs bs hs d) : ∀ a ∈ arcsG qs cs bs hs d, okArc (vsN qs d) a = true := fun a ha => by
  obtain ⟨x, hx, rfl⟩ := List.mem_map.1 ha
  have hw := h.wd
  unfold wd at hw
  rw [okArc_iff]
  cases h.arc.1 hx with
  | @wait n t h1 h2 h3 =>
    have a := vtx_lt (d := d) (n := n) (t := t) (N := qs.length) (by omega) (by omega) h2 (by omega)
    have b := vtx_lt (d := d) (n := n) (t := t + 1) (N := qs.length) (by omega) (by omega) (by omega) (by omega)
    have c := vtx_next d n t
    have r := h.room n h1 t
    unfold vsN
    dsimp only
    omega
  | @con i c t hc h1 h2 h3 h4 h5 =>
    have k := h.ct c (List.mem_of_getElem? hc)
    have a := vtx_lt (d := d) (n := c.f) (t := t) (N := qs.length) k.1.1 k.1.2 h1 (by omega)
    have b := vtx_lt (d := d) (n := c.t) (t := t + 1 + c.g) (N := qs.length) k.2.1.1 k.2.1.2 (by omega) h4
    have ne : vtx d c.f t ≠ vtx d c.t (t + 1 + c.g) := fun e => by
      have := vtx_inj h1 (by omega) (by omega) h4 e
      omega
    unfold vsN conE
    dsimp only
    omega
theorem waitN_len (qs : List Int) (hs : List Hd) (d : Dm) (n : Int) : (waitN qs hs d n).length = (d.e - d.r).toNat := by unfold waitN; rw [List.length_map, rngI_len]
theorem waitA_len (qs : List Int) (hs : List Hd) (d : Dm) : ∀ m, (waitA qs hs d m).length = m * (d.e - d.r).toNat
  | 0 => by simp [waitA]
  | m + 1 => by unfold waitA; rw [List.length_append, waitA_len qs hs d m, waitN_len, Nat.add_mul, Nat.one_mul]
theorem tickL_all {r e g : Int} {l : List (Int × Int)} (h : NormI l) (hg : 0 ≤ g) : tickL r e g l = (rngI r e).filter (fun t => memI l t && decide (t + g < e)) := by
  refine asc_ext (tickL_asc h) ((rngI_asc _ _).filter _) (fun t => ?_)
  rw [mem_tickL, List.mem_filter, mem_rngI, Bool.and_eq_true, decide_eq_true_eq]
  constructor
  · rintro ⟨h1, h2, h3⟩
    exact ⟨by omega, h1, h3⟩
  · rintro ⟨h1, h2, h3⟩
    exact ⟨h2, by omega, h3⟩
theorem VOk.conN_len (h : VOk qs cs bs hs d) (i : Nat) : (conN cs bs d i).length ≤ (d.e - d.r).toNat := by
  unfold conN
  cases e : cs[i]? with
  | none => simp
  | some c =>
    have k := h.ct c (List.mem_of_getElem? e)
    simp only [List.length_map]
    rw [tickL_all (h.free e).1 (by omega)]
    exact Nat.le_trans (List.length_filter_le _ _) (by rw [rngI_len]; exact Nat.le_refl _)
theorem VOk.conA_len (h : VOk qs cs bs hs d) : ∀ m, (conA cs bs d m).length ≤ m * (d.e - d.r).toNat
  | 0 => by simp [conA]
  | m + 1 => by
    have h1 := h.conA_len m
    have h2 := h.conN_len m
    unfold conA
    rw [List.length_append, Nat.add_mul, Nat.one_mul]
    omega
theorem VOk.len (h : VOk qs cs bs hs d) : (arcsE qs cs bs hs d).length ≤ 8000 := by
  have h1 := waitA_len qs hs d qs.length
  have h2 := h.conA_len cs.length
  have h3 := h.dm.2.2.2.2
  have h4 : (d.e - d.r).toNat ≤ 100 := by omega
  have a := Nat.mul_le_mul h.nq.2 h4
  have b := Nat.mul_le_mul h.nc h4
  unfold arcsE
  rw [List.length_append]
  omega
theorem VOk.chk (h : VOk qs cs bs hs d) : chk (vsN qs d) (arcsG qs cs bs hs d) = 0 := by
  have h1 := h.vs
  have h2 := h.len
  unfold Go.Flow.chk
  rw [if_neg (by omega), if_neg (by unfold arcsG; rw [List.length_map]; omega), if_pos (List.all_eq_true.2 h.ok)]
/-! sums over lists -/
/-! the capacity of a set of nodes at times -/
end
end Go.Step
/- Maps whose keys are structs of two or three ints: looked up, changed. No conditions. -/
namespace Go.Eng
variable {C : Cx} {D : List Deferred} {R H : List PH} {L : Env} {K : List It}
variable {dst : Option Tmp} {ty : TypeId} {pos : String} {aft : Array Edge} {g : Option (Nat × Bool)}
def midxS (k : List Int) : List (List Int × Value) → Option (Nat × Value)
  | [] => none
  | (a, v) :: m => if k = a then some (0, v) else (midxS k m).map (fun p => (p.1 + 1, p.2))
def mgetS (k : List Int) (m : List (List Int × Value)) : Option Value := (midxS k m).map (·.2)
def msetS (k : List Int) (v : Value) : List (List Int × Value) → List (List Int × Value)
  | [] => [(k, v)]
  | (a, w) :: m => if k = a then (a, v) :: m else (a, w) :: msetS k v m
theorem mgetS_mset (k x : List Int) (v : Value) : ∀ m : List (List Int × Value), mgetS x (msetS k v m) = if x = k then some v else mgetS x m
  | [] => by
    by_cases h : x = k <;> simp [msetS, mgetS, midxS, h]
  | (a, w) :: m => by
    have ih := mgetS_mset k x v m
    by_cases h : k = a
    · subst h
      simp only [msetS, if_true, mgetS, midxS]
      by_cases e : x = k <;> simp [e]
    · simp only [msetS, if_neg h, mgetS, midxS] at ih ⊢
      by_cases e : x = a
      · subst e
        simp [Ne.symm h]
      · simp only [if_neg e, Option.map_map] at ih ⊢
        have e2 : ((fun x : Nat × Value => x.2) ∘ fun p : Nat × Value => (p.1 + 1, p.2)) = fun x => x.2 := rfl
        rw [e2, ih]
theorem msetS_len {k : List Int} {v : Value} {n : Nat} (hk : k.length = n) : ∀ {l : List (List Int × Value)}, (∀ x ∈ l, x.1.length = n) → ∀ x ∈ msetS k v l, x.1.length = n
  | [], _, x, hx => by simp [msetS] at hx; rw [hx]; exact hk
  | (a, w) :: l, h, x, hx => by
    unfold msetS at hx
    split at hx
    · rcases List.mem_cons.1 hx with rfl | hx
      · exact h (a, w) (by simp)
      · exact h x (by simp [hx])
    · rcases List.mem_cons.1 hx with rfl | hx
      · exact h (a, w) (by simp)
      · exact msetS_len hk (l := l) (fun y hy => h y (by simp [hy])) x hx
end Go.Eng
/- Nodes at times, numbered in a map. No program in sight. No conditions. -/
namespace Go.Step
open Go.Eng
def NumAt (d : Dm) (k t : Int) (M : List (List Int × Value)) : Prop := (∀ e ∈ M, e.1.length = 2) ∧ ∀ n u : Int, mgetS [n, u] M = if (0 ≤ n ∧ d.r ≤ u ∧ u ≤ d.e) ∧ (n < k ∨ (n = k ∧ u < t)) then some (int (vtx d n u)) else none
theorem NumAt.nil (d : Dm) : NumAt d 0 d.r [] := ⟨by simp, fun n u => by rw [if_neg (by omega)]; rfl⟩
theorem NumAt.row {d : Dm} {k t : Int} {M : List (List Int × Value)} (h : NumAt d k t M) (ht : d.e < t) : NumAt d (k + 1) d.r M := ⟨h.1, fun n u => by
  rw [h.2]
  by_cases c : (0 ≤ n ∧ d.r ≤ u ∧ u ≤ d.e) ∧ (n < k ∨ (n = k ∧ u < t))
  · rw [if_pos c, if_pos (by omega)]
  · rw [if_neg c, if_neg (by omega)]⟩
theorem NumAt.add {d : Dm} {k t : Int} {M : List (List Int × Value)} (h : NumAt d k t M) (hk : 0 ≤ k) (h1 : d.r ≤ t) (h2 : t ≤ d.e) : NumAt d k (t + 1) (msetS [k, t] (int (vtx d k t)) M) := ⟨msetS_len rfl h.1, fun n u => by
  rw [mgetS_mset]
  by_cases c : [n, u] = [k, t]
  · rw [if_pos c]
    simp only [List.cons.injEq, and_true] at c
    obtain ⟨rfl, rfl⟩ := c
    rw [if_pos (by omega)]
  · rw [if_neg c, h.2]
    have c2 : ¬ (n = k ∧ u = t) := fun h => c (by rw [h.1, h.2])
    by_cases c3 : (0 ≤ n ∧ d.r ≤ u ∧ u ≤ d.e) ∧ (n < k ∨ (n = k ∧ u < t))
    · rw [if_pos c3, if_pos (by omega)]
    · rw [if_neg c3, if_neg (by omega)]⟩
end Go.Step
/- Free spans of contacts. -/
namespace Go.Proofs.YtijheemiknkleaaGreatDoor
open Go.Eng Go.Step
set_option maxRecDepth 100000
set_option maxHeartbeats 4000000

theorem bkCheck0_spec {ρ τ σ υ : PH} {pq pc pb ph : Option Addr} {kq kc kb kh : Nat} {qs : List Int} {cs : List Ct} {bs : List Bk} {hs : List Hd} (hT : TbAt ρ τ σ υ pq pc pb ph kq kc kb kh qs cs bs hs) (i : Nat) (h0 : chkB qs cs bs = 0) (hi : i < cs.length) :
  Ans Tryz.prog (fv 96) [.agg #[.slice pq qs.length kq, .slice pc cs.length kc], .slice pb bs.length kb, int (i : Int)] [ρ, τ, σ] (fun r => r = int 0) := by
 have hck := bkCheck_spec ρ τ σ pq pc kq kc qs cs _ bs hT.hq hT.hc hT.hcap hT.lq hT.lc hT.hb hT.lb
 rw [h0] at hck
 refine spec_in (cap := []) Tryz.func96 rfl rfl Tryz.ntmps96 rfl envZ (fun N β => ?_)
 refine AB ?_
 refine AA ?_
 refine BF (BC rfl) rfl rfl rfl ?_
 rintro _ _ ⟨b3, rfl, rfl⟩
 refine AU (ρ := sng b3 _) takeZ ?_
 have c : RdN (sng b3 (.cells #[.slice pq qs.length kq, .slice pc cs.length kc] 25 (0, 0))) b3 0 [.slice pq qs.length kq, .slice pc cs.length kc] := rdN_sng (vs := [.slice pq qs.length kq, .slice pc cs.length kc])
 have c0 : rdc (sng b3 (.cells #[.slice pq qs.length kq, .slice pc cs.length kc] 25 (0, 0))) b3 0 = some (.slice pq qs.length kq) := by rw [rdc_sng]; rfl
 have c1 : rdc (sng b3 (.cells #[.slice pq qs.length kq, .slice pc cs.length kc] 25 (0, 0))) b3 1 = some (.slice pc cs.length kc) := by rw [rdc_sng]; rfl
 refine AD ?_
 refine AE ?_
 refine AB ?_
 refine AB ?_
 refine AA ?_
 refine AN ?_
 refine AC ?_
 refine A3 hck rfl rfl rdZ rfl rfl ?_
 rintro _ rfl
 refine BG ?_
 refine AE ?_
 refine AM rfl ?_
 refine AL ?_
 refine AB ?_
 refine AB ?_
 refine AA ?_
 refine AC ?_
 refine AZ ?_
 refine AC ?_
 refine AC ?_
 refine AG ?_
 refine AF ?_
 refine AY ?_
 refine BN ?_
 refine AK ?_
 refine AE ?_
 refine AM rfl ?_
 refine AL ?_
 refine AB ?_
 refine AA ?_
 refine AD ?_
 refine AE ?_
 exact AI (res1 rfl rfl) rsubZ selZ ⟨rfl, rfl⟩
theorem freeAdd_spec (bA bO : Nat) (a to : Int) (u : Value) (G : List (Int × Int)) (χ : PH) (hO : OwnS 139 2 u G.length (G.flatMap encS) χ) (hl : G.length ≤ 100000) :
  Eng.Spec Tryz.prog (.func (.func 134) #[] #[.pointer (some ⟨bA, 0, none⟩), .pointer (some ⟨bO, 0, none⟩)]) [int to] [] [sng bA (.cells #[int a] 3 (0, 0)), sng bO (.cells #[u] 103 (0, 0)), χ] (fun r H' => r = .tuple #[] ∧ ∃ u' χ', H' = [sng bA (.cells #[int a] 3 (0, 0)), sng bO (.cells #[u'] 103 (0, 0)), χ'] ∧ OwnS 139 2 u' (G ++ if a < to then [(a, to)] else []).length ((G ++ if a < to then [(a, to)] else []).flatMap encS) χ') := by
 have hone : ∀ z n (xs : List Value) (χ : PH), OwnS 139 2 z n xs χ → z.oneCell' = true := fun z n xs χ h => by obtain ⟨_, _, rfl⟩ := h.form; rfl
 have hu := hone _ _ _ _ hO
 refine spec_in (cap := [.pointer (some ⟨bA, 0, none⟩), .pointer (some ⟨bO, 0, none⟩)]) Tryz.func134 rfl rfl Tryz.ntmps134 rfl envZ (fun N β => ?_)
 by_cases h : a < to
 ·rw [if_pos h]
  refine AB ?_
  refine AA ?_
  refine AF ?_
  refine AC ?_
  refine BI ?_
  refine AE ?_
  refine AQ rfl ?_
  refine AA ?_
  refine AF ?_
  refine AF ?_
  refine AC ?_
  refine CC ?_
  refine BR ?_; rintro _ _ ⟨b, rfl, rfl⟩
  refine BF (B5 (by_ := 16) (s := 2) (news := [int a, int to]) rfl rfl rfl rfl rfl rfl rfl hO takeZ (cells_own memZ) rfl (by (repeat (first | exact (fun v hv => absurd hv List.not_mem_nil) | (refine List.forall_mem_cons.2 ⟨?_, ?_⟩; (focus (first | exact rfl | assumption))))); first | done | fail) (by omega) (by simp only [maxLen]; omega) (by omega)) rfl rfl rfl ?_
  rintro u1 _ ⟨χ1, hO1, rfl⟩
  have hu2 := hone _ _ _ _ hO1
  refine BH ?_; rintro _ _ ⟨rfl, rfl⟩
  refine AE ?_
  refine BV (res0 rfl) rsubZ selZ ⟨rfl, u1, χ1, rfl, ?_⟩
  rw [List.length_append, List.flatMap_append]
  exact hO1
 ·rw [if_neg h, List.append_nil]
  refine AB ?_
  refine AA ?_
  refine AF ?_
  refine AC ?_
  refine AZ ?_
  refine AE ?_
  refine AM rfl ?_
  refine AL ?_
  exact BV (res0 rfl) rsubZ selZ ⟨rfl, u, χ, rfl, hO⟩
theorem gapsP_at {e : Int} {l : List (Int × Int)} {k : Nat} (h : k < l.length) (a : Int) : gapsP e a (l.drop k) = (if a < l[k].1 then [(a, l[k].1)] else []) ++ gapsP e l[k].2 (l.drop (k + 1)) := by
 rw [List.drop_eq_getElem_cons h]
 rfl
set_option maxHeartbeats 32000000 in
theorem bkFree0_spec {ρ τ σ υ : PH} {pq pc pb ph : Option Addr} {kq kc kb kh : Nat} {qs : List Int} {cs : List Ct} {bs : List Bk} {hs : List Hd} (hT : TbAt ρ τ σ υ pq pc pb ph kq kc kb kh qs cs bs hs) (i : Nat) (x : Ct) (hx : cs[i]? = some x) (hb : firstE (bkE cs bs) bs.length = 0) (hbl : bs.length ≤ 512) :
  Makes Tryz.prog (fv 97) [.agg #[.slice pq qs.length kq, .slice pc cs.length kc], .slice pb bs.length kb, int (i : Int), int x.s] [ρ, τ, σ] (fun r χ => OwnS 139 2 r (freeC cs bs i).length ((freeC cs bs i).flatMap encS) χ) := by
 have hbusy := busy_spec σ _ bs i hT.hb (by omega)
 have hbi := busy_in hb hx
 have hbp := busy_apart hb i
 have hbll := busyL_len bs i
 have hfc : freeC cs bs i = gapsP x.e x.s (busyL bs i) := by unfold freeC; rw [hx]
 have hgl := gapsP_len x.e (busyL bs i) x.s
 have hone : ∀ z n (xs : List Value) (χ : PH), OwnS 139 2 z n xs χ → z.oneCell' = true := fun z n xs χ h => by obtain ⟨_, _, rfl⟩ := h.form; rfl
 rw [hfc]
 have hi := (List.getElem?_eq_some_iff.1 hx).1
 obtain ⟨bq, oq, e4, hrd⟩ := ctRow hT.rc hx
 refine spec_in (cap := []) Tryz.func97 rfl rfl Tryz.ntmps97 rfl envZ (fun N β => ?_)
 refine AB ?_
 refine AA ?_
 refine BF (BC rfl) rfl rfl rfl ?_
 rintro _ _ ⟨b3, rfl, rfl⟩
 refine AU (ρ := sng b3 _) takeZ ?_
 have c : RdN (sng b3 (.cells #[.slice pq qs.length kq, .slice pc cs.length kc] 25 (0, 0))) b3 0 [.slice pq qs.length kq, .slice pc cs.length kc] := rdN_sng (vs := [.slice pq qs.length kq, .slice pc cs.length kc])
 have c0 : rdc (sng b3 (.cells #[.slice pq qs.length kq, .slice pc cs.length kc] 25 (0, 0))) b3 0 = some (.slice pq qs.length kq) := by rw [rdc_sng]; rfl
 have c1 : rdc (sng b3 (.cells #[.slice pq qs.length kq, .slice pc cs.length kc] 25 (0, 0))) b3 1 = some (.slice pc cs.length kc) := by rw [rdc_sng]; rfl
 refine CA ?_
 subst e4
 refine AD ?_
 refine AE ?_
 refine AB ?_
 refine AA ?_
 refine AG ?_
 refine AF ?_
 refine AC ?_
 refine A9 ?_
 refine AN ?_
 refine A4 ?_; rintro _ _ ⟨b, rfl, rfl⟩
 refine A2 ?_; rintro _ _ ⟨rfl, rfl⟩
 refine AE ?_
 refine AB ?_
 refine AA ?_
 refine BS ?_; rintro _ _ ⟨b, rfl, rfl⟩
 refine AE ?_
 refine AB ?_
 refine AA ?_
 refine AG ?_
 refine AF ?_
 refine AC ?_
 refine DB ?_
 refine BS ?_; rintro _ _ ⟨b, rfl, rfl⟩
 refine BH ?_; rintro _ _ ⟨rfl, rfl⟩
 refine AE ?_
 refine AB ?_
 refine AA ?_
 refine BX ?_
 refine AD ?_
 refine AE ?_
 refine AB ?_
 refine AB ?_
 refine AA ?_
 refine AC ?_
 refine AC ?_
 revert b; intro bA
 revert b; intro bO
 revert b; intro bC
 rw [show max x.s x.s = x.s by omega]
 refine AU (ρ := sng bC _) takeZ ?_
 have g2 : rdc (sng bC (.cells #[int x.f, int x.t, int x.s, int x.e, int x.r, int x.g, int x.l] 33 (0, 0))) bC 3 = some (int x.e) := by rw [rdc_sng]; rfl
 refine B6 hbusy rfl rfl rdZ rfl rfl ?_
 rintro w χb hOb
 have hSb := hOb.at
 obtain ⟨pw, kw, rfl⟩ := hOb.form
 obtain ⟨_, _, ew, hrw⟩ := SlE.val (enc := encS) encS_len (show SlE encS 2 χb _ (busyL bs i) from hSb)
 simp only [Value.slice.injEq] at ew
 obtain ⟨rfl, _, rfl⟩ := ew
 refine AU (ρ := χb) takeZ ?_
 generalize busyL bs i = L at hbi hbp hbll hOb hSb hrw hgl
 refine AY ?_
 refine AC ?_
 refine AE ?_
 refine AV ?_
 refine BM [2, 12, 27, 28, 9, 10, 11] (X := Nat × Int × List (Int × Int) × Value × PH) (0, x.s, [], .slice none 0 0, emp) (fun z => z.1 ≤ L.length ∧ (∀ y ∈ L.drop z.1, z.2.1 ≤ y.1) ∧ gapsP x.e x.s L = z.2.2.1 ++ gapsP x.e z.2.1 (L.drop z.1) ∧ OwnS 139 2 z.2.2.2.1 z.2.2.1.length (z.2.2.1.flatMap encS) z.2.2.2.2) (fun z => [(29, int z.1)]) (fun z => [sng bA (.cells #[int z.2.1] 3 (0, 0)), sng bO (.cells #[z.2.2.2.1] 103 (0, 0)), z.2.2.2.2]) (fun z => L.length - z.1) pickZ ⟨by dsimp only; omega, fun y hy => by rw [List.drop_zero] at hy; exact (hbi y hy).1, rfl, OwnS.nil _ _⟩ covZ selZ ?_
 rintro ⟨k, a, G, u, χ⟩ ⟨hk, ha, hG, hO⟩
 dsimp only at hk ha hG hO ⊢
 have hGl : G.length ≤ L.length + 1 := by
  have := congrArg List.length hG
  rw [List.length_append] at this
  omega
 by_cases hlt : k < L.length
 ·have hy := List.getElem?_eq_getElem hlt
  have hga := gapsP_at (e := x.e) hlt a
  have hmem := List.getElem_mem hlt
  have hin := hbi _ hmem
  have hak := ha L[k] (by rw [List.drop_eq_getElem_cons hlt]; exact List.mem_cons_self)
  have hpk : ∀ y ∈ L.drop (k + 1), L[k].2 ≤ y.1 := fun y hy => by
   have h1 := List.Pairwise.sublist (List.drop_sublist k L) hbp
   rw [List.drop_eq_getElem_cons hlt] at h1
   exact (List.pairwise_cons.1 h1).1 y hy
  obtain ⟨b6, o6, rfl, hRd6, y0, y1⟩ := spRow hrw hy
  generalize L[k] = y at hy hga hin hak hpk hRd6 y0 y1
  have hadd := freeAdd_spec bA bO a y.1 u G χ hO (by omega)
  refine AB ?_
  refine AA ?_
  refine BI ?_
  refine AE ?_
  refine AB ?_
  refine AQ rfl ?_
  refine AL ?_
  refine AB ?_
  refine AV ?_
  refine AB ?_
  refine AA ?_
  refine A9 ?_
  refine AN ?_
  refine A4 ?_; rintro _ _ ⟨b, rfl, rfl⟩
  refine A2 ?_; rintro _ _ ⟨rfl, rfl⟩
  refine AE ?_
  refine AB ?_
  refine AA ?_
  refine AC ?_
  refine AG ?_
  refine AF ?_
  revert b; intro b14
  refine BT hadd rfl rfl takesZ rdZ rfl rfl ?_
  rintro _ _ ⟨rfl, u', χ', rfl, hO'⟩
  have hmx : max a y.2 = y.2 := by omega
  refine AE ?_
  refine AA ?_
  refine AF ?_
  refine AG ?_
  refine AF ?_
  refine DB ?_
  focus ((rw [hmx]))
  refine BH ?_; rintro _ _ ⟨rfl, rfl⟩
  refine AE ?_
  refine A8 ?_
  refine AA ?_
  refine BD ?_
  refine AC ?_
  refine AE ?_
  refine A5 (k + 1, y.2, G ++ (if a < y.1 then [(a, y.1)] else []), u', χ') ⟨by dsimp only; omega, hpk, ?_, hO'⟩ (by dsimp only; omega) covZ selZ
  dsimp only
  rw [hG, hga, List.append_assoc]
 ·have hke : k = L.length := by omega
  subst hke
  have hadd := freeAdd_spec bA bO a x.e u G χ hO (by omega)
  have hfin : gapsP x.e x.s L = G ++ (if a < x.e then [(a, x.e)] else []) := by
   rw [hG, List.drop_length]
   rfl
  rw [hfin]
  refine AB ?_
  refine AA ?_
  refine AZ ?_
  refine AE ?_
  refine AB ?_
  refine AM rfl ?_
  refine BE rfl ?_
  refine AB ?_
  refine AA ?_
  refine AC ?_
  refine AG ?_
  refine AF ?_
  refine BT hadd rfl rfl takesZ rdZ rfl rfl ?_
  rintro _ _ ⟨rfl, u', χ', rfl, hO'⟩
  refine AE ?_
  refine AB ?_
  refine AA ?_
  refine AF ?_
  refine AD ?_
  refine AE ?_
  exact AI (res1 rfl rfl) rsubZ selZ ⟨χ', hO', rfl⟩
theorem bkFree_spec {ρ τ σ υ : PH} {pq pc pb ph : Option Addr} {kq kc kb kh : Nat} {qs : List Int} {cs : List Ct} {bs : List Bk} {hs : List Hd} (hT : TbAt ρ τ σ υ pq pc pb ph kq kc kb kh qs cs bs hs) (i : Nat) (x : Ct) (hx : cs[i]? = some x) (h0 : chkB qs cs bs = 0) :
  Makes Tryz.prog (fv 49) [.agg #[.slice pq qs.length kq, .slice pc cs.length kc], .slice pb bs.length kb, int (i : Int)] [ρ, τ, σ] (fun r χ => ∃ u, r = .tuple #[u, int 0] ∧ OwnS 139 2 u (freeC cs bs i).length ((freeC cs bs i).flatMap encS) χ) := by
 obtain ⟨hbl, hb⟩ := chkB_ok h0
 have hck := bkCheck0_spec hT i h0 (List.getElem?_eq_some_iff.1 hx).1
 have hfr := bkFree0_spec hT i x hx hb hbl
 have hi := (List.getElem?_eq_some_iff.1 hx).1
 obtain ⟨bq, oq, e4, hrd⟩ := ctRow hT.rc hx
 have g2 : rdc τ bq (oq + i * 7 + 2) = some (int x.s) := hrd.get (j := 2) rfl
 refine spec_in (cap := []) Tryz.func49 rfl rfl Tryz.ntmps49 rfl envZ (fun N β => ?_)
 refine AB ?_
 refine AA ?_
 refine BF (BC rfl) rfl rfl rfl ?_
 rintro _ _ ⟨b3, rfl, rfl⟩
 refine AU (ρ := sng b3 _) takeZ ?_
 have c : RdN (sng b3 (.cells #[.slice pq qs.length kq, .slice pc cs.length kc] 25 (0, 0))) b3 0 [.slice pq qs.length kq, .slice pc cs.length kc] := rdN_sng (vs := [.slice pq qs.length kq, .slice pc cs.length kc])
 have c0 : rdc (sng b3 (.cells #[.slice pq qs.length kq, .slice pc cs.length kc] 25 (0, 0))) b3 0 = some (.slice pq qs.length kq) := by rw [rdc_sng]; rfl
 have c1 : rdc (sng b3 (.cells #[.slice pq qs.length kq, .slice pc cs.length kc] 25 (0, 0))) b3 1 = some (.slice pc cs.length kc) := by rw [rdc_sng]; rfl
 subst e4
 refine AD ?_
 refine AD ?_
 refine AE ?_
 refine AB ?_
 refine AB ?_
 refine AA ?_
 refine AN ?_
 refine AC ?_
 refine AC ?_
 refine A3 hck rfl rfl rdZ rfl rfl ?_
 rintro _ rfl
 refine AD ?_
 refine AE ?_
 refine AB ?_
 refine AA ?_
 refine AC ?_
 refine BG ?_
 refine AE ?_
 refine AM rfl ?_
 refine AL ?_
 refine AB ?_
 refine BA (.q 0 (.q 1 (.q 2 (.q 3 (.q 4 (.q 5 (.q 6 (.q 7 (.q 8 (.l 9 .e (.q 10 (.q 11 .nil)))))))))))) [] rfl (by kernel_rfl) Sel.nil ?_
 refine BL ?_
 refine AS ?_
 refine AS ?_
 refine AW ?_
 refine AP ?_
 refine AS ?_
 refine BJ ?_
 refine BU ?_
 refine AP ?_
 refine CJ (DH rfl hfr rfl rfl rdZ rfl rfl ?_)
 rintro u _ ⟨χ, hO, rfl⟩
 refine B7 ?_
 refine B7 ?_
 refine A7 ?_
 skip
 exact AI (res2 rfl rfl rfl) rsubZ selZ ⟨χ, ⟨u, rfl, hO⟩, rfl⟩
end Go.Proofs.YtijheemiknkleaaGreatDoor
/- Profiles and peaks, of the program and of the reference. -/
namespace Go.Proofs.YtijheemiknkleaaGreatDoor
open Go.Eng Go.Step
set_option maxRecDepth 100000
set_option maxHeartbeats 4000000

theorem chkH_pl {qs : List Int} {cs : List Ct} {l : List Hd} (h : chkH qs cs l = 0) : chkPl qs cs = 0 := by
 unfold chkH at h
 split at h
 ·omega
 ·rename_i hp; exact Decidable.not_not.1 hp
theorem chkH_ok {qs : List Int} {cs : List Ct} {l : List Hd} (h : chkH qs cs l = 0) : (∀ x ∈ l, okHd qs.length x) ∧ l.length ≤ 512 ∧ (1 ≤ qs.length ∧ qs.length ≤ 16) := by
 unfold chkH at h
 split at h
 ·omega
 ·rename_i hp
  split at h
  ·omega
  ·split at h
   ·rename_i h2; exact absurd h h2
   ·rename_i h1 h2
    have h3 : firstE (hdE qs.length l) l.length = 0 := Decidable.not_not.1 h2
    have := hdE_ok h3
    rw [List.take_length] at this
    exact ⟨this, by omega, (chkPl_quo (Decidable.not_not.1 hp)).1⟩
end Go.Proofs.YtijheemiknkleaaGreatDoor
/- Where a node can store more, of the program. -/
namespace Go.Proofs.YtijheemiknkleaaGreatDoor
open Go.Eng Go.Step
set_option maxRecDepth 100000
set_option maxHeartbeats 4000000

def endO (fr t : Int) (out : List (Int × Int)) : List (Int × Int) := if 0 ≤ fr ∧ fr < t then out ++ [(fr, t)] else out
set_option maxHeartbeats 16000000 in
theorem end_spec (bf bo : Nat) (fr t : Int) (u : Value) (out : List (Int × Int)) (σ : PH) (hO : OwnS 139 2 u out.length (out.flatMap encS) σ) (hl : out.length ≤ 100000) :
  Eng.Spec Tryz.prog (.func (.func 100) #[] #[.pointer (some ⟨bf, 0, none⟩), .pointer (some ⟨bo, 0, none⟩)]) [int t] [] [sng bf (.cells #[int fr] 3 (0, 0)), sng bo (.cells #[u] 103 (0, 0)), σ]
   (fun r H' => r = .tuple #[] ∧ ∃ u' σ', OwnS 139 2 u' (endO fr t out).length ((endO fr t out).flatMap encS) σ' ∧ H' = [sng bf (.cells #[int (-1)] 3 (0, 0)), sng bo (.cells #[u'] 103 (0, 0)), σ']) := by
 obtain ⟨pu, cu, rfl⟩ := SlAt.cap hO.at
 refine spec_in (cap := [.pointer (some ⟨bf, 0, none⟩), .pointer (some ⟨bo, 0, none⟩)]) Tryz.func100 rfl rfl Tryz.ntmps100 rfl envZ (fun N β => ?_)
 unfold endO
 by_cases h1 : 0 ≤ fr
 ·by_cases h2 : fr < t
  ·rw [if_pos ⟨h1, h2⟩]
   refine AB ?_
   refine AB ?_
   refine AA ?_
   refine AF ?_
   refine CL ?_
   refine AC ?_
   refine AF ?_
   refine AC ?_
   refine BI ?_
   refine AT ?_
   refine AE ?_
   refine AQ rfl ?_
   refine AA ?_
   refine AF ?_
   refine AF ?_
   refine AC ?_
   refine CC ?_
   refine BR ?_; rintro _ _ ⟨b, rfl, rfl⟩
   refine BF (B5 (by_ := 16) (s := 2) (news := [int fr, int t]) rfl rfl rfl rfl rfl rfl rfl hO takeZ (cells_own memZ) rfl (by (repeat (first | exact (fun v hv => absurd hv List.not_mem_nil) | (refine List.forall_mem_cons.2 ⟨?_, ?_⟩; (focus (first | exact rfl | assumption))))); first | done | fail) (by omega) (by simp only [maxLen]; omega) (by omega)) rfl rfl rfl ?_
   rintro u1 _ ⟨σ1, hO1, rfl⟩
   have hu1 : u1.oneCell' = true := by obtain ⟨p, c, rfl⟩ := SlAt.cap hO1.at; rfl
   refine BH ?_; rintro _ _ ⟨rfl, rfl⟩
   refine AE ?_
   refine AA ?_
   refine BH ?_; rintro _ _ ⟨rfl, rfl⟩
   refine AE ?_
   refine BV (res0 rfl) rsubZ selZ ⟨rfl, u1, σ1, ?_, rfl⟩
   rw [List.length_append, List.flatMap_append]
   exact hO1
  ·rw [if_neg (by omega)]
   refine AB ?_
   refine AB ?_
   refine AA ?_
   refine AF ?_
   refine CL ?_
   refine AC ?_
   refine AF ?_
   refine AC ?_
   refine AZ ?_
   refine AT ?_
   refine AE ?_
   refine AM rfl ?_
   refine AL ?_
   refine AA ?_
   refine BH ?_; rintro _ _ ⟨rfl, rfl⟩
   refine AE ?_
   exact BV (res0 rfl) rsubZ selZ ⟨rfl, _, _, hO, rfl⟩
 ·rw [if_neg (by omega)]
  refine AB ?_
  refine AB ?_
  refine AA ?_
  refine AF ?_
  refine BN ?_
  refine AC ?_
  refine AJ rfl rfl rfl ?_
  refine AJ rfl rfl rfl ?_
  refine AJ rfl rfl rfl ?_
  refine AK ?_
  refine AE ?_
  refine AM rfl ?_
  refine AL ?_
  refine AA ?_
  refine BH ?_; rintro _ _ ⟨rfl, rfl⟩
  refine AE ?_
  exact BV (res0 rfl) rsubZ selZ ⟨rfl, _, _, hO, rfl⟩
def fnEnd (bf bo : Nat) : Value := .func (.func 100) #[] #[.pointer (some ⟨bf, 0, none⟩), .pointer (some ⟨bo, 0, none⟩)]
set_option maxHeartbeats 16000000 in
theorem at_spec (ρ : PH) (b4 b6 b7 b12 bf bo : Nat) (w : Value) (pq : Option Addr) (kq : Nat) (qs : List Int) (nn : Nat) (Q s fr t x : Int) (u : Value) (out : List (Int × Int)) (σ : PH) (hq : IntsAt ρ (.slice pq qs.length kq) qs) (hQ : qs[nn]? = some Q) (hQb : 0 ≤ Q ∧ Q ≤ 1073741824) (hx : 0 ≤ x ∧ x ≤ 1099511627776)
  (hO : OwnS 139 2 u out.length (out.flatMap encS) σ) (hl : out.length ≤ 100000) :
  Eng.Spec Tryz.prog (.func (.func 101) #[] #[.pointer (some ⟨b4, 0, none⟩), .pointer (some ⟨b6, 0, none⟩), .pointer (some ⟨b7, 0, none⟩), .pointer (some ⟨b12, 0, none⟩), .pointer (some ⟨bf, 0, none⟩)]) [int t, int x]
   [ρ, sng b4 (.cells #[.slice pq qs.length kq, w] 25 (0, 0)), sng b6 (.cells #[int nn] 3 (0, 0)), sng b7 (.cells #[int s] 3 (0, 0)), sng b12 (.cells #[fnEnd bf bo] 192 (0, 0))]
   [sng bf (.cells #[int fr] 3 (0, 0)), sng bo (.cells #[u] 103 (0, 0)), σ]
   (fun r H' => r = .tuple #[] ∧ ∃ u' σ', OwnS 139 2 u' (frA Q s (fr, out) t x).2.length ((frA Q s (fr, out) t x).2.flatMap encS) σ' ∧ H' = [sng bf (.cells #[int (frA Q s (fr, out) t x).1] 3 (0, 0)), sng bo (.cells #[u'] 103 (0, 0)), σ']) := by
 obtain ⟨_, _, e, hrq⟩ := hq.val Eng.encI_len
 simp only [Value.slice.injEq] at e
 obtain ⟨rfl, _, rfl⟩ := e
 have hnl := (List.getElem?_eq_some_iff.1 hQ).1
 obtain ⟨bq, oq, rfl, gq⟩ := hrq.int hQ
 refine spec_in (cap := [.pointer (some ⟨b4, 0, none⟩), .pointer (some ⟨b6, 0, none⟩), .pointer (some ⟨b7, 0, none⟩), .pointer (some ⟨b12, 0, none⟩), .pointer (some ⟨bf, 0, none⟩)]) Tryz.func101 rfl rfl Tryz.ntmps101 rfl envZ (fun N β => ?_)
 have c4 : rdc (sng b4 (.cells #[.slice (some ⟨bq, oq, none⟩) qs.length kq, w] 25 (0, 0))) b4 0 = some (.slice (some ⟨bq, oq, none⟩) qs.length kq) := by rw [rdc_sng]; rfl
 have c6 : rdc (sng b6 (.cells #[int nn] 3 (0, 0))) b6 0 = some (int nn) := by rw [rdc_sng]; rfl
 have c7 : rdc (sng b7 (.cells #[int s] 3 (0, 0))) b7 0 = some (int s) := by rw [rdc_sng]; rfl
 have c12 : rdc (sng b12 (.cells #[fnEnd bf bo] 192 (0, 0))) b12 0 = some (fnEnd bf bo) := by rw [rdc_sng]; rfl
 unfold frA
 dsimp only
 refine AB ?_
 refine BA (.q 0 (.q 1 (.q 2 (.q 3 (.q 4 (.q 5 (.q 6 (.q 7 (.q 8 .nil))))))))) _ rfl (by kernel_rfl) Sel.refl ?_
 by_cases hc : Q - x < s
 ·rw [if_pos hc]
  refine AW ?_
  refine AP ?_
  refine AP ?_
  refine C1 ?_
  refine AP ?_
  refine AS ?_
  refine EN ?_
  refine AP ?_
  refine DV ?_
  refine A7 ?_
  refine AQ rfl ?_
  refine AA ?_
  refine AF ?_
  refine AC ?_
  refine BT (end_spec bf bo fr t u out σ hO hl) rfl rfl takesZ (fun τ hτ => by simp at hτ) rfl rfl ?_
  rintro _ _ ⟨rfl, u1, σ1, hO1, rfl⟩
  refine AE ?_
  exact BV (res0 rfl) rsubZ selZ ⟨rfl, u1, σ1, hO1, rfl⟩
 ·rw [if_neg hc]
  by_cases hf : fr < 0
  ·rw [if_pos hf]
   refine AW ?_
   refine AP ?_
   refine AP ?_
   refine C1 ?_
   refine AP ?_
   refine AS ?_
   refine EN ?_
   refine AP ?_
   refine CP ?_
   refine A7 ?_
   refine AM rfl ?_
   refine AB ?_
   refine AA ?_
   refine AF ?_
   refine BI ?_
   refine AE ?_
   refine AQ rfl ?_
   refine AA ?_
   refine AC ?_
   refine BH ?_; rintro _ _ ⟨rfl, rfl⟩
   refine AE ?_
   exact BV (res0 rfl) rsubZ selZ ⟨rfl, _, _, hO, rfl⟩
  ·rw [if_neg hf]
   refine AW ?_
   refine AP ?_
   refine AP ?_
   refine C1 ?_
   refine AP ?_
   refine AS ?_
   refine EN ?_
   refine AP ?_
   refine CP ?_
   refine A7 ?_
   refine AM rfl ?_
   refine AB ?_
   refine AA ?_
   refine AF ?_
   refine AZ ?_
   refine AE ?_
   refine AM rfl ?_
   refine AL ?_
   exact BV (res0 rfl) rsubZ selZ ⟨rfl, _, _, hO, rfl⟩
end Go.Proofs.YtijheemiknkleaaGreatDoor
/- Where a node can store more, of the program: Free. -/
namespace Go.Proofs.YtijheemiknkleaaGreatDoor
open Go.Eng Go.Step
set_option maxRecDepth 100000
set_option maxHeartbeats 4000000

set_option maxHeartbeats 16000000 in
theorem free_spec (ρ τ σ : PH) (pq pc : Option Addr) (kq kc : Nat) (qs : List Int) (cs : List Ct) (v : Value) (l : List Hd) (n s : Int) (hq : IntsAt ρ (.slice pq qs.length kq) qs) (hc : CtAt τ (.slice pc cs.length kc) cs) (hcap : cs.length ≤ kc) (lq : qs.length ≤ 9223372036854775807) (lc : cs.length ≤ 9223372036854775807) (hv : HdAt σ v l) (hl : l.length ≤ 9223372036854775807) :
  Makes Tryz.prog (fv 51) [.agg #[.slice pq qs.length kq, .slice pc cs.length kc], v, int n, int s] [ρ, τ, σ] (fun r σ' => ∃ u, r = .tuple #[u, int (freeRes qs cs l n s).2] ∧ OwnS 139 2 u (freeRes qs cs l n s).1.length ((freeRes qs cs l n s).1.flatMap encS) σ') := by
 have hv2 := hv
 obtain ⟨q, c, rfl, hr⟩ := hv.val encH_len
 refine spec_in (cap := []) Tryz.func51 rfl rfl Tryz.ntmps51 rfl envZ (fun N β => ?_)
 refine CA ?_
 refine AB ?_
 refine AA ?_
 refine BF (BC rfl) rfl rfl rfl ?_
 rintro _ _ ⟨b4, rfl, rfl⟩
 refine AU (ρ := sng b4 _) takeZ ?_
 have c1 : RdN (sng b4 (.cells #[.slice pq qs.length kq, .slice pc cs.length kc] 25 (0, 0))) b4 0 [.slice pq qs.length kq, .slice pc cs.length kc] := fun j u hu => by rw [rdc_sng, Nat.zero_add]; simpa using hu
 have c10 : rdc (sng b4 (.cells #[.slice pq qs.length kq, .slice pc cs.length kc] 25 (0, 0))) b4 0 = some (.slice pq qs.length kq) := by rw [rdc_sng]; rfl
 refine BF (C7 rfl rfl) rfl rfl rfl ?_
 rintro _ _ ⟨b6, rfl, rfl⟩
 refine AU (ρ := sng b6 _) takeZ ?_
 have c6 : rdc (sng b6 (.cells #[int n] 3 (0, 0))) b6 0 = some (int n) := by rw [rdc_sng]; rfl
 refine BF (C7 rfl rfl) rfl rfl rfl ?_
 rintro _ _ ⟨b7, rfl, rfl⟩
 refine AU (ρ := sng b7 _) takeZ ?_
 have c7 : rdc (sng b7 (.cells #[int s] 3 (0, 0))) b7 0 = some (int s) := by rw [rdc_sng]; rfl
 refine AD ?_
 refine AD ?_
 refine AE ?_
 refine AB ?_
 refine AB ?_
 refine AA ?_
 refine AN ?_
 refine AC ?_
 refine A3 (check28_spec ρ τ σ pq pc kq kc qs cs _ l hq hc hcap lq lc hv2 hl) rfl rfl rdZ rfl rfl ?_
 rintro _ rfl
 by_cases h0 : chkH qs cs l = 0
 rotate_left
 ·have hR : freeRes qs cs l n s = ([], 1) := by unfold freeRes; rw [if_pos h0]
  rw [hR]
  generalize chkH qs cs l = z at h0
  refine CR ?_
  refine AE ?_
  refine AQ rfl ?_
  refine AB ?_
  refine AA ?_
  refine AD ?_
  refine AD ?_
  refine AE ?_
  exact AI (res2 rfl rfl rfl) rsubZ selZ ⟨emp, ⟨_, rfl, OwnS.nil _ _⟩, rfl⟩
 rw [h0]
 obtain ⟨hok, hlen, hql⟩ := chkH_ok h0
 by_cases hbad : n < 0 ∨ (qs.length : Int) ≤ n ∨ s < 1 ∨ 65536 < s
 ·have hR : freeRes qs cs l n s = ([], 2) := by unfold freeRes; rw [if_neg (fun h => h h0), if_pos hbad]
  rw [hR]
  by_cases k1 : n < 0
  ·refine BG ?_
   refine AE ?_
   refine AM rfl ?_
   refine AL ?_
   refine AB ?_
   refine AB ?_
   refine AA ?_
   refine AF ?_
   refine BI ?_
   refine AC ?_
   refine AJ rfl rfl rfl ?_
   refine AJ rfl rfl rfl ?_
   refine AJ rfl rfl rfl ?_
   refine AJ rfl rfl rfl ?_
   refine AJ rfl rfl rfl ?_
   refine AT ?_
   refine AC ?_
   refine AJ rfl rfl rfl ?_
   refine AJ rfl rfl rfl ?_
   refine AT ?_
   refine AC ?_
   refine AJ rfl rfl rfl ?_
   refine AJ rfl rfl rfl ?_
   refine AT ?_
   refine AE ?_
   refine AQ rfl ?_
   refine AB ?_
   refine AA ?_
   refine AD ?_
   refine AD ?_
   refine AE ?_
   exact AI (res2 rfl rfl rfl) rsubZ selZ ⟨emp, ⟨_, rfl, OwnS.nil _ _⟩, rfl⟩
  by_cases k2 : (qs.length : Int) ≤ n
  ·refine BG ?_
   refine AE ?_
   refine AM rfl ?_
   refine AL ?_
   refine AB ?_
   refine AB ?_
   refine AA ?_
   refine AF ?_
   refine AZ ?_
   refine AC ?_
   refine AF ?_
   refine AG ?_
   refine AF ?_
   refine AY ?_
   refine CL ?_
   refine AK ?_
   refine AC ?_
   refine AJ rfl rfl rfl ?_
   refine AJ rfl rfl rfl ?_
   refine AT ?_
   refine AC ?_
   refine AJ rfl rfl rfl ?_
   refine AJ rfl rfl rfl ?_
   refine AT ?_
   refine AE ?_
   refine AQ rfl ?_
   refine AB ?_
   refine AA ?_
   refine AD ?_
   refine AD ?_
   refine AE ?_
   exact AI (res2 rfl rfl rfl) rsubZ selZ ⟨emp, ⟨_, rfl, OwnS.nil _ _⟩, rfl⟩
  by_cases k3 : s < 1
  ·refine BG ?_
   refine AE ?_
   refine AM rfl ?_
   refine AL ?_
   refine AB ?_
   refine AB ?_
   refine AA ?_
   refine AF ?_
   refine AZ ?_
   refine AC ?_
   refine AF ?_
   refine AG ?_
   refine AF ?_
   refine AY ?_
   refine BN ?_
   refine AK ?_
   refine AC ?_
   refine AF ?_
   refine BI ?_
   refine AK ?_
   refine AC ?_
   refine AJ rfl rfl rfl ?_
   refine AJ rfl rfl rfl ?_
   refine AT ?_
   refine AE ?_
   refine AQ rfl ?_
   refine AB ?_
   refine AA ?_
   refine AD ?_
   refine AD ?_
   refine AE ?_
   exact AI (res2 rfl rfl rfl) rsubZ selZ ⟨emp, ⟨_, rfl, OwnS.nil _ _⟩, rfl⟩
  ·refine BG ?_
   refine AE ?_
   refine AM rfl ?_
   refine AL ?_
   refine AB ?_
   refine AB ?_
   refine AA ?_
   refine AF ?_
   refine AZ ?_
   refine AC ?_
   refine AF ?_
   refine AG ?_
   refine AF ?_
   refine AY ?_
   refine BN ?_
   refine AK ?_
   refine AC ?_
   refine AF ?_
   refine AZ ?_
   refine AK ?_
   refine AC ?_
   refine AF ?_
   refine CH ?_
   refine AK ?_
   refine AE ?_
   refine AQ rfl ?_
   refine AB ?_
   refine AA ?_
   refine AD ?_
   refine AD ?_
   refine AE ?_
   exact AI (res2 rfl rfl rfl) rsubZ selZ ⟨emp, ⟨_, rfl, OwnS.nil _ _⟩, rfl⟩
 have hR : freeRes qs cs l n s = (freeP (qs.getD n.toNat 0) s (lvH l n), 0) := by unfold freeRes; rw [if_neg (fun h => h h0), if_neg hbad]
 rw [hR]
 obtain ⟨nn, rfl⟩ := Int.eq_ofNat_of_zero_le (show 0 ≤ n by omega)
 have hQ := List.getElem?_eq_getElem (show nn < qs.length by omega)
 have hgd : qs.getD (nn : Int).toNat 0 = qs[nn] := by rw [Int.toNat_natCast, List.getD_eq_getElem?_getD, hQ]; rfl
 rw [hgd]
 have hQb := (chkPl_quo (chkH_pl h0)).2 nn _ hQ
 generalize qs[nn] = Q at hQ hQb
 refine BG ?_
 refine AE ?_
 refine AM rfl ?_
 refine AL ?_
 refine AB ?_
 refine AB ?_
 refine AA ?_
 refine AF ?_
 refine AZ ?_
 refine AC ?_
 refine AF ?_
 refine AG ?_
 refine AF ?_
 refine AY ?_
 refine BN ?_
 refine AK ?_
 refine AC ?_
 refine AF ?_
 refine AZ ?_
 refine AK ?_
 refine AC ?_
 refine AF ?_
 refine BO ?_
 refine AK ?_
 refine AE ?_
 refine AM rfl ?_
 refine AL ?_
 refine AB ?_
 refine AA ?_
 refine BS ?_; rintro _ _ ⟨b, rfl, rfl⟩
 refine AE ?_
 refine AB ?_
 refine AA ?_
 refine BS ?_; rintro _ _ ⟨b, rfl, rfl⟩
 refine BH ?_; rintro _ _ ⟨rfl, rfl⟩
 refine AE ?_
 refine AB ?_
 refine AA ?_
 refine BX ?_
 refine BS ?_; rintro _ _ ⟨b, rfl, rfl⟩
 refine BH ?_; rintro _ _ ⟨rfl, rfl⟩
 refine AE ?_
 refine AB ?_
 refine AA ?_
 refine BX ?_
 refine AD ?_
 refine AE ?_
 refine AB ?_
 refine AA ?_
 refine AC ?_
 revert b; intro b12
 revert b; intro bf
 revert b; intro bo
 refine AU (ρ := sng b12 _) takeZ ?_
 have c12 : rdc (sng b12 (.cells #[fnEnd bf bo] 192 (0, 0))) b12 0 = some (fnEnd bf bo) := by rw [rdc_sng]; rfl
 refine BT (at_spec ρ b4 b6 b7 b12 bf bo _ pq kq qs nn Q s (-1) 0 0 _ [] emp hq hQ hQb (by omega) (OwnS.nil _ _) (by simp)) rfl rfl takesZ rdZ rfl rfl ?_
 rintro _ _ ⟨rfl, u1, σ1, hO1, rfl⟩
 refine AE ?_
 refine AB ?_
 refine AB ?_
 refine AA ?_
 refine AC ?_
 refine AF ?_
 refine B6 (levels_spec σ _ l nn qs.length hv2 hok (by omega)) rfl rfl rdZ rfl rfl ?_
 rintro ul σl hOl
 have hL : LvAt σl ul (lvH l nn) := hOl.at
 have hll := lvH_len l nn
 have hlv : ∀ x ∈ lvH l nn, 0 ≤ x.v ∧ x.v ≤ 1099511627776 := fun x hx => by
  have h1 := (comb_mem hx).1
  have h2 := stored_bd (n := nn) (t := x.a) hok
  omega
 unfold freeP
 generalize lvH l nn = f at hOl hL hll hlv
 have hF : f.foldl (frL Q s) (frA Q s (-1, []) 0 0) = frS Q s f f.length := by unfold frS; rw [List.take_length]
 rw [hF]
 have hS0 : frA Q s (-1, []) 0 0 = frS Q s f 0 := rfl
 rw [hS0] at hO1
 rw [hS0]
 obtain ⟨pl, cl, rfl, hrl⟩ := hL.val encV_len
 refine AU (ρ := σl) takeZ ?_
 refine AY ?_
 refine AC ?_
 refine AE ?_
 refine AV ?_
 refine BM [10, 12, 13, 43, 44] (X := Nat × (Value × PH)) (0, (u1, σ1)) (fun x => x.1 ≤ f.length ∧ OwnS 139 2 x.2.1 (frS Q s f x.1).2.length ((frS Q s f x.1).2.flatMap encS) x.2.2) (fun x => [(45, int x.1)]) (fun x => [sng bf (.cells #[int (frS Q s f x.1).1] 3 (0, 0)), sng bo (.cells #[x.2.1] 103 (0, 0)), x.2.2]) (fun x => f.length - x.1) pickZ ⟨by dsimp only; omega, hO1⟩ covZ selZ ?_
 clear hO1
 rintro ⟨k, u, σk⟩ ⟨hk, hO⟩
 dsimp only at hk hO ⊢
 have hsl := frS_len Q s f k
 by_cases hlt : k < f.length
 ·have hx := List.getElem?_eq_getElem hlt
  have hvx := hlv _ (List.getElem_mem hlt)
  obtain ⟨b2, o2, rfl, hrd, _, _⟩ := lvRow hrl hx
  have hn := frS_next Q s hx
  generalize f[k] = x at hrd hvx hn
  generalize hst : frS Q s f k = st at hO hsl hn
  obtain ⟨fr, out⟩ := st
  dsimp only at hO hsl ⊢
  by_cases hm : x.a < 1099511627776
  ·have e : frL Q s (fr, out) x = frA Q s (fr, out) x.a x.v := by unfold frL; rw [if_pos hm]
   rw [e] at hn
   refine AB ?_
   refine AA ?_
   refine BI ?_
   refine AE ?_
   refine AB ?_
   refine AQ rfl ?_
   refine AL ?_
   refine AB ?_
   refine AV ?_
   refine AB ?_
   refine AA ?_
   refine A9 ?_
   refine AN ?_
   refine A4 ?_; rintro _ _ ⟨b, rfl, rfl⟩
   refine A2 ?_; rintro _ _ ⟨rfl, rfl⟩
   refine AE ?_
   refine AB ?_
   refine AA ?_
   refine AG ?_
   refine AF ?_
   refine BI ?_
   refine AE ?_
   refine AQ rfl ?_
   refine AA ?_
   refine AC ?_
   refine AG ?_
   refine AF ?_
   refine AG ?_
   refine AF ?_
   refine BT (at_spec ρ b4 b6 b7 b12 bf bo _ pq kq qs nn Q s fr x.a x.v u out σk hq hQ hQb hvx hO (by omega)) rfl rfl takesZ rdZ rfl rfl ?_
   rw [← hn]
   rintro _ _ ⟨rfl, u2, σ2, hO2, rfl⟩
   refine AE ?_
   refine A8 ?_
   refine AA ?_
   refine BD ?_
   refine AC ?_
   refine AE ?_
   exact A5 (k + 1, (u2, σ2)) ⟨by dsimp only; omega, hO2⟩ (by dsimp only; omega) covZ selZ
  ·have e : frL Q s (fr, out) x = (fr, out) := by unfold frL; rw [if_neg hm]
   rw [e] at hn
   refine AB ?_
   refine AA ?_
   refine BI ?_
   refine AE ?_
   refine AB ?_
   refine AQ rfl ?_
   refine AL ?_
   refine AB ?_
   refine AV ?_
   refine AB ?_
   refine AA ?_
   refine A9 ?_
   refine AN ?_
   refine A4 ?_; rintro _ _ ⟨b, rfl, rfl⟩
   refine A2 ?_; rintro _ _ ⟨rfl, rfl⟩
   refine AE ?_
   refine AB ?_
   refine AA ?_
   refine AG ?_
   refine AF ?_
   refine AZ ?_
   refine AE ?_
   refine AM rfl ?_
   refine AL ?_
   refine A8 ?_
   refine AA ?_
   refine BD ?_
   refine AC ?_
   refine AE ?_
   refine A5 (k + 1, (u, σk)) ⟨by dsimp only; omega, by dsimp only; rw [hn]; exact hO⟩ (by dsimp only; omega) covZ ?_
   dsimp only
   rw [hn]
   exact selZ
 ·have hke : k = f.length := by omega
  subst hke
  generalize frS Q s f f.length = st at hO hsl
  obtain ⟨fr, out⟩ := st
  dsimp only at hO hsl ⊢
  refine AB ?_
  refine AA ?_
  refine AZ ?_
  refine AE ?_
  refine AB ?_
  refine AM rfl ?_
  refine BE rfl ?_
  refine AB ?_
  refine AA ?_
  refine AF ?_
  refine BT (end_spec bf bo fr 1099511627776 u out σk hO (by omega)) rfl rfl takesZ (fun τ hτ => by simp at hτ) rfl rfl ?_
  rintro _ _ ⟨rfl, u2, σ2, hO2, rfl⟩
  refine AE ?_
  refine AB ?_
  refine AA ?_
  refine AF ?_
  refine AD ?_
  refine AD ?_
  refine AE ?_
  exact AI (res2 rfl rfl rfl) rsubZ selZ ⟨σ2, ⟨u2, rfl, hO2⟩, rfl⟩
end Go.Proofs.YtijheemiknkleaaGreatDoor
/- What a search builds out of tables and a request. -/
namespace Go.Proofs.YtijheemiknkleaaGreatDoor
open Go.Eng Go.Step
set_option maxRecDepth 100000
set_option maxHeartbeats 4000000

def encRaw (v : Value) : List Value := [v]
theorem encRaw_len (v : Value) : (encRaw v).length = 1 := rfl
structure RawS (γ : PH) (raw : List Value) (L : List (List (Int × Int))) : Prop where
 len : raw.length = L.length
 get : ∀ (i : Nat) (l : List (Int × Int)), L[i]? = some l → ∃ q k, raw[i]? = some (Value.slice q l.length k) ∧ SlE encS 2 γ (.slice q l.length k) l
theorem RawS.nil : RawS emp [] [] := ⟨rfl, fun i l h => by simp at h⟩
theorem RawS.snoc {γ δ χ : PH} {raw : List Value} {L : List (List (Int × Int))} (h : RawS γ raw L) (s1 : PH.sub γ δ) {v : Value} {l : List (Int × Int)} (hv : SlE encS 2 χ v l) (s2 : PH.sub χ δ) : RawS δ (raw ++ [v]) (L ++ [l]) := by
 refine ⟨by rw [List.length_append, List.length_append, h.len]; rfl, fun i l' hl => ?_⟩
 by_cases hi : i < L.length
 ·rw [List.getElem?_append_left hi] at hl
  obtain ⟨q, k, e1, e2⟩ := h.get i l' hl
  exact ⟨q, k, by rw [List.getElem?_append_left (by rw [h.len]; exact hi)]; exact e1, e2.mono s1⟩
 ·have hi2 := (List.getElem?_eq_some_iff.1 hl).1
  rw [List.length_append, List.length_singleton] at hi2
  have : i = L.length := by omega
  subst this
  rw [List.getElem?_append_right (by omega), Nat.sub_self] at hl
  obtain rfl : l = l' := by simpa using hl
  obtain ⟨p, c, rfl, _⟩ := SlE.val (enc := encS) encS_len hv
  refine ⟨p, c, ?_, hv.mono s2⟩
  rw [List.getElem?_append_right (by rw [h.len]; omega), h.len, Nat.sub_self]
  rfl
theorem RawS.sps {γ δ χ : PH} {raw : List Value} {L : List (List (Int × Int))} (h : RawS γ raw L) {T : TypeId} {v : Value} (hO : OwnS T 1 v raw.length (raw.flatMap encRaw) χ) (s1 : PH.sub γ δ) (s2 : PH.sub χ δ) : ∃ p k, v = .slice p L.length k ∧ SpsAt δ p L := by
 obtain ⟨p, k, e, hr⟩ := SlE.val (enc := encRaw) encRaw_len (show SlE encRaw 1 χ v raw from hO.at)
 refine ⟨p, k, by rw [e, h.len], fun i l hl => ?_⟩
 obtain ⟨q, c, e1, e2⟩ := h.get i l hl
 obtain ⟨b, o, e3, hrd⟩ := hr i _ e1
 have := s2.rdc (hrd.get0 (v := .slice q l.length c) (vs := []))
 rw [Nat.mul_one] at this
 exact ⟨b, o, q, c, e3, this, e2.mono s1⟩
theorem rowsE_mono {α : Type} {enc : α → List Value} {s : Nat} {ρ γ : PH} {p : Option Addr} {l : List α} (h : RowsE enc s ρ p l) (hs : PH.sub ρ γ) : RowsE enc s γ p l := fun i x hx => by
 obtain ⟨b, o, e, hr⟩ := h i x hx
 exact ⟨b, o, e, fun j v hv => hs.rdc (hr j v hv)⟩
theorem creq_spec {ρ τ : PH} {pq pc : Option Addr} {kq kc : Nat} {qs : List Int} {cs : List Ct} {q : Rq} (hq : IntsAt ρ (.slice pq qs.length kq) qs) (hc : CtAt τ (.slice pc cs.length kc) cs) (hcap : cs.length ≤ kc) (lq : qs.length ≤ 9223372036854775807) (lc : cs.length ≤ 9223372036854775807) (hp : chkPl qs cs = 0) (ho : okRq qs.length q) :
  Ans Tryz.prog (fv 48) [.agg #[.slice pq qs.length kq, .slice pc cs.length kc], .agg #[int q.src, int q.dst, int q.size, int q.rdy, int q.dln, int q.pri, .bool q.cus]] [ρ, τ] (fun r => r = int 0) := by
 obtain ⟨⟨a1, a2, a3, a4⟩, a5, ⟨a6, a7, a8, a9, a10⟩, a11, a12⟩ := ho
 have hck := planCheck_spec ρ τ pq pc kq kc qs cs hq hc hcap lq lc
 rw [hp] at hck
 refine spec_in (cap := []) Tryz.func48 rfl rfl Tryz.ntmps48 rfl envZ (fun N β => ?_)
 refine AB ?_
 refine AA ?_
 refine BF (BC rfl) rfl rfl rfl ?_
 rintro _ _ ⟨b2, rfl, rfl⟩
 refine BF (BC rfl) rfl rfl rfl ?_
 rintro _ _ ⟨b3, rfl, rfl⟩
 refine AU (ρ := sng b2 _) takeZ ?_
 refine AU (ρ := sng b3 _) takeZ ?_
 have cp : RdN (sng b2 (.cells #[.slice pq qs.length kq, .slice pc cs.length kc] 25 (0, 0))) b2 0 [.slice pq qs.length kq, .slice pc cs.length kc] := rdN_sng (vs := [.slice pq qs.length kq, .slice pc cs.length kc])
 have p0 : rdc (sng b2 (.cells #[.slice pq qs.length kq, .slice pc cs.length kc] 25 (0, 0))) b2 0 = some (.slice pq qs.length kq) := by rw [rdc_sng]; rfl
 have r0 : rdc (sng b3 (.cells #[int q.src, int q.dst, int q.size, int q.rdy, int q.dln, int q.pri, .bool q.cus] 31 (0, 0))) b3 0 = some (int q.src) := by rw [rdc_sng]; rfl
 have r1 : rdc (sng b3 (.cells #[int q.src, int q.dst, int q.size, int q.rdy, int q.dln, int q.pri, .bool q.cus] 31 (0, 0))) b3 1 = some (int q.dst) := by rw [rdc_sng]; rfl
 have r2 : rdc (sng b3 (.cells #[int q.src, int q.dst, int q.size, int q.rdy, int q.dln, int q.pri, .bool q.cus] 31 (0, 0))) b3 2 = some (int q.size) := by rw [rdc_sng]; rfl
 have r3 : rdc (sng b3 (.cells #[int q.src, int q.dst, int q.size, int q.rdy, int q.dln, int q.pri, .bool q.cus] 31 (0, 0))) b3 3 = some (int q.rdy) := by rw [rdc_sng]; rfl
 have r4 : rdc (sng b3 (.cells #[int q.src, int q.dst, int q.size, int q.rdy, int q.dln, int q.pri, .bool q.cus] 31 (0, 0))) b3 4 = some (int q.dln) := by rw [rdc_sng]; rfl
 have r5 : rdc (sng b3 (.cells #[int q.src, int q.dst, int q.size, int q.rdy, int q.dln, int q.pri, .bool q.cus] 31 (0, 0))) b3 5 = some (int q.pri) := by rw [rdc_sng]; rfl
 refine AD ?_
 refine AE ?_
 refine AB ?_
 refine AA ?_
 refine AG ?_
 refine AF ?_
 refine AY ?_
 refine AD ?_
 refine AE ?_
 refine AB ?_
 refine AV ?_
 refine AB ?_
 refine AA ?_
 refine AN ?_
 refine A3 hck rfl rfl rdZ rfl rfl ?_
 rintro _ rfl
 refine BG ?_
 refine AD ?_
 refine AE ?_
 refine AM rfl ?_
 refine AB ?_
 refine AA ?_
 refine AG ?_
 refine AF ?_
 refine AZ ?_
 refine AC ?_
 refine AG ?_
 refine AF ?_
 refine AC ?_
 refine BN ?_
 refine AK ?_
 refine AC ?_
 refine AG ?_
 refine AF ?_
 refine AZ ?_
 refine AK ?_
 refine AC ?_
 refine AG ?_
 refine AF ?_
 refine AC ?_
 refine BN ?_
 refine AK ?_
 refine AD ?_
 refine AE ?_
 refine AM rfl ?_
 refine AB ?_
 refine AA ?_
 refine AG ?_
 refine AF ?_
 refine AG ?_
 refine AF ?_
 refine B4 ?_
 refine AD ?_
 refine AE ?_
 refine AM rfl ?_
 refine AB ?_
 refine AA ?_
 refine AG ?_
 refine AF ?_
 refine AZ ?_
 refine AC ?_
 refine AG ?_
 refine AF ?_
 refine BO ?_
 refine AK ?_
 refine AC ?_
 refine AG ?_
 refine AF ?_
 refine AZ ?_
 refine AK ?_
 refine AC ?_
 refine AG ?_
 refine AF ?_
 refine AG ?_
 refine AF ?_
 refine BO ?_
 refine AK ?_
 refine AC ?_
 refine AG ?_
 refine AF ?_
 refine BO ?_
 refine AK ?_
 refine AD ?_
 refine AE ?_
 refine AM rfl ?_
 refine AB ?_
 refine AA ?_
 refine AG ?_
 refine AF ?_
 refine AZ ?_
 refine AC ?_
 refine AG ?_
 refine AF ?_
 refine BO ?_
 refine AK ?_
 refine AD ?_
 refine AE ?_
 refine AM rfl ?_
 refine AL ?_
 refine A8 ?_
 refine AB ?_
 refine AA ?_
 refine AD ?_
 refine AE ?_
 exact AI (res1 rfl rfl) rsubZ selZ ⟨rfl, rfl⟩
set_option maxHeartbeats 32000000 in
theorem build_spec {ρ τ σ υ : PH} {pq pc pb ph : Option Addr} {kq kc kb kh : Nat} {qs : List Int} {cs : List Ct} {bs : List Bk} {hs : List Hd} {q : Rq} (hT : TbAt ρ τ σ υ pq pc pb ph kq kc kb kh qs cs bs hs) (hK : TOK qs cs bs hs q) :
  Makes Tryz.prog (fv 19) [.agg #[.slice pq qs.length kq, .slice pc cs.length kc, .slice pb bs.length kb, .slice ph hs.length kh], .agg #[int q.src, int q.dst, int q.size, int q.rdy, int q.dln, int q.pri, .bool q.cus]] [ρ, τ, σ, υ] (fun r χ => ∃ A, r = .tuple #[gp A, .bool true] ∧ GrAt χ τ A (grOf qs cs bs hs q)) := by
 obtain ⟨hp, hb0, hh⟩ := chkT_ok hK.t
 have hct := chkTab_spec hT
 rw [hK.t] at hct
 have hcr := creq_spec (q := q) hT.hq hT.hc hT.hcap hT.lq hT.lc hp hK.q
 have hlq := hK.lq
 have hlc := hK.lc
 have hlq1 := (chkPl_ok hp).1.1
 have hsz : 1 ≤ q.size ∧ q.size ≤ 65536 := ⟨hK.q.2.2.1.1, hK.q.2.2.1.2.1⟩
 refine spec_in (cap := []) Tryz.func19 rfl rfl Tryz.ntmps19 rfl envZ (fun N β => ?_)
 refine AB ?_
 refine AA ?_
 refine BF (BC rfl) rfl rfl rfl ?_
 rintro _ _ ⟨b2, rfl, rfl⟩
 refine BF (BC rfl) rfl rfl rfl ?_
 rintro _ _ ⟨b3, rfl, rfl⟩
 refine AU (ρ := sng b2 _) takeZ ?_
 refine AU (ρ := sng b3 _) takeZ ?_
 have ct : RdN (sng b2 (.cells #[.slice pq qs.length kq, .slice pc cs.length kc, .slice pb bs.length kb, .slice ph hs.length kh] 29 (0, 0))) b2 0 [.slice pq qs.length kq, .slice pc cs.length kc, .slice pb bs.length kb, .slice ph hs.length kh] := rdN_sng (vs := [.slice pq qs.length kq, .slice pc cs.length kc, .slice pb bs.length kb, .slice ph hs.length kh])
 have ct0 : rdc (sng b2 (.cells #[.slice pq qs.length kq, .slice pc cs.length kc, .slice pb bs.length kb, .slice ph hs.length kh] 29 (0, 0))) b2 0 = some (.slice pq qs.length kq) := by rw [rdc_sng]; rfl
 have ct1 : rdc (sng b2 (.cells #[.slice pq qs.length kq, .slice pc cs.length kc, .slice pb bs.length kb, .slice ph hs.length kh] 29 (0, 0))) b2 1 = some (.slice pc cs.length kc) := by rw [rdc_sng]; rfl
 have ct2 : rdc (sng b2 (.cells #[.slice pq qs.length kq, .slice pc cs.length kc, .slice pb bs.length kb, .slice ph hs.length kh] 29 (0, 0))) b2 2 = some (.slice pb bs.length kb) := by rw [rdc_sng]; rfl
 have ct3 : rdc (sng b2 (.cells #[.slice pq qs.length kq, .slice pc cs.length kc, .slice pb bs.length kb, .slice ph hs.length kh] 29 (0, 0))) b2 3 = some (.slice ph hs.length kh) := by rw [rdc_sng]; rfl
 have ctp : RdP (sng b2 (.cells #[.slice pq qs.length kq, .slice pc cs.length kc, .slice pb bs.length kb, .slice ph hs.length kh] 29 (0, 0))) b2 0 [.slice pq qs.length kq, .slice pc cs.length kc] := rdP_sng (xs := [.slice pq qs.length kq, .slice pc cs.length kc, .slice pb bs.length kb, .slice ph hs.length kh]) rfl
 have cr : RdN (sng b3 (.cells #[int q.src, int q.dst, int q.size, int q.rdy, int q.dln, int q.pri, .bool q.cus] 31 (0, 0))) b3 0 [int q.src, int q.dst, int q.size, int q.rdy, int q.dln, int q.pri, .bool q.cus] := rdN_sng (vs := [int q.src, int q.dst, int q.size, int q.rdy, int q.dln, int q.pri, .bool q.cus])
 have r2 : rdc (sng b3 (.cells #[int q.src, int q.dst, int q.size, int q.rdy, int q.dln, int q.pri, .bool q.cus] 31 (0, 0))) b3 2 = some (int q.size) := by rw [rdc_sng]; rfl
 refine AD ?_
 refine AD ?_
 refine AE ?_
 refine AB ?_
 refine AB ?_
 refine AA ?_
 refine AN ?_
 refine A3 hct rfl rfl rdZ rfl rfl ?_
 rintro _ rfl
 refine BG ?_
 refine AC ?_
 refine AG ?_
 refine AN ?_
 refine AN ?_
 refine A3 hcr rfl rfl rdZ rfl rfl ?_
 rintro _ rfl
 refine BG ?_
 refine AK ?_
 refine AE ?_
 refine AM rfl ?_
 refine AL ?_
 refine AB ?_
 refine AA ?_
 refine AN ?_
 refine AN ?_
 refine CD (C6 (out := [.slice pq qs.length kq, .slice pc cs.length kc, .slice pb bs.length kb, .slice ph hs.length kh, int q.src, int q.dst, int q.size, int q.rdy, int q.dln, int q.pri, .bool q.cus, .slice none 0 0, .slice none 0 0, .slice none 0 0]) rfl rfl rfl rfl rfl) rfl rfl rfl ?_
 refine BF (BC rfl) rfl rfl rfl ?_
 rintro _ _ ⟨bG, rfl, rfl⟩
 refine CA ?_
 refine CA ?_
 refine CA ?_
 refine AD ?_
 refine AE ?_
 refine AB ?_
 refine AB ?_
 refine AA ?_
 refine AG ?_
 refine AG ?_
 refine AF ?_
 refine AY ?_
 refine AC ?_
 refine AE ?_
 refine AV ?_
 refine BM [2, 3, 4, 6, 32, 33] (X := (Nat × List Value) × ((Value × PH) × (Value × PH) × PH)) ((0, []), ((.slice none 0 0, emp), (.slice none 0 0, emp), emp)) (fun z => z.1.1 ≤ cs.length ∧ OwnS 103 1 z.2.1.1 z.1.2.length (z.1.2.flatMap encRaw) z.2.1.2 ∧ OwnS 3 1 z.2.2.1.1 ((cs.take z.1.1).map (fun c => durC c q.size)).length (((cs.take z.1.1).map (fun c => durC c q.size)).flatMap Eng.encI) z.2.2.1.2 ∧ RawS z.2.2.2 z.1.2 ((List.range z.1.1).map (freeC cs bs))) (fun z => [(34, int z.1.1)]) (fun z => [sng bG (.cells #[.slice pq qs.length kq, .slice pc cs.length kc, .slice pb bs.length kb, .slice ph hs.length kh, int q.src, int q.dst, int q.size, int q.rdy, int q.dln, int q.pri, .bool q.cus, z.2.1.1, .slice none 0 0, z.2.2.1.1] 126 (0, 0)), z.2.1.2, z.2.2.1.2, z.2.2.2]) (fun z => cs.length - z.1.1) pickZ ⟨by dsimp only; omega, OwnS.nil _ _, OwnS.nil _ _, RawS.nil⟩ covZ selZ ?_
 rintro ⟨⟨k, raw⟩, ⟨⟨gv, χg⟩, ⟨dv, χd⟩, γ⟩⟩ ⟨hk, hOg, hOd, hR⟩
 dsimp only at hk hOg hOd hR ⊢
 have hg1 := oneO _ _ _ _ hOg
 have hd1 := oneO _ _ _ _ hOd
 have hrl := hR.len
 rw [List.length_map, List.length_range] at hrl
 by_cases hlt : k < cs.length
 ·have hx := List.getElem?_eq_getElem hlt
  have hck := (Go.Step.chkPl_ct hp (List.mem_of_getElem? hx)).1
  have hfr := bkFree_spec hT k _ hx hb0
  have hdu := dur_spec cs[k] q.size hck hsz
  have hdl : ((cs.take k).map (fun c => durC c q.size)).length = k := by rw [List.length_map, List.length_take]; omega
  have hdn : (cs.take (k + 1)).map (fun c => durC c q.size) = (cs.take k).map (fun c => durC c q.size) ++ [durC cs[k] q.size] := by rw [List.take_add_one, hx, List.map_append]; rfl
  have hgn : (List.range (k + 1)).map (freeC cs bs) = (List.range k).map (freeC cs bs) ++ [freeC cs bs k] := by rw [List.range_succ, List.map_append]; rfl
  generalize (cs.take k).map (fun c => durC c q.size) = Ds at hOd hdl hdn
  generalize freeC cs bs k = F at hfr hgn
  obtain ⟨bq, oq, rfl, hrd⟩ := ctRow hT.rc hx
  generalize cs[k] = c at hx hck hdu hdn hrd
  refine AB ?_
  refine AA ?_
  refine BI ?_
  refine AE ?_
  refine AB ?_
  refine AQ rfl ?_
  refine AL ?_
  refine AB ?_
  refine AV ?_
  refine AB ?_
  refine AA ?_
  refine AC ?_
  refine A9 ?_
  refine AN ?_
  refine A4 ?_; rintro _ _ ⟨b, rfl, rfl⟩
  refine AD ?_
  refine A2 ?_; rintro _ _ ⟨rfl, rfl⟩
  refine AE ?_
  refine AB ?_
  refine AA ?_
  refine AG ?_
  refine AN ?_
  refine AG ?_
  refine AF ?_
  refine AC ?_
  revert b; intro b8
  refine B6 hfr rfl rfl rdZ rfl rfl ?_
  rintro _ χ ⟨u, rfl, hO⟩
  obtain ⟨pu, ku, rfl⟩ := hO.form
  have hSu : SlE encS 2 χ (.slice pu F.length ku) F := hO.at
  refine AC ?_
  refine AX ?_
  refine AX ?_
  refine AD ?_
  refine AD ?_
  refine AE ?_
  refine AB ?_
  refine AA ?_
  refine AN ?_
  refine AG ?_
  refine AF ?_
  refine A3 hdu rfl rfl rdZ rfl rfl ?_
  rintro _ rfl
  refine AC ?_
  refine AX ?_
  refine AX ?_
  refine AD ?_
  refine AD ?_
  refine AE ?_
  generalize durC c q.size = dd at hdn
  refine D8 (X := (Value × PH) × (Value × PH)) [2, 3, 4, 6, 32, 33, 34] (fun x => OwnS 103 1 x.1.1 (raw ++ [Value.slice pu F.length ku]).length ((raw ++ [Value.slice pu F.length ku]).flatMap encRaw) x.1.2 ∧ OwnS 3 1 x.2.1 (Ds ++ [dd]).length ((Ds ++ [dd]).flatMap Eng.encI) x.2.2) (fun _ => []) (fun x => [sng bG (.cells #[.slice pq qs.length kq, .slice (some ⟨bq, oq, none⟩) cs.length kc, .slice pb bs.length kb, .slice ph hs.length kh, int q.src, int q.dst, int q.size, int q.rdy, int q.dln, int q.pri, .bool q.cus, x.1.1, .slice none 0 0, x.2.1] 126 (0, 0)), x.1.2, x.2.2, γ, χ]) pickZ ?_ ?_
  ·refine BA (.p 0 (.p 1 (.q 2 (.q 3 (.q 4 (.q 5 (.q 6 (.p 9 (.p 10 (.p 11 (.p 12 (.p 13 (.l2 7 .e (.l2 8 .b (.l 14 .e (.l 15 .b (.q 16 (.q 17 (.l 18 .b (.q 19 (.q 20 (.l 21 .b .nil)))))))) 14 .e (.l 8 .b (.l 15 .b (.q 16 (.q 17 (.l 18 .b (.q 19 (.q 20 (.l 21 .b .nil))))))))) 14 .e (.l 7 .e (.l 8 .b (.l 15 .b (.q 16 (.q 17 (.l 18 .b (.q 19 (.q 20 (.l 21 .b .nil)))))))))))))))))))))) [sng bG _] rfl (by kernel_rfl) selZ ?_
   repeat' (first
    | (refine AS ?_)
    | (refine AP ?_)
    | (refine AW ?_)
    | (refine A6 ?_)
    | (refine FJ ?_)
    | (refine EL ?_)
    | (refine EM ?_)
    | (refine DU ?_)
    | (refine FD ?_ ?_)
    | (refine B0 ?_; rintro _ _ ⟨b, rfl, rfl⟩)
    | (refine CY ?_; rintro _ _ ⟨b, rfl, rfl⟩)
    | fail)
   all_goals (try refine CJ ?_)
   all_goals (refine' a_b rfl _ rfl rfl rfl _ _; rotate_left; (focus (exact B5 (by_ := 24) (s := 1) (news := [Value.slice pu F.length ku]) rfl rfl rfl rfl rfl rfl rfl hOg takeZ (cells_own memZ) rfl (by (repeat (first | exact (fun v hv => absurd hv List.not_mem_nil) | (refine List.forall_mem_cons.2 ⟨?_, ?_⟩; (focus (first | exact rfl | assumption))))); first | done | fail) (by omega) (by simp only [maxLen]; omega) (by omega))); (focus (rintro _ _ ⟨_, _, rfl⟩ w hw; exact hw.sel selZ)); rintro q1 _ ⟨ρ1, hQ1, rfl⟩)
   all_goals have h1 := oneO _ _ _ _ hQ1
   repeat' (first
    | (refine B0 ?_; rintro _ _ ⟨b, rfl, rfl⟩)
    | fail)
   all_goals (refine CJ ?_; refine' a_b rfl _ rfl rfl rfl _ _; rotate_left; (focus (exact B5 (by_ := 8) (s := 1) (news := [int dd]) rfl rfl rfl rfl rfl rfl rfl hOd takeZ (cells_own memZ) rfl (by (repeat (first | exact (fun v hv => absurd hv List.not_mem_nil) | (refine List.forall_mem_cons.2 ⟨?_, ?_⟩; (focus (first | exact rfl | assumption))))); first | done | fail) (by omega) (by simp only [maxLen]; omega) (by omega))); (focus (rintro _ _ ⟨_, _, rfl⟩ w hw; exact hw.sel selZ)); rintro q2 _ ⟨ρ2, hQ2, rfl⟩)
   all_goals have h2 := oneO _ _ _ _ hQ2
   repeat' (first
    | (refine AW ?_)
    | (refine A6 ?_)
    | fail)
   all_goals (refine CJ ?_; refine' EP rfl _ rfl (.inr ⟨rfl, rfl⟩) (by kernel_rfl) (Hf' := []) _ _; rotate_left; (focus (apply C5; exact rfl; exact rfl; exact h1; exact rfl; exact takeZ; (focus (repeat (first | exact SetL.here | apply SetL.there)); done))); (focus (rintro _ _ ⟨_, rfl⟩ w hw; exact hw.sel selZ)); rintro _ _ ⟨rfl, rfl⟩)
   repeat' (first
    | (refine AW ?_)
    | (refine A6 ?_)
    | (refine A7 ?_)
    | (refine CK ?_; rintro _ _ ⟨rfl, rfl⟩)
    | fail)
   all_goals exact DG ((q1, ρ1), (q2, ρ2)) ⟨by rw [List.length_append, List.flatMap_append]; exact hQ1, by rw [List.length_append, List.flatMap_append]; exact hQ2⟩ covZ selZ
  rintro ⟨⟨q1, ρ1⟩, ⟨q2, ρ2⟩⟩ ⟨hQ1, hQ2⟩
  dsimp only at hQ1 hQ2 ⊢
  refine C8 (ρ := γ) (σ := χ) takeZ takeZ (fun δ s1 s2 => ?_)
  refine A8 ?_
  refine AA ?_
  refine BD ?_
  refine AC ?_
  refine AE ?_
  refine A5 ((k + 1, raw ++ [Value.slice pu F.length ku]), ((q1, ρ1), (q2, ρ2), δ)) ⟨by dsimp only; omega, hQ1, ?_, ?_⟩ (by dsimp only; omega) covZ selZ
  ·dsimp only
   rw [hdn]; exact hQ2
  ·dsimp only
   rw [hgn]; exact hR.snoc s1 hSu s2
 have hke : k = cs.length := by omega
 subst hke
 rw [List.take_length] at hOd
 refine CA ?_
 refine CA ?_
 refine AB ?_
 refine AA ?_
 refine AZ ?_
 refine AE ?_
 refine AB ?_
 refine AM rfl ?_
 refine BE rfl ?_
 refine AB ?_
 refine AB ?_
 refine AA ?_
 refine AG ?_
 refine AG ?_
 refine AF ?_
 refine AY ?_
 refine AC ?_
 refine AE ?_
 refine AV ?_
 refine BM [2, 3, 4, 6, 78, 79] (X := (Nat × List Value) × ((Value × PH) × PH)) ((0, []), ((.slice none 0 0, emp), emp)) (fun z => z.1.1 ≤ qs.length ∧ OwnS 103 1 z.2.1.1 z.1.2.length (z.1.2.flatMap encRaw) z.2.1.2 ∧ RawS z.2.2 z.1.2 ((List.range z.1.1).map (fun n => freeP (qs.getD n 0) q.size (lvH hs n)))) (fun z => [(80, int z.1.1)]) (fun z => [sng bG (.cells #[.slice pq qs.length kq, .slice pc cs.length kc, .slice pb bs.length kb, .slice ph hs.length kh, int q.src, int q.dst, int q.size, int q.rdy, int q.dln, int q.pri, .bool q.cus, gv, z.2.1.1, dv] 126 (0, 0)), z.2.1.2, z.2.2, χg, χd, γ]) (fun z => qs.length - z.1.1) pickZ ⟨by dsimp only; omega, OwnS.nil _ _, RawS.nil⟩ covZ selZ ?_
 rintro ⟨⟨k, raw2⟩, ⟨⟨rv, χr⟩, γ2⟩⟩ ⟨hk, hOr, hR2⟩
 dsimp only at hk hOr hR2 ⊢
 have hr1 := oneO _ _ _ _ hOr
 have hrl2 := hR2.len
 rw [List.length_map, List.length_range] at hrl2
 by_cases hlt : k < qs.length
 ·have hfr := free_spec ρ τ υ pq pc kq kc qs cs _ hs (k : Int) q.size hT.hq hT.hc hT.hcap hT.lq hT.lc hT.hh hT.lh
  have hfe : freeRes qs cs hs (k : Int) q.size = (freeP (qs.getD k 0) q.size (lvH hs k), 0) := by
   unfold freeRes
   rw [if_neg (by simp [hh]), if_neg (by omega), Int.toNat_natCast]
  rw [hfe] at hfr
  dsimp only at hfr
  have hgn : (List.range (k + 1)).map (fun n : Nat => freeP (qs.getD n 0) q.size (lvH hs n)) = (List.range k).map (fun n : Nat => freeP (qs.getD n 0) q.size (lvH hs n)) ++ [freeP (qs.getD k 0) q.size (lvH hs k)] := by rw [List.range_succ, List.map_append]; rfl
  generalize freeP (qs.getD k 0) q.size (lvH hs k) = R at hfr hgn
  refine AB ?_
  refine AA ?_
  refine BI ?_
  refine AE ?_
  refine AB ?_
  refine AQ rfl ?_
  refine AL ?_
  refine AB ?_
  refine AV ?_
  refine AB ?_
  refine AA ?_
  refine AC ?_
  refine AD ?_
  refine AE ?_
  refine AB ?_
  refine AA ?_
  refine AG ?_
  refine AN ?_
  refine AG ?_
  refine AF ?_
  refine AC ?_
  refine AG ?_
  refine AF ?_
  refine B6 hfr rfl rfl rdZ rfl rfl ?_
  rintro _ χ ⟨u, rfl, hO⟩
  obtain ⟨pu, ku, rfl⟩ := hO.form
  have hSu : SlE encS 2 χ (.slice pu R.length ku) R := hO.at
  refine AC ?_
  refine AX ?_
  refine AX ?_
  refine AD ?_
  refine AD ?_
  refine AE ?_
  refine AA ?_
  refine AC ?_
  refine AC ?_
  refine BW ?_
  refine AG ?_
  refine AF ?_
  refine AC ?_
  refine BR ?_; rintro _ _ ⟨b, rfl, rfl⟩
  refine BF (B5 (by_ := 24) (s := 1) (news := [Value.slice pu R.length ku]) rfl rfl rfl rfl rfl rfl rfl hOr takeZ (cells_own memZ) rfl (by (repeat (first | exact (fun v hv => absurd hv List.not_mem_nil) | (refine List.forall_mem_cons.2 ⟨?_, ?_⟩; (focus (first | exact rfl | assumption))))); first | done | fail) (by omega) (by simp only [maxLen]; omega) (by omega)) rfl rfl rfl ?_
  rintro q1 _ ⟨ρ1, hQ1, rfl⟩
  have h1 := oneO _ _ _ _ hQ1
  refine BW ?_
  refine AG ?_
  refine BH ?_; rintro _ _ ⟨rfl, rfl⟩
  refine AE ?_
  refine A8 ?_
  refine AA ?_
  refine BD ?_
  refine AC ?_
  refine AE ?_
  refine C8 (ρ := γ2) (σ := χ) takeZ takeZ (fun δ s1 s2 => ?_)
  refine A5 ((k + 1, raw2 ++ [Value.slice pu R.length ku]), ((q1, ρ1), δ)) ⟨by dsimp only; omega, ?_, ?_⟩ (by dsimp only; omega) covZ selZ
  ·dsimp only
   rw [List.length_append, List.flatMap_append]; exact hQ1
  ·dsimp only
   rw [hgn]; exact hR2.snoc s1 hSu s2
 have hke : k = qs.length := by omega
 subst hke
 refine AB ?_
 refine AA ?_
 refine AZ ?_
 refine AE ?_
 refine AB ?_
 refine AM rfl ?_
 refine BE rfl ?_
 refine AB ?_
 refine AA ?_
 refine AC ?_
 refine AD ?_
 refine AD ?_
 refine AE ?_
 refine DF (A := [sng bG (.cells #[.slice pq qs.length kq, .slice pc cs.length kc, .slice pb bs.length kb, .slice ph hs.length kh, int q.src, int q.dst, int q.size, int q.rdy, int q.dln, int q.pri, .bool q.cus, gv, rv, dv] 126 (0, 0)), χr, γ2, χg, χd, γ]) (B := []) (fun δ hδ => ?_)
 have sB := hδ _ (.head _)
 have sr := hδ χr (by simp)
 have s2 := hδ γ2 (by simp)
 have sg := hδ χg (by simp)
 have sd := hδ χd (by simp)
 have s1 := hδ γ (by simp)
 obtain ⟨pg, kg, rfl, hpg⟩ := hR.sps hOg s1 sg
 obtain ⟨pr, kr, rfl, hpr⟩ := hR2.sps hOr s2 sr
 obtain ⟨pd, kd, rfl, hpd⟩ := SlE.val (enc := Eng.encI) Eng.encI_len (show SlE Eng.encI 1 χd dv (cs.map (fun c => durC c q.size)) from hOd.at)
 have cell : ∀ i v, [.slice pq qs.length kq, .slice pc cs.length kc, .slice pb bs.length kb, .slice ph hs.length kh, int q.src, int q.dst, int q.size, int q.rdy, int q.dln, int q.pri, .bool q.cus, .slice pg ((List.range cs.length).map (freeC cs bs)).length kg, .slice pr ((List.range qs.length).map (fun n : Nat => freeP (qs.getD n 0) q.size (lvH hs n))).length kr, .slice pd (cs.map (fun c => durC c q.size)).length kd][i]? = some v → rdc δ bG i = some v := fun i v hv => sB.rdc (by rw [rdc_sng]; simpa using hv)
 refine AI (res2 rfl rfl rfl) rsubZ selZ ⟨δ, ⟨⟨bG, pq, qs.length, kq, pc, kc, pg, kg, pr, kr, pd, kd⟩, rfl, ?_⟩, rfl⟩
 exact ⟨cell 0 _ rfl, by simp [grOf], cell 1 _ rfl, cell 4 _ rfl, cell 5 _ rfl, cell 7 _ rfl, cell 8 _ rfl, cell 10 _ rfl, cell 11 _ rfl, cell 12 _ rfl, cell 13 _ rfl, hT.rc, hpg, hpr, rowsE_mono hpd sd⟩
end Go.Proofs.YtijheemiknkleaaGreatDoor
