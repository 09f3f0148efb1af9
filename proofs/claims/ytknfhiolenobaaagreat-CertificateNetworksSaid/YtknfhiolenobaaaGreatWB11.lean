/- Texts of this proof, one after the other; no conditions. -/
import Derived.Test.YtknfhiolenobaaaGreatWB10
import Derived.Test.YtknfhiolenobaaaGreatWB3
import Derived.Test.YtknfhiolenobaaaGreatWB2
import Derived.Test.YtknfhiolenobaaaGreatWB7
import Derived.Test.YtknfhiolenobaaaGreatWB9
import Derived.Test.YtknfhiolenobaaaGreatWB5
import Derived.Test.YtknfhiolenobaaaGreatWB6
import Derived.Test.YtknfhiolenobaaaGreatWB4
import Derived.Test.YtknfhiolenobaaaGreatWB1
import Derived.Test.YtknfhiolenobaaaGreatWB8
set_option linter.all false
/- The first shortest path, and the least room on it. -/
namespace Go.Proofs.YtknfhiolenobaaaGreat
open Go.Eng Go.Flow
set_option maxRecDepth 100000
set_option maxHeartbeats 4000000

def ksOf (p : List Lk) : List Int := p.map (fun (x : Lk) => (x.k : Int))
def nxO (outs : Nat → List Lk) (rm : Nat → Int) (D : List Int) (v : Nat) : Option Lk := (openL rm (outs v)).find? (near D v)
theorem nxO_some {n t : Nat} {outs ins : Nat → List Lk} {rm : Nat → Int} {D : List Int} (hO : GOk n outs ins) (hD : IsDist n t (opens n ins rm) D) {v : Nat} (hv : v < n) (hd : 0 < D.getD v 0) :
  ∃ x, nxO outs rm D v = some x ∧ x.f = v ∧ x.t < n ∧ x.k ≤ 40000 ∧ D.getD x.t 0 = D.getD v 0 - 1 ∧ opens n ins rm x := by
 obtain ⟨y, hy, hyf, hyt⟩ := hD.step v hv hd
 have hyn := opens_lt hO y hy
 have hyo : y ∈ outs v := by
  have := (hO.same y hyn.1 hyn.2).2 hy.2.1
  rwa [hyf] at this
 have hmem : y ∈ openL rm (outs v) := by
  unfold openL
  rw [List.mem_filter]
  exact ⟨hyo, by simpa using hy.2.2⟩
 cases e : nxO outs rm D v with
 | none =>
  unfold nxO at e
  rw [List.find?_eq_none] at e
  exact absurd (by unfold near; rw [hyt]; simp) (e y hmem)
 | some x =>
  have hm := List.mem_of_find?_eq_some e
  have hp := List.find?_some e
  unfold openL at hm
  rw [List.mem_filter] at hm
  obtain ⟨h1, h2, h3⟩ := hO.outF v x hv hm.1
  refine ⟨x, rfl, h1, h2, h3, by simpa [near] using hp, h2, (hO.same x (by omega) h2).1 (by rw [h1]; exact hm.1), by simpa using hm.2⟩
set_option maxHeartbeats 2000000 in
theorem path_spec (γ : PH) (gb n s t : Nat) (outs ins : Nat → List Lk) (room : Value) (rm : Nat → Int) (Rr : List PH) (hG : GAt γ gb n outs ins room) (hO : GOk n outs ins) (hs : s < n) (ht : t < n)
  (hrm : ∀ v x, v < n → x ∈ ins v → Ans Tryz.prog room [int x.k] Rr (fun v => v = int (rm x.k))) :
  Makes Tryz.prog (fv 60) [.pointer (some ⟨gb, 0, none⟩), int s, int t] (γ :: Rr) (fun v ρ => ∃ D pv, IsDist n t (opens n ins rm) D ∧ v = .tuple #[pv, .bool (decide (0 ≤ D.getD s 0))] ∧
   OwnS 3 1 pv (pathD (nxO outs rm D) D s).length ((ksOf (pathD (nxO outs rm D) D s)).map int) ρ) := by
 have hn := hO.n1
 obtain ⟨ob, oc, ho, hol⟩ := hG.o
 refine spec_in (cap := []) Tryz.func60 rfl rfl Tryz.ntmps60 rfl envZ (fun N β => ?_)
 refine C6 ?_
 refine AC ?_
 refine AA ?_
 refine AD ?_
 refine AD ?_
 refine AE ?_
 refine AC ?_
 refine AA ?_
 refine AB ?_
 refine AB ?_
 refine C9 (distances_spec γ gb n t outs ins room rm Rr hG hO ht hrm) rfl rfl rdZ rfl rfl ?_
 rintro _ ρD ⟨bD, D, rfl, rfl, hD⟩
 have hDl := hD.len
 refine BG ?_; rintro _ _ ⟨b, rfl, rfl⟩
 refine A6 ?_; rintro _ _ ⟨rfl, rfl⟩
 refine AE ?_
 refine AC ?_
 refine AC ?_
 refine AA ?_
 refine AG ?_
 refine AB ?_
 refine BM ?_
 refine AG ?_
 revert b; intro b8
 by_cases hneg : D.getD s 0 < 0
 ·refine BH ?_
  refine AE ?_
  refine AM rfl ?_
  refine AC ?_
  refine AA ?_
  refine AD ?_
  refine AD ?_
  refine AE ?_
  refine AI (res2 rfl rfl rfl) rsubZ selZ ⟨emp, ⟨D, .slice none 0 0, hD, ?_, ?_⟩, rfl⟩
  ·rw [show decide (0 ≤ D.getD s 0) = false from decide_eq_false (by omega)]
  ·rw [pathD_end (by omega)]
   exact OwnS.nil _ _
 refine A0 ?_
 refine AE ?_
 refine AN rfl ?_
 refine AL ?_
 refine AC ?_
 refine AA ?_
 refine BG ?_; rintro _ _ ⟨b, rfl, rfl⟩
 refine AE ?_
 refine AC ?_
 refine AC ?_
 refine AA ?_
 refine AB ?_
 refine BG ?_; rintro _ _ ⟨b, rfl, rfl⟩
 refine A6 ?_; rintro _ _ ⟨rfl, rfl⟩
 refine AE ?_
 refine AO ?_
 rename_i b9
 revert b; intro b10
 refine AT (ρ := sng b8 _) takeZ ?_
 refine AT (ρ := sng bD _) takeZ ?_
 have c8 : rdc (sng b8 (.cells #[.slice (some ⟨bD, 0, none⟩) n n] 22 (0, 0))) b8 0 = some (.slice (some ⟨bD, 0, none⟩) n n) := by rw [rdc_sng]; rfl
 have hub := hD.lt (opens_lt hO) ht hs
 refine C6 ?_
 refine E8 [0, 1, 2, 8, 9] (((([] : List Lk), s), ((.slice none 0 0, emp), b10)), ([], emp)) (X := ((List Lk × Nat) × ((Value × PH) × Nat)) × (List Nat × PH))
  (fun x => x.2.1.map mk) (fun x => x.1.1.2 < n ∧ 0 ≤ D.getD x.1.1.2 0 ∧ pathD (nxO outs rm D) D s = x.1.1.1 ++ pathD (nxO outs rm D) D x.1.1.2 ∧ OwnS 3 1 x.1.2.1.1 x.1.1.1.length ((ksOf x.1.1.1).map int) x.1.2.1.2 ∧ x.1.1.1.length + (D.getD x.1.1.2 0).toNat ≤ n ∧ MkIn x.2.2 x.2.1)
  (fun x => [(10, .pointer (some ⟨x.1.2.2, 0, none⟩))]) (fun x => [sng x.1.2.2 (.cells #[int (x.1.1.2 : Int)] 3 (0, 0)), sng b9 (.cells #[x.1.2.1.1] 22 (0, 0)), x.1.2.1.2, x.2.2]) (fun x => (D.getD x.1.1.2 0).toNat)
  pickZ rfl ⟨hs, by dsimp only; omega, rfl, OwnS.nil _ _, by dsimp only [List.length_nil]; omega, MkIn.nil⟩ covZ selZ ?_
 rintro ⟨⟨⟨pre, v⟩, ⟨⟨pv, ρp⟩, bv⟩⟩, ⟨ms, μ⟩⟩ ⟨hv, hd0, hpre, hP, hln, hM⟩
 dsimp only at hv hd0 hpre hP hln hM ⊢
 by_cases hvt : v = t
 ·refine AC ?_
  refine AC ?_
  refine AA ?_
  refine AG ?_
  refine AB ?_
  refine A9 ?_
  refine AE ?_
  refine AN rfl ?_
  refine A7 rfl ?_
  refine AC ?_
  refine AA ?_
  refine AG ?_
  refine AD ?_
  refine AD ?_
  refine AE ?_
  refine E6 hM takeZ (res2 rfl rfl rfl) rsubZ selZ ⟨ρp, ⟨D, pv, hD, ?_, ?_⟩, rfl⟩
  ·rw [show decide (0 ≤ D.getD s 0) = true from decide_eq_true (by omega)]
   rfl
  ·rw [hpre, pathD_end (by rw [hvt, hD.at0]; omega), List.append_nil]
   exact hP
 ·have hdv : 0 < D.getD v 0 := by
   by_cases h0 : D.getD v 0 = 0
   ·exact absurd (hD.zero v hv h0) hvt
   ·omega
  obtain ⟨x0, hx0, hx0f, hx0t, hx0k, hx0d, _⟩ := nxO_some hO hD hv hdv
  obtain ⟨lv, hlv, hls⟩ := hol v hv
  refine AC ?_
  refine AC ?_
  refine AA ?_
  refine AG ?_
  refine AB ?_
  refine B9 ?_
  refine AE ?_
  refine AM rfl ?_
  refine AL ?_
  refine AC ?_
  refine AO ?_
  refine AC ?_
  refine BB (.q 0 (.q 1 (.q 2 (.q 3 (.q 4 (.q 5 (.q 6 (.q 7 (.l 8 .e .nil))))))))) [] rfl (by kernel_rfl) selZ ?_
  refine AR ?_
  refine AR ?_
  refine A4 ?_
  refine AV ?_
  refine AQ ?_
  refine AQ ?_
  refine CF ?_
  refine AQ ?_
  refine DE (EN rfl (open_spec _ _ (SlE.one hls) rfl) rfl rfl rdZ rfl rfl ?_)
  rintro _ _ ⟨bl, bg, rfl, rfl⟩
  simp only [List.cons_append, List.nil_append]
  refine BD ?_
  refine AT (ρ := sng bl _) takeZ ?_
  refine AT (ρ := sng bg _) takeZ ?_
  refine AO ?_
  refine DY (gf := 84) (cap := [.pointer (some ⟨bl, 0, none⟩), .pointer (some ⟨bg, 0, none⟩)]) (ps := [33]) (X := (Value × PH) × Nat) rfl Tryz.func84 rfl rfl
   (open_iter γ gb bl bg lv room (outs v) rm Rr hls (by have := (hO.len v).1; omega) hG.r (fun x hx => by
    obtain ⟨h1, h2, _⟩ := hO.outF v x hv hx
    exact hrm x.t x h2 ((hO.same x (by omega) h2).1 (by rw [h1]; exact hx)))) ?_
   (fun i x => x = ((pv, ρp), v) ∧ ∀ y ∈ (openL rm (outs v)).take i, near D v y = false)
   (fun x => [sng bv (.cells #[int (x.2 : Int)] 3 (0, 0)), sng b9 (.cells #[x.1.1] 22 (0, 0)), x.1.2])
   (fun c x => c = .exit 2 ∧ x.2 = x0.t ∧ OwnS 3 1 x.1.1 (pre ++ [x0]).length ((ksOf (pre ++ [x0])).map int) x.1.2) ((pv, ρp), v) rfl takesZ ⟨rfl, by simp⟩ ?_ ?_ ?_
  ·intro σ hσ
   simp only [List.cons_append, List.nil_append, List.mem_cons] at hσ ⊢
   rcases hσ with h | h | h | h <;> simp [h]
  ·rintro l r i x' vs hvs ⟨rfl, hno⟩ hps has hbd hst hpe hfr
   dsimp only at hno ⊢
   obtain ⟨st, pe, fnn, tm, prm, asg, bdy, df⟩ := r
   simp only at hps has hbd hst hpe hfr
   subst hps has hbd hst hpe
   rw [List.getElem?_map] at hvs
   obtain ⟨x, hx, rfl⟩ := Option.map_eq_some_iff.1 hvs
   have hlt : i < (openL rm (outs v)).length := (List.getElem?_eq_some_iff.1 hx).1
   have hxe : (openL rm (outs v))[i] = x := (List.getElem?_eq_some_iff.1 hx).2
   have hxm : x ∈ openL rm (outs v) := List.mem_of_getElem? hx
   have hxi : x ∈ outs v ∧ 0 < rm x.k := by unfold openL at hxm; simpa using hxm
   obtain ⟨hxf, hxt, hxk⟩ := hO.outF v x hv hxi.1
   have htk : (openL rm (outs v)).take (i + 1) = (openL rm (outs v)).take i ++ [x] := by rw [take_snoc' hlt, hxe]
   have hvub := hD.lt (opens_lt hO) ht hv
   have hxlo := hD.low x.t hxt
   have hxub := hD.lt (opens_lt hO) ht hxt
   refine yield_spec hfr rfl (by intro p hp; simp at hp; omega) putiZ (fun N' β' => ?_)
   unfold encL
   refine AA ?_
   refine AX ?_; rintro _ _ ⟨b, rfl, rfl⟩
   refine AW ?_; rintro _ _ ⟨rfl, rfl⟩
   refine AE ?_
   refine DP rfl rfl ?_
   refine DX takeZ rfl ?_
   refine AO ?_
   refine AC ?_
   refine BB (.q 0 (.q 1 (.q 2 (.q 3 (.q 4 (.q 5 (.q 6 (.q 7 (.q 8 (.q 9 (.q 10 .nil))))))))))) [] rfl (by kernel_rfl) selZ ?_
   by_cases hnr : D.getD x.t 0 = D.getD v 0 - 1
   ·have hfx : nxO outs rm D v = some x := find_of_take hx (by unfold near; rw [hnr]; simp) hno
    obtain rfl : x0 = x := by rw [hfx] at hx0; exact (Option.some.inj hx0).symm
    refine AQ ?_
    refine AV ?_
    refine AQ ?_
    refine CF ?_
    refine AQ ?_
    refine AQ ?_
    refine AQ ?_
    refine CF ?_
    refine AQ ?_
    refine FE ?_
    refine EV ?_
    refine BD ?_
    refine AM rfl ?_
    refine AC ?_
    have hpv : pv.oneCell' = true := SlE.one (ownInts (e := 3) (l := ksOf pre) (ρ := ρp) (by rw [show (ksOf pre).length = pre.length from by simp [ksOf]]; exact hP))
    refine BB (.q 0 (.q 1 (.q 2 (.p 5 (.p 6 (.l 3 .e (.l 4 .b (.l 7 .b (.l 8 .b .nil))))))))) [sng b (.cells #[int (x0.k : Int), int (x0.f : Int), int (x0.t : Int)] 158 (0, 0))] rfl (by kernel_rfl) selZ ?_
    refine AQ ?_
    refine AV ?_
    refine AQ ?_
    refine D6 ?_
    refine D5 ?_
    refine CS ?_; rintro _ _ ⟨b, rfl, rfl⟩
    refine DE ?_
    refine' a_b rfl _ rfl rfl rfl _ _
    rotate_left
    ·exact DA (by_ := 8) (s := 1) (news := [int (x0.k : Int)]) rfl rfl rfl rfl rfl rfl rfl hP takeZ (cells_own memZ) rfl (by (repeat (first | exact (fun v hv => absurd hv List.not_mem_nil) | (refine List.forall_mem_cons.2 ⟨?_, ?_⟩; (focus (first | exact rfl | assumption))))); first | done | fail) (by omega) (by simp only [maxLen]; omega) (by omega)
    ·rintro _ _ ⟨_, _, rfl⟩ w hw; exact hw.sel selZ
    rintro q9 _ ⟨ρ3, hQ3, rfl⟩
    have hQ4 : OwnS 3 1 q9 (pre ++ [x0]).length ((ksOf (pre ++ [x0])).map int) ρ3 := by
     have : (ksOf (pre ++ [x0])).map int = (ksOf pre).map int ++ [int (x0.k : Int)] := by simp [ksOf]
     rw [this, List.length_append]
     exact hQ3
    have hq9 : q9.oneCell' = true := SlE.one (ownInts (e := 3) (l := ksOf (pre ++ [x0])) (ρ := ρ3) (by rw [show (ksOf (pre ++ [x0])).length = (pre ++ [x0]).length from by simp [ksOf]]; exact hQ4))
    refine ED ?_; rintro _ _ ⟨rfl, rfl⟩
    refine ED ?_; rintro _ _ ⟨rfl, rfl⟩
    refine BD ?_
    skip
    exact FB rfl takeZ rsubZ selZ ⟨((q9, ρ3), x0.t), .inr ⟨rfl, .exit 2, ⟨rfl, rfl, hQ4⟩, rfl⟩⟩
   ·refine AQ ?_
    refine AV ?_
    refine AQ ?_
    refine CF ?_
    refine AQ ?_
    refine AQ ?_
    refine AQ ?_
    refine CF ?_
    refine AQ ?_
    refine FE ?_
    refine D8 ?_
    refine BD ?_
    refine AN rfl ?_
    refine AL ?_
    refine A2 ?_
    refine B5 takeZ rsubZ selZ ⟨((pv, ρp), v), .inl ⟨rfl, ⟨rfl, ?_⟩, rfl⟩⟩
    rw [htk]
    intro y hy
    rcases List.mem_append.1 hy with hy | hy
    ·exact hno y hy
    ·rw [List.mem_singleton.1 hy]
     exact decide_eq_false hnr
  ·rintro b2 x' ⟨rfl, hno⟩
   exfalso
   have hm := List.mem_of_find?_eq_some hx0
   have hp := List.find?_some hx0
   rw [hno x0 (by simpa [List.length_map] using hm)] at hp
   simp at hp
  ·rintro b2 c ⟨⟨pv2, ρ2⟩, v2⟩ ⟨rfl, hv2, hP2⟩
   dsimp only at hv2 hP2 ⊢
   subst hv2
   simp only [List.cons_append, List.nil_append]
   refine E7 (R' := sng bD (.cells (ints D) 3 (0, 0)) :: sng b8 (.cells #[.slice (some ⟨bD, 0, none⟩) n n] 22 (0, 0)) :: β :: γ :: Rr) (by intro σ hσ; simp at hσ ⊢; rcases hσ with h | h | h | h | h <;> simp [h]) ?_
   refine DZ (b := b2) takeZ (μ := μ) takeZ hM ?_
   intro μ2 hM2
   refine A7 rfl ?_
   refine A2 ?_
   refine AC ?_
   refine AA ?_
   refine AG ?_
   refine AE ?_
   refine AA ?_
   refine BG ?_; rintro _ _ ⟨b, rfl, rfl⟩
   refine A6 ?_; rintro _ _ ⟨rfl, rfl⟩
   refine AE ?_
   refine EO (((pre ++ [x0], x0.t), ((pv2, ρ2), b)), (b2 :: ms, μ2)) rfl ⟨hx0t, by dsimp only; omega, ?_, hP2, ?_, hM2⟩ (by dsimp only; omega) covZ selZ
   ·dsimp only
    rw [hpre, pathD_step hx0 hdv hx0d, List.append_assoc]; rfl
   ·dsimp only
    rw [List.length_append, List.length_singleton]; omega
end Go.Proofs.YtknfhiolenobaaaGreat
/- The least room on a path; graphs: new, a link added; the room of a residual arc. -/
namespace Go.Proofs.YtknfhiolenobaaaGreat
open Go.Eng Go.Flow
set_option maxRecDepth 100000
set_option maxHeartbeats 4000000

theorem least_spec (γ ρ : PH) (gb : Nat) (room pv : Value) (rm : Nat → Int) (Rr : List PH) (p : List Lk) (hG : rdc γ gb 2 = some room) (hp : IntsAt ρ pv (ksOf p)) (hl : p.length ≤ 100000)
  (hrm : ∀ x ∈ p, Ans Tryz.prog room [int x.k] Rr (fun v => v = int (rm x.k))) :
  Ans Tryz.prog (fv 61) [.pointer (some ⟨gb, 0, none⟩), pv] (γ :: ρ :: Rr) (fun v => v = int (leastR rm p)) := by
 obtain ⟨q, c, rfl, hr⟩ := hp.val Eng.encI_len
 have hkl : (ksOf p).length = p.length := by simp [ksOf]
 refine spec_in (cap := []) Tryz.func61 rfl rfl Tryz.ntmps61 rfl envZ (fun N β => ?_)
 refine AC ?_
 refine AA ?_
 refine AD ?_
 refine AE ?_
 refine AC ?_
 refine AA ?_
 refine AD ?_
 refine AE ?_
 refine AC ?_
 refine AC ?_
 refine AA ?_
 refine AB ?_
 refine A3 ?_
 refine AB ?_
 refine AE ?_
 refine AO ?_
 refine BI [0, 1, 8, 9] ((0, 1099511627776) : Nat × Int) (fun x => x.1 ≤ p.length ∧ x.2 = leastR rm (p.take x.1)) (fun x => [(5, int x.2), (10, int x.1)]) (fun _ => []) (fun x => p.length - x.1) pickZ ⟨by simp, by simp [leastR]⟩ covZ selZ ?_
 rintro ⟨k, y⟩ ⟨hk, hy⟩
 simp only at hk hy
 by_cases hlt : k < p.length
 ·have hx : (ksOf p)[k]? = some (p[k].k : Int) := by simp [ksOf, hlt]
  obtain ⟨b, o, rfl, h0⟩ := hr.int hx
  have hcall := hrm p[k] (List.getElem_mem hlt)
  refine AC ?_
  refine AA ?_
  refine BH ?_
  refine AE ?_
  refine AC ?_
  refine AM rfl ?_
  refine AL ?_
  refine AC ?_
  refine AO ?_
  refine AC ?_
  refine AA ?_
  refine BK ?_
  refine AG ?_
  refine AD ?_
  refine AE ?_
  refine AA ?_
  refine AB ?_
  refine AB ?_
  refine BC ?_
  refine AH ?_
  refine AG ?_
  refine AB ?_
  focus ((refine AZ hcall rfl rfl (fun τ hτ => .inl (by simp [hτ])) rfl rfl ?_; rintro v rfl))
  refine C4 ?_
  refine AD ?_
  refine AE ?_
  refine A2 ?_
  refine AA ?_
  refine BA ?_
  refine AB ?_
  refine AE ?_
  refine AY (k + 1, _) ⟨by simp only; omega, ?_⟩ (by simp only; omega) covZ selZ
  simp only
  rw [take_snoc' hlt, leastR_snoc, ← hy]
 ·refine AC ?_
  refine AA ?_
  refine A0 ?_
  refine AE ?_
  refine AC ?_
  refine AN rfl ?_
  refine A7 rfl ?_
  refine AC ?_
  refine AA ?_
  refine AB ?_
  refine AD ?_
  refine AE ?_
  refine AI (res1 rfl rfl) rsubZ selZ ⟨rfl, ?_⟩
  rw [hy, List.take_of_length_le (by omega)]

abbrev gHead (gb ob ib n : Nat) (room : Value) : PH := sng gb (.cells #[.slice (some ⟨ob, 0, none⟩) n n, .slice (some ⟨ib, 0, none⟩) n n, room] 156 (0, 0))
abbrev gRow (b : Nat) (vs : List Value) : PH := sng b (.cells vs.toArray 152 (0, 0))
theorem newGraph_spec (n : Nat) (f : Nat) (cap : List Value) (hn : n ≤ 2000) :
  Eng.Spec Tryz.prog (fv 69) [int n, .func (.func f) #[] cap.toArray] [] [] (fun v H' => ∃ gb ob ib, v = .pointer (some ⟨gb, 0, none⟩) ∧
   H' = [gHead gb ob ib n (.func (.func f) #[] cap.toArray), gRow ob (List.replicate n (.slice none 0 0)), gRow ib (List.replicate n (.slice none 0 0))]) := by
 refine spec_in (cap := []) Tryz.func69 rfl rfl Tryz.ntmps69 rfl envZ (fun N β => ?_)
 refine AC ?_
 refine AA ?_
 refine AD ?_
 refine AE ?_
 refine AC ?_
 refine BB (.q 0 (.q 2 (.q 4 (.l2 1 .e (.l 3 .e (.q 5 (.l 6 .e (.q 7 .nil)))) 3 .e (.l 1 .e (.q 5 (.l 6 .e (.q 7 .nil)))))))) [] rfl (by kernel_rfl) selZ ?_
 repeat' (first
  | (refine AR ?_)
  | (refine B6 ?_)
  | (refine DC ?_)
  | (refine BD ?_)
  | (refine GM ?_ ?_)
  | (refine GT ?_; rintro _ _ ⟨b, rfl, rfl⟩)
  | (refine GJ ?_; rintro _ _ ⟨b, rfl, rfl⟩)
  | (refine GS ?_; rintro _ _ ⟨b, rfl, rfl⟩)
  | fail)
 repeat' (first
  | fail)
 all_goals exact AI (res1 rfl rfl) rsubZ selZ ⟨_, _, _, rfl, rfl⟩
theorem OwnS.one {e : TypeId} {size : Nat} {v : Value} {n : Nat} {xs : List Value} {ρ : PH} (h : OwnS e size v n xs ρ) : v.oneCell' = true := by
 obtain ⟨b, c, rfl⟩ := h.at.cap
 rfl
set_option maxHeartbeats 4000000 in
theorem add_spec (gb ob ib n k f t : Nat) (room : Value) (ov iv : List Value) (lo li : List Lk) (ρo ρi : PH) (hov : ov.length = n) (hiv : iv.length = n) (hf : f < n) (ht : t < n)
  (ho : ∃ u, ov[f]? = some u ∧ OwnS 158 3 u lo.length (lo.flatMap encL) ρo) (hi : ∃ u, iv[t]? = some u ∧ OwnS 158 3 u li.length (li.flatMap encL) ρi) (hlo : lo.length ≤ 40000) (hli : li.length ≤ 40000) :
  Eng.Spec Tryz.prog (fv 71) [.pointer (some ⟨gb, 0, none⟩), int k, int f, int t] [] [gHead gb ob ib n room, gRow ob ov, gRow ib iv, ρo, ρi] (fun v H' => v = .tuple #[] ∧ ∃ q1 q2 ρ1 ρ2,
   OwnS 158 3 q1 (lo ++ [(⟨k, f, t⟩ : Lk)]).length ((lo ++ [(⟨k, f, t⟩ : Lk)]).flatMap encL) ρ1 ∧ OwnS 158 3 q2 (li ++ [(⟨k, f, t⟩ : Lk)]).length ((li ++ [(⟨k, f, t⟩ : Lk)]).flatMap encL) ρ2 ∧
   H' = [gHead gb ob ib n room, gRow ob (ov.set f q1), gRow ib (iv.set t q2), ρ1, ρ2]) := by
 obtain ⟨uo, huo, hO⟩ := ho
 obtain ⟨ui, hui, hI⟩ := hi
 have co : rdc (gRow ob ov) ob f = some uo := by rw [rdc_sng]; simpa using huo
 have ci : rdc (gRow ib iv) ib t = some ui := by rw [rdc_sng]; simpa using hui
 refine spec_in (cap := []) Tryz.func71 rfl rfl Tryz.ntmps71 rfl envZ (fun N β => ?_)
 refine AC ?_
 refine AA ?_
 refine AB ?_
 refine AB ?_
 refine AB ?_
 refine BN ?_
 refine AX ?_; rintro _ _ ⟨b, rfl, rfl⟩
 refine AW ?_; rintro _ _ ⟨rfl, rfl⟩
 refine AE ?_
 refine BB (.p 0 (.p 1 (.p 2 (.p 3 (.p 4 (.p 5 (.p 6 (.p 7 (.p 8 (.p 9 (.q 10 (.q 11 (.q 12 (.q 13 (.q 14 (.q 15 (.q 16 (.q 17 (.p 20 (.p 21 (.p 22 (.p 23 (.p 24 (.p 25 (.p 26 (.p 27 (.l2 18 .e (.l2 19 .b (.l 28 .e (.l 29 .b (.q 30 (.l 31 .b (.q 32 (.l 33 .b .nil)))))) 28 .e (.l 19 .b (.l 29 .b (.q 30 (.l 31 .b (.q 32 (.l 33 .b .nil))))))) 28 .e (.l 18 .e (.l 19 .b (.l 29 .b (.q 30 (.l 31 .b (.q 32 (.l 33 .b .nil)))))))))))))))))))))))))))))))))) [gHead gb ob ib n room, gRow ib iv, sng b (.cells #[int (k : Int), int (f : Int), int (t : Int)] 158 (0, 0))] rfl (by kernel_rfl) selZ ?_
 repeat' (first
  | (refine AR ?_)
  | (refine AQ ?_)
  | (refine AV ?_)
  | (refine CF ?_)
  | (refine A4 ?_)
  | (refine CU ?_)
  | (refine D4 ?_)
  | (refine D5 ?_)
  | (refine D6 ?_)
  | (refine HD ?_)
  | (refine FO ?_)
  | (refine GR ?_)
  | (refine GM ?_ ?_)
  | (refine CS ?_; rintro _ _ ⟨b, rfl, rfl⟩)
  | (refine E9 ?_; rintro _ _ ⟨b, rfl, rfl⟩)
  | fail)
 all_goals (try refine DE ?_)
 all_goals (refine' a_b rfl _ rfl rfl rfl _ _; rotate_left; (focus (exact DA (by_ := 24) (s := 3) (news := [int (k : Int), int (f : Int), int (t : Int)]) rfl rfl rfl rfl rfl rfl rfl hO takeZ (cells_own memZ) rfl (by (repeat (first | exact (fun v hv => absurd hv List.not_mem_nil) | (refine List.forall_mem_cons.2 ⟨?_, ?_⟩; (focus (first | exact rfl | assumption))))); first | done | fail) (by omega) (by simp only [maxLen]; omega) (by omega))); (focus (rintro _ _ ⟨_, _, rfl⟩ w hw; exact hw.sel selZ)); rintro q1 _ ⟨ρ1, hQ1, rfl⟩)
 repeat' (first
  | (refine CS ?_; rintro _ _ ⟨b, rfl, rfl⟩)
  | fail)
 all_goals (refine DE ?_; refine' a_b rfl _ rfl rfl rfl _ _; rotate_left; (focus (exact DA (by_ := 24) (s := 3) (news := [int (k : Int), int (f : Int), int (t : Int)]) rfl rfl rfl rfl rfl rfl rfl hI takeZ (cells_own memZ) rfl (by (repeat (first | exact (fun v hv => absurd hv List.not_mem_nil) | (refine List.forall_mem_cons.2 ⟨?_, ?_⟩; (focus (first | exact rfl | assumption))))); first | done | fail) (by omega) (by simp only [maxLen]; omega) (by omega))); (focus (rintro _ _ ⟨_, _, rfl⟩ w hw; exact hw.sel selZ)); rintro q2 _ ⟨ρ2, hQ2, rfl⟩)
 all_goals have h1 : q1.oneCell' = true := OwnS.one hQ1
 all_goals have h2 : q2.oneCell' = true := OwnS.one hQ2
 repeat' (first
  | (refine CF ?_)
  | (refine GV ?_; rintro _ _ ⟨rfl, rfl⟩)
  | fail)
 all_goals (refine DE ?_; refine' a_full rfl _ rfl (.inr ⟨rfl, rfl⟩) (by kernel_rfl) (Hf' := []) _ _; rotate_left; (focus (apply DW; exact rfl; exact rfl; exact h2; exact rfl; exact takeZ; (simp; omega))); (focus (rintro _ _ ⟨_, rfl⟩ w hw; exact hw.sel selZ)); rintro _ _ ⟨rfl, rfl⟩)
 repeat' (first
  | (refine BD ?_)
  | fail)
 repeat' (first
  | fail)
 all_goals have e1 : sng ob (.cells (ov.toArray.setIfInBounds f q1) 152 (0, 0)) = gRow ob (ov.set f q1) := by simp [gRow]
 all_goals have e2 : sng ib (.cells (iv.toArray.setIfInBounds t q2) 152 (0, 0)) = gRow ib (iv.set t q2) := by simp [gRow]
 all_goals rw [e1, e2]
 all_goals refine CH (H' := [gHead gb ob ib n room, gRow ob (ov.set f q1), gRow ib (iv.set t q2), ρ1, ρ2]) (res0 rfl) rsubZ selZ ⟨rfl, q1, q2, ρ1, ρ2, ?_, ?_, rfl⟩
 all_goals first
  | (rw [List.flatMap_append, List.length_append]; exact hQ1)
  | (rw [List.flatMap_append, List.length_append]; exact hQ2)

end Go.Proofs.YtknfhiolenobaaaGreat
/- The rooms of residual arcs; residual graphs. -/
namespace Go.Proofs.YtknfhiolenobaaaGreat
open Go.Eng Go.Flow
set_option maxRecDepth 100000
set_option maxHeartbeats 4000000

theorem residual1_spec (ρ : PH) (v : Value) (b1 b2 bf m c k : Nat) (T1 T2 T3 : TypeId) (l : List Arc) (fl : List Int) (hv : ArcsAt ρ v l) (hfl : fl.length = l.length) (hm : m = l.length) (hk : k < 2 * l.length) (hl : l.length ≤ 20000)
  (hc : inCap l fl = true) (hok : ∀ a ∈ l, 0 ≤ a.c ∧ a.c ≤ 1099511627776) :
  Ans Tryz.prog (.func (.func 79) #[] #[.pointer (some ⟨b1, 0, none⟩), .pointer (some ⟨b2, 0, none⟩)]) [int k] [ρ, sng b1 (.cells #[v] T1 (0, 0)), sng b2 (.cells #[.slice (some ⟨bf, 0, none⟩) m c] T2 (0, 0)), sng bf (.cells (ints fl) T3 (0, 0))]
   (fun r => r = int (rmR l fl k)) := by
 obtain ⟨q, c', rfl, hr⟩ := hv.val encA_len
 subst hm
 have c1 : rdc (sng b1 (.cells #[.slice q l.length c'] T1 (0, 0))) b1 0 = some (.slice q l.length c') := by rw [rdc_sng]; rfl
 have c2 : rdc (sng b2 (.cells #[.slice (some ⟨bf, 0, none⟩) l.length c] T2 (0, 0))) b2 0 = some (.slice (some ⟨bf, 0, none⟩) l.length c) := by rw [rdc_sng]; rfl
 have hlt : k / 2 < l.length := by omega
 have hx := List.getElem?_eq_getElem hlt
 obtain ⟨b, o, rfl, hA, h0, h1, h2⟩ := arcRow hr hx
 have hfx : fl.getD (k / 2) 0 = fl[k / 2] := by simp [List.getD_eq_getElem?_getD, show k / 2 < fl.length by omega]
 have hfy := inCap_get l fl hc (k / 2) l[k / 2] fl[k / 2] hx (List.getElem?_eq_getElem (by omega))
 have hcy := hok l[k / 2] (List.getElem_mem hlt)
 have hdef : l.getD (k / 2) default = l[k / 2] := by simp [List.getD_eq_getElem?_getD, hlt]
 have e2 : ((k : Int) / 2) = ((k / 2 : Nat) : Int) := by omega
 have e3 : ((k : Int) % 2) = ((k % 2 : Nat) : Int) := by omega
 refine spec_in (cap := [.pointer (some ⟨b1, 0, none⟩), .pointer (some ⟨b2, 0, none⟩)]) Tryz.func79 rfl rfl Tryz.ntmps79 rfl envZ (fun N β => ?_)
 by_cases hp : k % 2 = 0
 ·refine AC ?_
  refine AA ?_
  refine AD ?_
  refine AE ?_
  refine AC ?_
  refine AC ?_
  refine AA ?_
  refine AB ?_
  refine C3 ?_
  refine CP ?_
  refine AE ?_
  refine AM rfl ?_
  refine AC ?_
  refine BB (.q 0 (.q 1 (.q 2 (.q 3 (.q 4 (.q 5 (.q 6 (.q 7 (.q 8 (.q 9 (.q 10 (.q 11 (.q 12 .nil))))))))))))) [] rfl (by kernel_rfl) selZ ?_
  refine AQ ?_
  refine AR ?_
  refine GH ?_
  refine C5 ?_
  refine DL ?_
  refine AQ ?_
  refine AQ ?_
  refine AR ?_
  refine GH ?_
  refine CF ?_
  refine AQ ?_
  refine FE ?_
  refine B6 ?_
  refine BD ?_
  skip
  refine AI (res1 rfl rfl) rsubZ selZ ⟨rfl, ?_⟩
  unfold rmR
  rw [if_pos hp, hdef]
 ·refine AC ?_
  refine AA ?_
  refine AD ?_
  refine AE ?_
  refine AC ?_
  refine AC ?_
  refine AA ?_
  refine AB ?_
  refine C3 ?_
  refine BZ ?_
  refine AE ?_
  refine AN rfl ?_
  refine AL ?_
  refine AC ?_
  refine AA ?_
  refine AG ?_
  refine AB ?_
  refine CT ?_
  refine BM ?_
  refine AG ?_
  refine AD ?_
  refine AE ?_
  refine AI (res1 rfl rfl) rsubZ selZ ⟨rfl, ?_⟩
  unfold rmR
  rw [if_neg hp]
end Go.Proofs.YtknfhiolenobaaaGreat
/- A graph that is built link by link; the residual graph. -/
namespace Go.Proofs.YtknfhiolenobaaaGreat
open Go.Eng Go.Flow
set_option maxRecDepth 100000
set_option maxHeartbeats 4000000

def RowOK (n : Nat) (vs : List Value) (cs : List PH) (lf : Nat → List Lk) : Prop :=
 vs.length = n ∧ cs.length = n ∧ ∀ v, v < n → ∃ u ρ, vs[v]? = some u ∧ cs[v]? = some ρ ∧ OwnS 158 3 u (lf v).length ((lf v).flatMap encL) ρ
theorem RowOK.set {n : Nat} {vs : List Value} {cs : List PH} {lf lf' : Nat → List Lk} (h : RowOK n vs cs lf) {f : Nat} {u : Value} {ρ : PH} (hu : OwnS 158 3 u (lf' f).length ((lf' f).flatMap encL) ρ) (he : ∀ v, v ≠ f → lf' v = lf v) :
  RowOK n (vs.set f u) (cs.set f ρ) lf' := by
 obtain ⟨h1, h2, h3⟩ := h
 refine ⟨by simp [h1], by simp [h2], fun v hv => ?_⟩
 by_cases e : v = f
 ·subst e
  exact ⟨u, ρ, by simp [h1, hv], by simp [h2, hv], hu⟩
 ·obtain ⟨u', ρ', g1, g2, g3⟩ := h3 v hv
  rw [← he v e] at g3
  exact ⟨u', ρ', by rw [List.getElem?_set_ne (Ne.symm e)]; exact g1, by rw [List.getElem?_set_ne (Ne.symm e)]; exact g2, g3⟩
def GBl (gb ob ib n : Nat) (room : Value) (ls : List Lk) (H : List PH) : Prop :=
 ∃ ov iv oc ic, RowOK n ov oc (outsOf ls) ∧ RowOK n iv ic (insOf ls) ∧ H = gHead gb ob ib n room :: gRow ob ov :: gRow ib iv :: (oc ++ ic)
theorem add_bl {gb ob ib n : Nat} {room : Value} {ls : List Lk} {H : List PH} (h : GBl gb ob ib n room ls H) (k f t : Nat) (hf : f < n) (ht : t < n) (hl : ls.length ≤ 40000) :
  Eng.Spec Tryz.prog (fv 71) [.pointer (some ⟨gb, 0, none⟩), int k, int f, int t] [] H (fun v H' => v = .tuple #[] ∧ GBl gb ob ib n room (ls ++ [(⟨k, f, t⟩ : Lk)]) H') := by
 obtain ⟨ov, iv, oc, ic, ho, hi, rfl⟩ := h
 obtain ⟨uo, ρo, a1, a2, a3⟩ := ho.2.2 f hf
 obtain ⟨ui, ρi, c1, c2, c3⟩ := hi.2.2 t ht
 have hs := add_spec gb ob ib n k f t room ov iv (outsOf ls f) (insOf ls t) ρo ρi ho.1 hi.1 hf ht ⟨uo, a1, a3⟩ ⟨ui, c1, c3⟩ (filter_le _ _ hl) (filter_le _ _ hl)
 refine Spec.perm ?_ (hs.frame (oc.eraseIdx f ++ ic.eraseIdx t)) ?_
 ·simp only [List.cons_append, List.nil_append]
  refine ((List.Perm.trans ?_ ((erase_get_perm a2).append (erase_get_perm c2)).symm).cons _).cons _ |>.cons _
  simp only [List.cons_append]
  exact (List.perm_middle.symm).cons _
 ·rintro v H1 ⟨H2, rfl, rfl, q1, q2, ρ1, ρ2, hq1, hq2, rfl⟩
  refine ⟨gHead gb ob ib n room :: gRow ob (ov.set f q1) :: gRow ib (iv.set t q2) :: (oc.set f ρ1 ++ ic.set t ρ2), ?_, rfl, ov.set f q1, iv.set t q2, oc.set f ρ1, ic.set t ρ2, ?_, ?_, rfl⟩
  ·simp only [List.cons_append, List.nil_append]
   refine ((List.Perm.trans ?_ ((erase_set_perm ρ1 (by rw [ho.2.1]; exact hf)).append (erase_set_perm ρ2 (by rw [hi.2.1]; exact ht))).symm).cons _).cons _ |>.cons _
   simp only [List.cons_append]
   exact (List.perm_middle.symm).cons _
  ·refine ho.set (lf' := outsOf (ls ++ [(⟨k, f, t⟩ : Lk)])) ?_ (fun v hv => by rw [outsOf_snoc, if_neg (Ne.symm hv), List.append_nil])
   rw [outsOf_snoc, if_pos rfl]; exact hq1
  ·refine hi.set (lf' := insOf (ls ++ [(⟨k, f, t⟩ : Lk)])) ?_ (fun v hv => by rw [insOf_snoc, if_neg (Ne.symm hv), List.append_nil])
   rw [insOf_snoc, if_pos rfl]; exact hq2
theorem GBl.at {gb ob ib n : Nat} {room : Value} {ls : List Lk} {H : List PH} (h : GBl gb ob ib n room ls H) {γ : PH} (hs : ∀ ρ ∈ H, PH.sub ρ γ) : GAt γ gb n (outsOf ls) (insOf ls) room := by
 obtain ⟨ov, iv, oc, ic, ho, hi, rfl⟩ := h
 have hh := hs (gHead gb ob ib n room) (by simp)
 have hr1 := hs (gRow ob ov) (by simp)
 have hr2 := hs (gRow ib iv) (by simp)
 refine ⟨⟨ob, n, hh.rdc (by rw [rdc_sng]; rfl), fun v hv => ?_⟩, ⟨ib, n, hh.rdc (by rw [rdc_sng]; rfl), fun v hv => ?_⟩, hh.rdc (by rw [rdc_sng]; rfl)⟩
 ·obtain ⟨u, ρ, g1, g2, g3⟩ := ho.2.2 v hv
  refine ⟨u, hr1.rdc (by rw [rdc_sng]; simpa using g1), (hs ρ ?_).slE g3.at⟩
  have := List.mem_of_getElem? g2
  simp [this]
 ·obtain ⟨u, ρ, g1, g2, g3⟩ := hi.2.2 v hv
  refine ⟨u, hr2.rdc (by rw [rdc_sng]; simpa using g1), (hs ρ ?_).slE g3.at⟩
  have := List.mem_of_getElem? g2
  simp [this]
theorem GOk_of {n : Nat} {ls : List Lk} (hn : n ≤ 2000) (hl : ls.length ≤ 40000) (hx : ∀ x ∈ ls, x.f < n ∧ x.t < n ∧ x.k ≤ 40000) : GOk n (outsOf ls) (insOf ls) where
 n1 := hn
 len := fun _ => ⟨filter_le _ _ hl, filter_le _ _ hl⟩
 inT := fun v x _ hm => by
  unfold insOf at hm; rw [List.mem_filter] at hm
  have := hx x hm.1
  exact ⟨by simpa using hm.2, this.1, this.2.2⟩
 outF := fun v x _ hm => by
  unfold outsOf at hm; rw [List.mem_filter] at hm
  have := hx x hm.1
  exact ⟨by simpa using hm.2, this.2.1, this.2.2⟩
 same := fun x _ _ => by unfold insOf outsOf; simp
theorem GBl_new (gb ob ib n : Nat) (room : Value) : GBl gb ob ib n room [] (gHead gb ob ib n room :: gRow ob (List.replicate n (.slice none 0 0)) :: gRow ib (List.replicate n (.slice none 0 0)) :: (List.replicate n emp ++ List.replicate n emp)) := by
 have h : ∀ lf : Nat → List Lk, (∀ v, lf v = []) → RowOK n (List.replicate n (.slice none 0 0)) (List.replicate n emp) lf := fun lf hl => by
  refine ⟨by simp, by simp, fun v hv => ⟨.slice none 0 0, emp, by simp [hv], by simp [hv], ?_⟩⟩
  rw [hl v]
  exact OwnS.nil _ _
 exact ⟨_, _, _, _, h _ (fun _ => rfl), h _ (fun _ => rfl), rfl⟩

abbrev roomR (b1 b2 : Nat) : Value := .func (.func 79) #[] #[.pointer (some ⟨b1, 0, none⟩), .pointer (some ⟨b2, 0, none⟩)]
set_option maxHeartbeats 2000000 in
theorem residual_spec (ρ : PH) (v fs : Value) (n : Nat) (l : List Arc) (hv : ArcsAt ρ v l) (hfs : fs.oneCell' = true) (hn : n ≤ 2000) (hl : l.length ≤ 20000) (hok : ∀ a ∈ l, okArc n a = true) :
  Eng.Spec Tryz.prog (fv 59) [int n, v, fs] [ρ] [] (fun r H' => ∃ gb b1 b2 γ, r = .pointer (some ⟨gb, 0, none⟩) ∧ GAt γ gb n (outsOf (rlinks l)) (insOf (rlinks l)) (roomR b1 b2) ∧
   H' = [γ, sng b1 (.cells #[v] 47 (0, 0)), sng b2 (.cells #[fs] 22 (0, 0))]) := by
 have hv1 := SlE.one hv
 obtain ⟨q, c, rfl, hr⟩ := hv.val encA_len
 refine spec_in (cap := []) Tryz.func59 rfl rfl Tryz.ntmps59 rfl envZ (fun N β => ?_)
 refine AC ?_
 refine AA ?_
 refine BS (DT rfl rfl) rfl rfl rfl ?_
 rintro _ _ ⟨b1, rfl, rfl⟩
 refine BS (DT rfl hfs) rfl rfl rfl ?_
 rintro _ _ ⟨b2, rfl, rfl⟩
 refine AD ?_
 refine AE ?_
 refine AC ?_
 refine AA ?_
 refine AB ?_
 refine BE ?_
 refine BL (newGraph_spec n 79 [.pointer (some ⟨b1, 0, none⟩), .pointer (some ⟨b2, 0, none⟩)] hn) rfl rfl takesZ rdZ rfl rfl ?_
 rintro _ _ ⟨gb, ob, ib, rfl, rfl⟩
 simp only [List.cons_append, List.nil_append]
 have hG0 := GBl_new gb ob ib n (roomR b1 b2)
 refine GD (n + n) ?_
 simp only [List.cons_append, List.nil_append]
 refine AD ?_
 refine AE ?_
 refine AC ?_
 refine AC ?_
 refine AA ?_
 refine AG ?_
 refine A3 ?_
 refine AB ?_
 refine AE ?_
 refine AO ?_
 refine BI [0, 4, 5, 7, 13, 14] (X := Nat × List PH) (0, _) (fun x => x.1 ≤ l.length ∧ GBl gb ob ib n (roomR b1 b2) (rlinks (l.take x.1)) x.2) (fun x => [(15, int x.1)])
  (fun x => sng b1 (.cells #[.slice q l.length c] 47 (0, 0)) :: sng b2 (.cells #[fs] 22 (0, 0)) :: x.2) (fun x => l.length - x.1) pickZ ⟨by simp, hG0⟩ covZ ?_ ?_
 ·refine Sel.cons takeZ (Sel.cons takeZ (Sel.cons takeZ (Sel.cons takeZ (Sel.cons takeZ ?_))))
  rw [List.replicate_append_replicate]
  exact Sel.refl
 rintro ⟨k, Hg⟩ ⟨hk, hG⟩
 dsimp only at hk hG ⊢
 by_cases hlt : k < l.length
 ·have hx := List.getElem?_eq_getElem hlt
  obtain ⟨b', o, rfl, hA, h0, h1, h2⟩ := arcRow hr hx
  obtain ⟨g1, g2, g3, g4, g5, g6, g7⟩ := okArc_iff.1 (hok l[k] (List.getElem_mem hlt))
  obtain ⟨f, hf⟩ := Int.eq_ofNat_of_zero_le g1
  obtain ⟨t, ht⟩ := Int.eq_ofNat_of_zero_le g3
  have hlr := rlinks_len (l.take k)
  have hlk : (l.take k).length = k := by simp; omega
  have hsn := rlinks_snoc (l.take k) l[k]
  rw [← take_snoc' hlt, hlk, hf, ht] at hsn
  simp only [Int.toNat_natCast] at hsn
  rw [hf, ht] at hA
  have a1 := add_bl hG (2 * k) f t (by omega) (by omega) (by omega)
  refine AC ?_
  refine AA ?_
  refine BH ?_
  refine AE ?_
  refine AC ?_
  refine AM rfl ?_
  refine AL ?_
  refine AC ?_
  refine AO ?_
  refine AC ?_
  refine AA ?_
  refine AB ?_
  refine BF ?_
  refine AS ?_
  refine AX ?_; rintro _ _ ⟨b, rfl, rfl⟩
  refine AD ?_
  refine AW ?_; rintro _ _ ⟨rfl, rfl⟩
  refine AE ?_
  refine AC ?_
  refine AA ?_
  refine AB ?_
  refine AB ?_
  refine C7 ?_
  refine AH ?_
  refine AG ?_
  refine AH ?_
  refine AG ?_
  refine BL a1 rfl rfl (Takes.skips [_, _, _] Takes.all) rdZ rfl rfl ?_
  rintro _ H1 ⟨rfl, hG1⟩
  refine DK (H' := sng b (.cells #[int (f : Int), int (t : Int), int l[k].c] 105 (0, 0)) :: sng b1 (.cells #[.slice (some ⟨b', o, none⟩) l.length c] 47 (0, 0)) :: sng b2 (.cells #[fs] 22 (0, 0)) :: H1) (by simpa using List.perm_append_comm (l₁ := H1) (l₂ := [_, _, _])) ?_
  have a2 := add_bl hG1 (2 * k + 1) t f (by omega) (by omega) (by rw [List.length_append]; simp only [List.length_singleton]; omega)
  refine AE ?_
  refine AA ?_
  refine AB ?_
  refine AB ?_
  refine C7 ?_
  refine B4 ?_
  refine AH ?_
  refine AG ?_
  refine AH ?_
  refine AG ?_
  refine BL a2 rfl rfl (Takes.skips [_, _, _] Takes.all) rdZ rfl rfl ?_
  rintro _ H2 ⟨rfl, hG2⟩
  refine DK (H' := sng b (.cells #[int (f : Int), int (t : Int), int l[k].c] 105 (0, 0)) :: sng b1 (.cells #[.slice (some ⟨b', o, none⟩) l.length c] 47 (0, 0)) :: sng b2 (.cells #[fs] 22 (0, 0)) :: H2) (by simpa using List.perm_append_comm (l₁ := H2) (l₂ := [_, _, _])) ?_
  refine AE ?_
  refine A2 ?_
  refine AA ?_
  refine BA ?_
  refine AB ?_
  refine AE ?_
  refine AY (k + 1, H2) ⟨by dsimp only; omega, ?_⟩ (by dsimp only; omega) covZ (Sel.cons takeZ (Sel.cons takeZ (Sel.skip Sel.refl)))
  dsimp only
  rw [hsn]
  simpa using hG2
 ·rw [List.take_of_length_le (by omega)] at hG
  refine AC ?_
  refine AA ?_
  refine A0 ?_
  refine AE ?_
  refine AC ?_
  refine AN rfl ?_
  refine A7 rfl ?_
  refine AC ?_
  refine AA ?_
  refine AB ?_
  refine AD ?_
  refine AE ?_
  refine DK (H' := Hg ++ [sng b1 (.cells #[.slice q l.length c] 47 (0, 0)), sng b2 (.cells #[fs] 22 (0, 0))]) (by simpa using List.perm_append_comm (l₂ := Hg) (l₁ := [_, _])) ?_
  refine EW (fun γ hγ => ?_)
  exact AI (res1 rfl rfl) rsubZ selZ ⟨gb, b1, b2, γ, rfl, hG.at hγ, rfl⟩
end Go.Proofs.YtknfhiolenobaaaGreat
/- The maximum flow: paths as long as there are any. -/
namespace Go.Proofs.YtknfhiolenobaaaGreat
open Go.Eng Go.Flow
set_option maxRecDepth 100000
set_option maxHeartbeats 4000000

theorem opens_opn {n : Nat} {ls : List Lk} (hls : ∀ x ∈ ls, x.f < n ∧ x.t < n) (rm : Nat → Int) : opens n (insOf ls) rm = opn ls rm := opens_eq hls rm
theorem nxO_nxt (ls : List Lk) (rm : Nat → Int) (D : List Int) : nxO (outsOf ls) rm D = nxt ls rm D := nxt_eq ls rm D
def MaxLeft (n : Nat) (l : List Arc) (s t : Nat) (v fs gv : Value) (F : List Int) (H : List PH) : Prop :=
 ∃ bf gb b1 b2 γ, fs = .slice (some ⟨bf, 0, none⟩) l.length l.length ∧ gv = .pointer (some ⟨gb, 0, none⟩) ∧ GAt γ gb n (outsOf (rlinks l)) (insOf (rlinks l)) (roomR b1 b2) ∧ RunR n l s t (List.replicate l.length 0) F ∧
  H = [sng bf (.cells (ints F) 3 (0, 0)), γ, sng b1 (.cells #[v] 47 (0, 0)), sng b2 (.cells #[.slice (some ⟨bf, 0, none⟩) l.length l.length] 22 (0, 0))]
set_option maxHeartbeats 4000000 in
theorem maximum_spec (ρ : PH) (v : Value) (n : Nat) (l : List Arc) (s t : Nat) (hv : ArcsAt ρ v l) (hn : n ≤ 2000) (hl : l.length ≤ 20000) (hok : ∀ a ∈ l, okArc n a = true) (hs : s < n) (ht : t < n) (hst : s ≠ t) :
  Eng.Spec Tryz.prog (fv 37) [int n, v, int s, int t] [ρ] [] (fun r H' => ∃ fs gv F, r = .tuple #[fs, gv] ∧ MaxLeft n l s t v fs gv F H') := by
 have hv1 := SlE.one hv
 have hrl := rl_lt hok
 have hGok : GOk n (outsOf (rlinks l)) (insOf (rlinks l)) := GOk_of hn (by rw [rlinks_len]; omega) (fun x hx => by have := rlinks_mem hok hx; omega)
 have hcap : ∀ a ∈ l, 0 ≤ a.c ∧ a.c ≤ 1099511627776 := fun a ha => by have := okArc_iff.1 (hok a ha); omega
 obtain ⟨q, c, rfl, hr⟩ := hv.val encA_len
 refine spec_in (cap := []) Tryz.func37 rfl rfl Tryz.ntmps37 rfl envZ (fun N β => ?_)
 refine AC ?_
 refine AA ?_
 refine AD ?_
 refine AD ?_
 refine AE ?_
 refine AC ?_
 refine AA ?_
 refine AB ?_
 refine A3 ?_
 refine CA ?_; rintro _ _ ⟨b, rfl, rfl⟩
 refine AD ?_
 refine AE ?_
 refine AC ?_
 refine AA ?_
 refine AB ?_
 refine AB ?_
 refine AB ?_
 revert b; intro bf
 refine BL (residual_spec ρ _ (.slice (some ⟨bf, 0, none⟩) l.length l.length) n l hv rfl hn hl hok) rfl rfl takesZ rdZ rfl rfl ?_
 rintro _ _ ⟨gb, b1, b2, γ, rfl, hG, rfl⟩
 simp only [List.cons_append, List.nil_append]
 refine AD ?_
 refine AE ?_
 refine AO ?_
 refine BI [0, 1, 2, 3, 10, 11] (List.replicate l.length (0 : Int)) (fun fl => Flw n l s t fl ∧ ∀ F, RunR n l s t fl F → RunR n l s t (List.replicate l.length 0) F) (fun _ => [])
  (fun fl => [sng bf (.cells (ints fl) 3 (0, 0)), γ, sng b1 (.cells #[.slice q l.length c] 47 (0, 0)), sng b2 (.cells #[.slice (some ⟨bf, 0, none⟩) l.length l.length] 22 (0, 0))])
  (fun fl => (1099511627776 * (2 * (l.length : Int)) - fval s l fl).toNat) pickZ ⟨flw_zeros hok, fun _ h => h⟩ covZ selZ ?_
 rintro fl ⟨hF, hrun⟩
 have hrm : ∀ v x, v < n → x ∈ insOf (rlinks l) v → Ans Tryz.prog (roomR b1 b2) [int x.k] [ρ, sng b1 (.cells #[.slice q l.length c] 47 (0, 0)), sng b2 (.cells #[.slice (some ⟨bf, 0, none⟩) l.length l.length] 22 (0, 0)), sng bf (.cells (ints fl) 3 (0, 0))] (fun r => r = int (rmR l fl x.k)) := fun v x _ hx => by
  have hm : x ∈ rlinks l := by unfold insOf at hx; exact (List.mem_filter.1 hx).1
  exact residual1_spec ρ _ b1 b2 bf l.length l.length x.k _ _ _ l fl hv hF.len.symm rfl (rlinks_mem hok hm).2.2 hl hF.cap hcap
 refine AO ?_
 refine AC ?_
 refine AA ?_
 refine AB ?_
 refine AB ?_
 refine AB ?_
 refine C9 (path_spec γ gb n s t (outsOf (rlinks l)) (insOf (rlinks l)) (roomR b1 b2) (rmR l fl) _ hG hGok hs ht hrm) rfl rfl rdZ rfl rfl ?_
 rintro _ ρp ⟨D, pv, hD, rfl, hP⟩
 rw [opens_opn hrl] at hD
 rw [nxO_nxt] at hP
 by_cases h0 : 0 ≤ D.getD s 0
 rotate_left
 ·rw [decide_eq_false h0]
  refine AB ?_
  refine AP ?_
  refine AP ?_
  refine AD ?_
  refine AD ?_
  refine AE ?_
  refine AC ?_
  refine AC ?_
  refine AA ?_
  refine AB ?_
  refine A8 ?_
  refine AE ?_
  refine AM rfl ?_
  refine AC ?_
  refine AA ?_
  refine AB ?_
  refine AB ?_
  refine AD ?_
  refine AD ?_
  refine AE ?_
  exact AI (res2 rfl rfl rfl) rsubZ selZ ⟨_, _, fl, rfl, bf, gb, b1, b2, γ, rfl, rfl, hG, hrun fl (.done hD (by omega)), rfl⟩
 rw [decide_eq_true h0]
 obtain ⟨hN1, hN2, hN3⟩ := rNext_ok hok hs hst hF hD h0
 obtain ⟨k0, hk0⟩ := Int.eq_ofNat_of_zero_le h0
 have hDn := hD.lt (fun x hx => hrl x hx.1) ht hs
 have hPl : (rP l fl D s).length = k0 := path_len hrl hD k0 s hs hk0
 have hPm : ∀ x ∈ rP l fl D s, x ∈ rlinks l := fun x hx => ((path_chn hrl hD k0 s hs hk0).all x hx).1.1
 have hroom : leastR (rmR l fl) (rP l fl D s) ≤ 1099511627776 := (leastR_le _ _ _).1
 have hIn : IntsAt ρp pv (ksOf (rP l fl D s)) := ownInts (e := 3) (by rw [show (ksOf (rP l fl D s)).length = (rP l fl D s).length from by simp [ksOf]]; exact hP)
 have hlst := least_spec γ ρp gb (roomR b1 b2) pv (rmR l fl) _ (rP l fl D s) hG.r hIn (by omega) (fun x hx => hrm x.t x (hrl x (hPm x hx)).2 (by unfold insOf; rw [List.mem_filter]; exact ⟨hPm x hx, by simp⟩))
 obtain ⟨q2, c2, rfl, hr2⟩ := hIn.val Eng.encI_len
 have hkl : (ksOf (rP l fl D s)).length = (rP l fl D s).length := by simp [ksOf]
 have hmu := fval_bd s l (rNext l fl D s) (inCap_small l _ hN1.len hN1.cap hok)
 rw [← hN1.len] at hmu
 refine AB ?_
 refine AP ?_
 refine AP ?_
 refine AD ?_
 refine AD ?_
 refine AE ?_
 refine AC ?_
 refine AC ?_
 refine AA ?_
 refine AB ?_
 refine A8 ?_
 refine AE ?_
 refine AN rfl ?_
 refine AL ?_
 refine AC ?_
 refine AA ?_
 refine AB ?_
 refine AB ?_
 refine AZ hlst rfl rfl rdZ rfl rfl ?_
 rintro _ rfl
 refine AD ?_
 refine AE ?_
 refine AC ?_
 refine AA ?_
 refine AB ?_
 refine A3 ?_
 refine AB ?_
 refine AE ?_
 refine AO ?_
 refine BI [0, 1, 2, 3, 10, 11, 14, 38, 39] (0 : Nat) (fun i => i ≤ (rP l fl D s).length) (fun i => [(40, int i)])
  (fun i => [sng bf (.cells (ints (augAll (leastR (rmR l fl) (rP l fl D s)) fl ((rP l fl D s).take i))) 3 (0, 0)), γ, sng b1 (.cells #[.slice q l.length c] 47 (0, 0)), sng b2 (.cells #[.slice (some ⟨bf, 0, none⟩) l.length l.length] 22 (0, 0)), ρp])
  (fun i => (rP l fl D s).length - i) pickZ (by omega) covZ selZ ?_
 intro i hi
 by_cases hlt : i < (rP l fl D s).length
 ·have hx : (ksOf (rP l fl D s))[i]? = some ((rP l fl D s)[i].k : Int) := by simp [ksOf, hlt]
  obtain ⟨b, o, rfl, g0⟩ := hr2.int hx
  have hxm := hPm _ (List.getElem_mem hlt)
  have hxk := (rlinks_mem hok hxm).2.2
  have hal : (augAll (leastR (rmR l fl) (rP l fl D s)) fl ((rP l fl D s).take i)).length = l.length := by rw [augAll_len]; exact hF.len.symm
  have hic := inCap_get l _ (rTake_cap hok hs hF hD h0 i) ((rP l fl D s)[i].k / 2) (l[(rP l fl D s)[i].k / 2]'(by omega)) ((augAll (leastR (rmR l fl) (rP l fl D s)) fl ((rP l fl D s).take i)).getD ((rP l fl D s)[i].k / 2) 0) (List.getElem?_eq_getElem (by omega)) (by rw [List.getD_eq_getElem?_getD, List.getElem?_eq_getElem (by omega)]; rfl)
  have hcc := hcap _ (List.getElem_mem (show (rP l fl D s)[i].k / 2 < l.length by omega))
  have hsn := augAll_snoc (leastR (rmR l fl) (rP l fl D s)) fl ((rP l fl D s).take i) (rP l fl D s)[i]
  rw [← take_snoc' hlt] at hsn
  unfold augR at hsn
  by_cases hp : (rP l fl D s)[i].k % 2 = 0
  ·rw [if_pos hp] at hsn
   refine AC ?_
   refine AA ?_
   refine BH ?_
   refine AE ?_
   refine AC ?_
   refine AM rfl ?_
   refine AL ?_
   refine AC ?_
   refine AO ?_
   refine AC ?_
   refine AA ?_
   refine BK ?_
   refine AG ?_
   refine AD ?_
   refine AE ?_
   refine AC ?_
   refine AA ?_
   refine AB ?_
   refine C3 ?_
   refine CP ?_
   refine AE ?_
   refine AM rfl ?_
   refine AA ?_
   refine AB ?_
   refine AB ?_
   refine CT ?_
   refine BM ?_
   refine AG ?_
   refine AB ?_
   refine B4 ?_
   refine BM ?_
   refine BW ?_; rintro _ _ ⟨rfl, rfl⟩
   refine AE ?_
   refine A2 ?_
   refine AA ?_
   refine BA ?_
   refine AB ?_
   refine AE ?_
   refine AY (i + 1) (by omega) (by omega) covZ ?_
   rw [hsn]
   exact selZ
  ·rw [if_neg hp] at hsn
   refine AC ?_
   refine AA ?_
   refine BH ?_
   refine AE ?_
   refine AC ?_
   refine AM rfl ?_
   refine AL ?_
   refine AC ?_
   refine AO ?_
   refine AC ?_
   refine AA ?_
   refine BK ?_
   refine AG ?_
   refine AD ?_
   refine AE ?_
   refine AC ?_
   refine AA ?_
   refine AB ?_
   refine C3 ?_
   refine BZ ?_
   refine AE ?_
   refine AN rfl ?_
   refine AA ?_
   refine AB ?_
   refine AB ?_
   refine CT ?_
   refine BM ?_
   refine AG ?_
   refine AB ?_
   refine CJ ?_
   refine BM ?_
   refine BW ?_; rintro _ _ ⟨rfl, rfl⟩
   refine AE ?_
   refine A2 ?_
   refine AA ?_
   refine BA ?_
   refine AB ?_
   refine AE ?_
   refine AY (i + 1) (by omega) (by omega) covZ ?_
   rw [hsn]
   exact selZ
 ·refine AC ?_
  refine AA ?_
  refine A0 ?_
  refine AE ?_
  refine AC ?_
  refine AN rfl ?_
  refine A7 rfl ?_
  refine A2 ?_
  refine AY (rNext l fl D s) ⟨hN1, fun F hR => hrun F (.step hD h0 hR)⟩ (by omega) covZ ?_
  rw [List.take_of_length_le (by omega)]
  exact selZ
end Go.Proofs.YtknfhiolenobaaaGreat
/- What is reached: a search by a queue. What Max and Cut hand back. No program in sight. No conditions. -/
namespace Go.Flow
def bget (B : List Bool) (v : Nat) : Bool := B.getD v false
theorem bget_set {B : List Bool} {i j : Nat} {x : Bool} (hi : i < B.length) : bget (B.set i x) j = if i = j then x else bget B j := by
  unfold bget
  rw [List.getD_eq_getElem?_getD, List.getD_eq_getElem?_getD, List.getElem?_set]
  split
  · rename_i h; subst h; simp [hi]
  · rfl
theorem bget_rep (n v : Nat) : bget (List.replicate n false) v = false := by
  unfold bget
  rw [List.getD_eq_getElem?_getD, List.getElem?_replicate]
  split <;> rfl
structure RInv (n s : Nat) (E : Lk → Prop) (B : List Bool) (q : List Nat) : Prop where
  len : B.length = n
  src : bget B s = true
  snd : ∀ v, v < n → bget B v = true → Rch E s v
  qn : ∀ v ∈ q, v < n ∧ bget B v = true
  cl : ∀ u, u < n → bget B u = true → u ∉ q → ∀ x, E x → x.f = u → bget B x.t = true
structure RVInv (n s : Nat) (E : Lk → Prop) (B : List Bool) (v : Nat) (q : List Nat) (pre : List Lk) : Prop where
  len : B.length = n
  src : bget B s = true
  snd : ∀ v, v < n → bget B v = true → Rch E s v
  vn : v < n
  v0 : bget B v = true
  qn : ∀ v ∈ q, v < n ∧ bget B v = true
  cl : ∀ u, u < n → bget B u = true → u ∉ q → u ≠ v → ∀ x, E x → x.f = u → bget B x.t = true
  pre0 : ∀ x ∈ pre, bget B x.t = true
section
variable {n s : Nat} {E : Lk → Prop} {B : List Bool}
theorem RInv.start (hs : s < n) : RInv n s E ((List.replicate n false).set s true) [s] := by
  have hg : ∀ v, bget ((List.replicate n false).set s true) v = true → v = s := fun v h => by
    rw [bget_set (by simpa using hs), bget_rep] at h
    split at h
    · rename_i e; exact e.symm
    · simp at h
  refine ⟨by simp, by rw [bget_set (by simpa using hs)]; simp, fun v _ h => by rw [hg v h]; exact .refl, fun v hv => ?_, fun u _ h hq => ?_⟩
  · simp at hv; subst hv
    exact ⟨hs, by rw [bget_set (by simpa using hs)]; simp⟩
  · exact absurd (by rw [hg u h]; simp) hq
theorem RInv.take {v : Nat} {q : List Nat} (h : RInv n s E B (v :: q)) : RVInv n s E B v q [] :=
  ⟨h.len, h.src, h.snd, (h.qn v (by simp)).1, (h.qn v (by simp)).2, fun u hu => h.qn u (by simp [hu]), fun u hu hb hq hne => h.cl u hu hb (by simp [hq, hne]), by simp⟩
theorem RVInv.seen {v : Nat} {q : List Nat} {pre : List Lk} {x : Lk} (h : RVInv n s E B v q pre) (hx : bget B x.t = true) : RVInv n s E B v q (pre ++ [x]) :=
  ⟨h.len, h.src, h.snd, h.vn, h.v0, h.qn, h.cl, fun y hy => by
    rcases List.mem_append.1 hy with hy | hy
    · exact h.pre0 y hy
    · rw [List.mem_singleton.1 hy]; exact hx⟩
theorem RVInv.push {v : Nat} {q : List Nat} {pre : List Lk} {x : Lk} (h : RVInv n s E B v q pre) (hE : E x) (hxt : x.t < n) (hxf : x.f = v) : RVInv n s E (B.set x.t true) v (q ++ [x.t]) (pre ++ [x]) := by
  have hl : x.t < B.length := by rw [h.len]; exact hxt
  have hg : ∀ u, bget B u = true → bget (B.set x.t true) u = true := fun u hu => by rw [bget_set hl]; split <;> simp [hu]
  refine ⟨by simp [h.len], hg _ h.src, fun u hu hb => ?_, h.vn, hg _ h.v0, fun u hu => ?_, fun u hu hb hq hne y hy hyf => ?_, fun y hy => ?_⟩
  · rw [bget_set hl] at hb
    split at hb
    · rename_i e; rw [← e]
      exact .step (by rw [hxf]; exact h.snd v h.vn h.v0) hE
    · exact h.snd u hu hb
  · rcases List.mem_append.1 hu with hu | hu
    · exact ⟨(h.qn u hu).1, hg _ (h.qn u hu).2⟩
    · rw [List.mem_singleton.1 hu]
      exact ⟨hxt, by rw [bget_set hl]; simp⟩
  · simp only [List.mem_append, List.mem_singleton, not_or] at hq
    rw [bget_set hl] at hb
    split at hb
    · rename_i e; exact absurd e.symm hq.2
    · exact hg _ (h.cl u hu hb hq.1 hne y hy hyf)
  · rcases List.mem_append.1 hy with hy | hy
    · exact hg _ (h.pre0 y hy)
    · rw [List.mem_singleton.1 hy, bget_set hl]; simp
theorem RVInv.done {v : Nat} {q : List Nat} {pre : List Lk} (h : RVInv n s E B v q pre) (hall : ∀ x, E x → x.f = v → x ∈ pre) : RInv n s E B q :=
  ⟨h.len, h.src, h.snd, h.qn, fun u hu hb hq x hx hxf => by
    by_cases e : u = v
    · subst e; exact h.pre0 x (hall x hx hxf)
    · exact h.cl u hu hb hq e x hx hxf⟩
end
def sideOf (B : List Bool) (k : Nat) : List Int := ((List.range k).filter (fun v => bget B v)).map (fun (v : Nat) => (v : Int))
theorem sideOf_len (B : List Bool) (k : Nat) : (sideOf B k).length ≤ k := by
  unfold sideOf
  rw [List.length_map]
  have := List.length_filter_le (fun v => bget B v) (List.range k)
  simpa using this
theorem mem_sideOf {B : List Bool} {k : Nat} {x : Int} : x ∈ sideOf B k ↔ ∃ v : Nat, x = v ∧ v < k ∧ bget B v = true := by
  unfold sideOf
  rw [List.mem_map]
  constructor
  · rintro ⟨v, hv, rfl⟩
    rw [List.mem_filter] at hv
    exact ⟨v, rfl, by simpa using hv.1, hv.2⟩
  · rintro ⟨v, rfl, h1, h2⟩
    exact ⟨v, by rw [List.mem_filter]; exact ⟨by simpa using h1, h2⟩, rfl⟩
theorem capOf_congr {n : Nat} {p q : Nat → Bool} (h : ∀ v, v < n → p v = q v) : ∀ l : List Arc, (∀ a ∈ l, okArc n a = true) → capOf p l = capOf q l
  | [], _ => rfl
  | a :: l, hok => by
    obtain ⟨g1, g2, g3, g4, _⟩ := okArc_iff.1 (hok a (by simp))
    simp only [capOf]
    rw [capOf_congr h l (fun b hb => hok b (by simp [hb])), h a.f.toNat (by omega), h a.t.toNat (by omega)]
def maxErr (n : Int) (l : List Arc) (s t : Int) : Int := if chk n l ≠ 0 then chk n l else if okEnds n s t = true then 0 else 2
def MaxOK (n : Int) (l : List Arc) (s t : Int) (F : List Int) (m e : Int) : Prop :=
  (maxErr n l s t ≠ 0 ∧ e = maxErr n l s t ∧ F = [] ∧ m = 0) ∨
  (maxErr n l s t = 0 ∧ e = 0 ∧ RunR n.toNat l s.toNat t.toNat (List.replicate l.length 0) F ∧ m = fval s l F)
def CutOK (n : Int) (l : List Arc) (s t : Int) (side : List Int) (c e : Int) : Prop :=
  (maxErr n l s t ≠ 0 ∧ e = maxErr n l s t ∧ side = [] ∧ c = 0) ∨
  (maxErr n l s t = 0 ∧ e = 0 ∧ ∃ F B, RunR n.toNat l s.toNat t.toNat (List.replicate l.length 0) F ∧ IsReach n.toNat (rE l F) s.toNat (bget B) ∧ side = sideOf B n.toNat ∧ c = capOf (bget B) l)
structure Good (n : Int) (l : List Arc) (s t : Int) (n' s' t' : Nat) : Prop where
  en : n = n'
  es : s = s'
  et : t = t'
  sn : s' < n'
  tn : t' < n'
  ne : s' ≠ t'
  n2 : n' ≤ 2000
  l2 : l.length ≤ 20000
  ok : ∀ a ∈ l, okArc n' a = true
  chk : Flow.chk n l = 0
  ends : okEnds n s t = true
theorem maxErr_good {n s t : Int} {l : List Arc} (h : maxErr n l s t = 0) : ∃ n' s' t' : Nat, Good n l s t n' s' t' := by
  unfold maxErr at h
  split at h
  · rename_i h1; exact absurd h h1
  · rename_i h1
    split at h
    · rename_i h2
      have hc : Flow.chk n l = 0 := by omega
      obtain ⟨a1, a2, a3, a4⟩ := chk_ok hc
      obtain ⟨b1, b2, b3, b4, b5⟩ := okEnds_iff.1 h2
      refine ⟨n.toNat, s.toNat, t.toNat, ⟨by omega, by omega, by omega, by omega, by omega, by omega, by omega, a3, ?_, hc, h2⟩⟩
      have e : ((n.toNat : Nat) : Int) = n := by omega
      rw [e]; exact a4
    · simp at h
theorem MaxOK.uniq {n s t : Int} {l : List Arc} {F G : List Int} {m k e f : Int} (h1 : MaxOK n l s t F m e) (h2 : MaxOK n l s t G k f) : F = G ∧ m = k ∧ e = f := by
  rcases h1 with ⟨a1, a2, a3, a4⟩ | ⟨a1, a2, a3, a4⟩ <;> rcases h2 with ⟨b1, b2, b3, b4⟩ | ⟨b1, b2, b3, b4⟩
  · exact ⟨by rw [a3, b3], by rw [a4, b4], by rw [a2, b2]⟩
  · exact absurd b1 a1
  · exact absurd a1 b1
  · obtain ⟨n', s', t', g⟩ := maxErr_good a1
    obtain ⟨rfl, rfl, rfl⟩ := And.intro g.en (And.intro g.es g.et)
    simp only [Int.toNat_natCast] at a3 b3
    have e := a3.uniq g.ok b3
    subst e
    exact ⟨rfl, by rw [a4, b4], by rw [a2, b2]⟩
theorem sideOf_congr {B C : List Bool} {n : Nat} (h : ∀ v, v < n → bget B v = bget C v) : sideOf B n = sideOf C n := by
  unfold sideOf
  congr 1
  apply List.filter_congr
  intro v hv
  exact h v (by simpa using hv)
theorem reach_uniq {n s : Nat} {E : Lk → Prop} {p q : Nat → Bool} (h1 : IsReach n E s p) (h2 : IsReach n E s q) : ∀ v, v < n → p v = q v := fun v hv => by
  have a := h1 v hv
  have b := h2 v hv
  cases e1 : p v <;> cases e2 : q v <;> simp_all
theorem CutOK.uniq {n s t : Int} {l : List Arc} {F G : List Int} {m k e f : Int} (h1 : CutOK n l s t F m e) (h2 : CutOK n l s t G k f) : F = G ∧ m = k ∧ e = f := by
  rcases h1 with ⟨a1, a2, a3, a4⟩ | ⟨a1, a2, F1, B1, r1, i1, d1, c1⟩ <;> rcases h2 with ⟨b1, b2, b3, b4⟩ | ⟨b1, b2, F2, B2, r2, i2, d2, c2⟩
  · exact ⟨by rw [a3, b3], by rw [a4, b4], by rw [a2, b2]⟩
  · exact absurd b1 a1
  · exact absurd a1 b1
  · obtain ⟨n', s', t', g⟩ := maxErr_good a1
    obtain ⟨rfl, rfl, rfl⟩ := And.intro g.en (And.intro g.es g.et)
    simp only [Int.toNat_natCast] at *
    have e := r1.uniq g.ok r2
    subst e
    have hb := reach_uniq i1 i2
    exact ⟨by rw [d1, d2]; exact sideOf_congr hb, by rw [c1, c2]; exact capOf_congr hb l g.ok, by rw [a2, b2]⟩
end Go.Flow
namespace Go.Flow
end Go.Flow
/- Max and Cut of the program. -/
namespace Go.Proofs.YtknfhiolenobaaaGreat
open Go.Eng Go.Flow
set_option maxRecDepth 100000
set_option maxHeartbeats 4000000

theorem flowMax_spec (ρ : PH) (v : Value) (n s t : Int) (l : List Arc) (hv : ArcsAt ρ v l) (hl : l.length ≤ 1000000) :
  Makes Tryz.prog (fv 14) [int n, v, int s, int t] [ρ] (fun r σ => ∃ fs F m e, r = .tuple #[fs, int m, int e] ∧ IntsAt σ fs F ∧ MaxOK n l s t F m e) := by
 have hnil : IntsAt emp (.slice none 0 0) [] := ⟨rfl, .inl ⟨rfl, none, 0, rfl⟩⟩
 refine spec_in (cap := []) Tryz.func14 rfl rfl Tryz.ntmps14 rfl envZ (fun N β => ?_)
 refine AC ?_
 refine AA ?_
 refine AD ?_
 refine AD ?_
 refine AD ?_
 refine AE ?_
 refine AC ?_
 refine AC ?_
 refine AA ?_
 refine AB ?_
 refine AB ?_
 focus ((refine AZ (check_spec ρ v n l hv hl) rfl rfl rdZ rfl rfl ?_; rintro _ rfl))
 refine AD ?_
 refine AE ?_
 refine AC ?_
 refine AA ?_
 refine AB ?_
 by_cases hc : chk n l = 0
 rotate_left
 ·refine B9 ?_
  refine AE ?_
  refine AM rfl ?_
  refine AC ?_
  refine AA ?_
  refine AB ?_
  refine AD ?_
  refine AD ?_
  refine AD ?_
  refine AE ?_
  refine C6 ?_
  exact AI (res3 rfl rfl rfl rfl) rsubZ selZ ⟨emp, ⟨_, [], 0, _, rfl, hnil, .inl ⟨by unfold maxErr; rw [if_pos hc]; exact hc, by unfold maxErr; rw [if_pos hc], rfl, rfl⟩⟩, rfl⟩
 refine A9 ?_
 refine AE ?_
 refine AN rfl ?_
 refine AL ?_
 refine AC ?_
 refine AC ?_
 refine AA ?_
 refine AB ?_
 refine AB ?_
 refine AB ?_
 focus ((refine AZ (ends_spec _ _ _) rfl rfl rdZ rfl rfl ?_; rintro _ rfl))
 refine AD ?_
 refine AE ?_
 refine AC ?_
 refine AA ?_
 refine AB ?_
 have hme : maxErr n l s t = if okEnds n s t = true then 0 else 2 := by unfold maxErr; rw [if_neg (by rw [hc]; simp)]
 cases he : okEnds n s t with
 | false =>
  rw [he] at hme
  simp only [Bool.false_eq_true, if_false] at hme ⊢
  refine B9 ?_
  refine AE ?_
  refine AM rfl ?_
  refine AC ?_
  refine AA ?_
  refine AB ?_
  refine AD ?_
  refine AD ?_
  refine AD ?_
  refine AE ?_
  refine C6 ?_
  exact AI (res3 rfl rfl rfl rfl) rsubZ selZ ⟨emp, ⟨_, [], 0, _, rfl, hnil, .inl ⟨by rw [hme]; simp, by rw [hme], rfl, rfl⟩⟩, rfl⟩
 | true =>
  rw [he] at hme
  simp only [if_true] at hme ⊢
  obtain ⟨n', s', t', g⟩ := maxErr_good hme
  obtain ⟨rfl, rfl, rfl⟩ := And.intro g.en (And.intro g.es g.et)
  refine A9 ?_
  refine AE ?_
  refine AN rfl ?_
  refine AL ?_
  refine AC ?_
  refine AA ?_
  refine AB ?_
  refine AB ?_
  refine AB ?_
  refine AB ?_
  refine BL (maximum_spec ρ v n' l s' t' hv g.n2 g.l2 g.ok g.sn g.tn g.ne) rfl rfl takesZ rdZ rfl rfl ?_
  rintro _ _ ⟨_, _, F, rfl, bf, gb, b1, b2, γ, rfl, rfl, _, hR, rfl⟩
  have hF := (hR.flw g.ok g.sn g.ne (flw_zeros g.ok)).1
  have hIn : IntsAt (sng bf (.cells (ints F) 3 (0, 0))) (.slice (some ⟨bf, 0, none⟩) l.length l.length) F := by rw [hF.len]; exact intsAt_sng
  simp only [List.cons_append, List.nil_append]
  refine AB ?_
  refine AP ?_
  refine AP ?_
  refine AD ?_
  refine AD ?_
  refine AE ?_
  refine AC ?_
  refine AA ?_
  refine AB ?_
  refine AB ?_
  refine AB ?_
  refine AB ?_
  refine AZ (value_spec ρ _ v _ s' l F hv hIn g.l2 hF.len.symm (inCap_small l F hF.len hF.cap g.ok)) rfl rfl rdZ rfl rfl ?_
  rintro _ rfl
  refine AD ?_
  refine AD ?_
  refine AD ?_
  refine AE ?_
  exact AI (res3 rfl rfl rfl rfl) rsubZ selZ ⟨_, ⟨_, F, _, _, rfl, hIn, .inr ⟨hme, rfl, hR, rfl⟩⟩, rfl⟩

end Go.Proofs.YtknfhiolenobaaaGreat
/- Maximum flows of time-expanded networks: least cuts, and less of what is there. No program in sight. No conditions. -/
namespace Go.Step
open Go.Flow (Flw fval okArc okArc_iff okEnds_iff capOf MaxOK maxErr RunR run_cut exists_reach)
section
variable {qs : List Int} {cs : List Ct} {bs : List Bk} {hs : List Hd} {d : Dm}
def MaxN (qs : List Int) (cs : List Ct) (bs : List Bk) (hs : List Hd) (d : Dm) (F : List Int) (m e : Int) : Prop := MaxOK (vsN qs d) (arcsG qs cs bs hs d) (vtx d d.s d.r) (vtx d d.d d.e) F m e
theorem max_err (h : VOk qs cs bs hs d) : maxErr (vsN qs d) (arcsG qs cs bs hs d) (vtx d d.s d.r) (vtx d d.d d.e) = 0 := by
  unfold maxErr
  rw [h.chk, h.ends]
  rfl
theorem max_cut (h : VOk qs cs bs hs d) {F : List Int} {m e : Int} (hm : MaxN qs cs bs hs d F m e) : e = 0 ∧ ∃ N S T : Nat, vsN qs d = N ∧ vtx d d.s d.r = S ∧ vtx d d.d d.e = T ∧ Flw N (arcsG qs cs bs hs d) S T F ∧ m = fval S (arcsG qs cs bs hs d) F ∧
    ∃ P : Int → Int → Bool, P d.s d.r = true ∧ P d.d d.e = false ∧ m = capB qs cs bs hs d P := by
  have hends := okEnds_iff.1 h.ends
  obtain ⟨N, hN⟩ : ∃ N : Nat, vsN qs d = N := ⟨(vsN qs d).toNat, by omega⟩
  obtain ⟨S, hS⟩ : ∃ N : Nat, vtx d d.s d.r = N := ⟨(vtx d d.s d.r).toNat, by omega⟩
  obtain ⟨T, hT⟩ : ∃ N : Nat, vtx d d.d d.e = N := ⟨(vtx d d.d d.e).toNat, by omega⟩
  have hok := h.ok
  unfold MaxN at hm
  have he := max_err h
  rw [hN] at hok
  rw [hN, hS, hT] at hm hends he
  rcases hm with ⟨a1, _⟩ | ⟨_, a2, a3, a4⟩
  · exact absurd he a1
  simp only [Int.toNat_natCast] at a3
  obtain ⟨B, hB⟩ := exists_reach N (Go.Flow.rE (arcsG qs cs bs hs d) F) S
  obtain ⟨f1, f2, f3, f4⟩ := run_cut hok (by omega) (by omega) (by omega) a3 hB
  refine ⟨a2, N, S, T, hN, hS, hT, f1, a4, fun n t => B (vtx d n t).toNat, by show B (vtx d d.s d.r).toNat = true; rw [hS]; exact f2, by show B (vtx d d.d d.e).toNat = false; rw [hT]; exact f3, ?_⟩
  rw [a4, f4, capB_eq h]
theorem lsum_le {α : Type} {f g : α → Int} {l : List α} (h : ∀ x ∈ l, f x ≤ g x) : lsum f l ≤ lsum g l := by
  induction l with
  | nil => exact Int.le_refl _
  | cons x l ih => have := h x (by simp); have := ih (fun y hy => h y (by simp [hy])); simp only [lsum]; omega
theorem lsum_nonneg {α : Type} {f : α → Int} {l : List α} (h : ∀ x ∈ l, 0 ≤ f x) : 0 ≤ lsum f l := by
  have := lsum_le (f := fun _ => 0) h
  rwa [lsum_zero] at this
theorem lsum_mem {α : Type} {f : α → Int} {l : List α} (h : ∀ x ∈ l, 0 ≤ f x) {x : α} (hx : x ∈ l) : f x ≤ lsum f l := by
  induction l with
  | nil => simp at hx
  | cons y l ih =>
    have h1 := h y (by simp)
    have h2 := lsum_nonneg (f := f) (l := l) (fun z hz => h z (by simp [hz]))
    simp only [lsum]
    rcases List.mem_cons.1 hx with rfl | hx
    · omega
    · have := ih (fun z hz => h z (by simp [hz])) hx
      omega
theorem waitB_nonneg (h : VOk qs cs bs hs d) (P : Int → Int → Bool) {n : Nat} (hn : n < qs.length) (t : Int) : 0 ≤ waitB qs hs d P n t := by
  unfold waitB
  have := h.room n hn t
  split <;> omega
theorem conB_nonneg (h : VOk qs cs bs hs d) (P : Int → Int → Bool) {i : Nat} (hi : i < cs.length) (t : Int) : 0 ≤ conB cs bs d P i t ∧ conB cs bs d P i t ≤ 1000 := by
  unfold conB
  rw [Int.toNat_natCast, List.getElem?_eq_getElem hi]
  have := (h.ct _ (List.getElem_mem hi)).2.2.2.1
  dsimp only
  split <;> omega
theorem capB_wait_le (h : VOk qs cs bs hs d) (P : Int → Int → Bool) {n : Nat} (hn : n < qs.length) {t : Int} (h1 : d.r ≤ t) (h2 : t < d.e) : waitB qs hs d P n t ≤ capB qs cs bs hs d P := by
  have hw : ∀ k : Nat, k < qs.length → 0 ≤ sumU (waitB qs hs d P k) d.r d.e := fun k hk => by
    rw [← lsum_rngI]
    exact lsum_nonneg (fun t _ => waitB_nonneg h P hk t)
  have hc : 0 ≤ sumT (fun i => sumU (conB cs bs d P i) d.r d.e) 0 cs.length := by
    rw [← lsum_range]
    refine lsum_nonneg (fun i hi => ?_)
    obtain ⟨k, hk, rfl⟩ := List.mem_map.1 hi
    rw [List.mem_range] at hk
    rw [← lsum_rngI, Int.zero_add]
    exact lsum_nonneg (fun t _ => (conB_nonneg h P hk t).1)
  have h3 : sumU (waitB qs hs d P n) d.r d.e ≤ sumT (fun n => sumU (waitB qs hs d P n) d.r d.e) 0 qs.length := by
    rw [← lsum_range]
    refine lsum_mem (f := fun n => sumU (waitB qs hs d P n) d.r d.e) (fun i hi => ?_) (List.mem_map.2 ⟨n, List.mem_range.2 hn, by omega⟩)
    obtain ⟨k, hk, rfl⟩ := List.mem_map.1 hi
    rw [List.mem_range] at hk
    have := hw k hk
    rwa [Int.zero_add]
  have h4 : waitB qs hs d P n t ≤ sumU (waitB qs hs d P n) d.r d.e := by
    rw [← lsum_rngI]
    exact lsum_mem (f := waitB qs hs d P n) (fun u _ => waitB_nonneg h P hn u) (mem_rngI.2 ⟨h1, h2⟩)
  unfold capB
  omega
end
end Go.Step
/- The chapter's example: its network, its maximum flows, their shipments, a cut. No program in sight. No conditions. -/
namespace Go.Step
open Go.Flow (Flw fval okArc capOf MaxOK inCap)
abbrev eK : Int := 1099511627776
def eA : List EA := [⟨⟨0, 1, eK⟩, -1, 0⟩, ⟨⟨1, 2, eK⟩, -1, 1⟩, ⟨⟨2, 3, eK⟩, -1, 2⟩, ⟨⟨3, 4, eK⟩, -1, 3⟩, ⟨⟨4, 5, eK⟩, -1, 4⟩, ⟨⟨5, 6, eK⟩, -1, 5⟩,
  ⟨⟨7, 8, 1⟩, -1, 0⟩, ⟨⟨8, 9, 1⟩, -1, 1⟩, ⟨⟨9, 10, 1⟩, -1, 2⟩, ⟨⟨10, 11, 1⟩, -1, 3⟩, ⟨⟨11, 12, 1⟩, -1, 4⟩, ⟨⟨12, 13, 1⟩, -1, 5⟩,
  ⟨⟨14, 15, eK⟩, -1, 0⟩, ⟨⟨15, 16, eK⟩, -1, 1⟩, ⟨⟨16, 17, eK⟩, -1, 2⟩, ⟨⟨17, 18, eK⟩, -1, 3⟩, ⟨⟨18, 19, eK⟩, -1, 4⟩, ⟨⟨19, 20, eK⟩, -1, 5⟩,
  ⟨⟨0, 9, 3⟩, 0, 0⟩, ⟨⟨1, 10, 3⟩, 0, 1⟩, ⟨⟨10, 19, 3⟩, 1, 3⟩, ⟨⟨11, 20, 3⟩, 1, 4⟩]
end Go.Step
/- The example is awake. -/
namespace Go.Proofs.YtknfhiolenobaaaGreat
open Go.Eng Go.Step
set_option maxRecDepth 100000
set_option maxHeartbeats 4000000

end Go.Proofs.YtknfhiolenobaaaGreat
/- Joins and meets of cuts. -/
namespace Go.Proofs.YtknfhiolenobaaaGreat
open Go.Eng Go.Step
set_option maxRecDepth 100000
set_option maxHeartbeats 4000000

end Go.Proofs.YtknfhiolenobaaaGreat
/- Sets of the document: one more span, union. -/
namespace Go.Proofs.YtknfhiolenobaaaGreat
open Go.Eng Go.Step
set_option maxRecDepth 100000
set_option maxHeartbeats 4000000

end Go.Proofs.YtknfhiolenobaaaGreat
/- Sets of the document: intersection, equality. -/
namespace Go.Proofs.YtknfhiolenobaaaGreat
open Go.Eng Go.Step
set_option maxRecDepth 100000
set_option maxHeartbeats 4000000

end Go.Proofs.YtknfhiolenobaaaGreat
/- Joins and meets of the document. -/
namespace Go.Proofs.YtknfhiolenobaaaGreat
open Go.Eng Go.Step
set_option maxRecDepth 100000
set_option maxHeartbeats 4000000

end Go.Proofs.YtknfhiolenobaaaGreat
/- The arcs of the network, as the document lists them. No program in sight. No conditions. -/
namespace Go.Step
section
variable {qs : List Int} {cs : List Ct} {bs : List Bk} {hs : List Hd} {d : Dm}
end
end Go.Step
/- The document's arcs. -/
namespace Go.Proofs.YtknfhiolenobaaaGreat
open Go.Eng Go.Step
set_option maxRecDepth 100000
set_option maxHeartbeats 4000000

end Go.Proofs.YtknfhiolenobaaaGreat
/- The document's network, its vertices and shipments. -/
namespace Go.Proofs.YtknfhiolenobaaaGreat
open Go.Eng Go.Step
set_option maxRecDepth 100000
set_option maxHeartbeats 4000000

theorem RdN.pre {ρ : PH} {b o : Nat} {xs ys : List Value} (h : RdN ρ b o (xs ++ ys)) : RdP ρ b o xs := ⟨fun j v hv => h j v (by
 have hl := (List.getElem?_eq_some_iff.1 hv).1
 rw [List.getElem?_append_left hl]
 exact hv)⟩
theorem rowN {α : Type} {enc : α → List Value} {s : Nat} (he : ∀ x, (enc x).length = s) {ρ : PH} {p : Option Addr} {k : Nat} {l : List α} (h : SlE enc s ρ (.slice p l.length k) l) : RowsE enc s ρ p l := by
 obtain ⟨_, _, e, hr⟩ := h.val he
 simp only [Value.slice.injEq] at e
 obtain ⟨rfl, _, _⟩ := e
 exact hr
end Go.Proofs.YtknfhiolenobaaaGreat
/- Distances found level by level, over all links again and again; the first link that leads nearer; what is reached by n rounds. No program in sight. No conditions. -/
namespace Go.Flow
structure LInv (n t : Nat) (E : Lk → Prop) (D : List Int) (d : Nat) (pre : List Lk) : Prop where
  len : D.length = n
  low : ∀ v, v < n → -1 ≤ D.getD v 0
  hi : ∀ v, v < n → D.getD v 0 ≤ (d : Int) + 1
  at0 : D.getD t 0 = 0
  zero : ∀ v, v < n → D.getD v 0 = 0 → v = t
  step : ∀ v, v < n → 0 < D.getD v 0 → ∃ x, E x ∧ x.f = v ∧ D.getD x.t 0 = D.getD v 0 - 1
  old : ∀ x, E x → 0 ≤ D.getD x.t 0 → D.getD x.t 0 < (d : Int) → 0 ≤ D.getD x.f 0 ∧ D.getD x.f 0 ≤ D.getD x.t 0 + 1
  pre0 : ∀ x ∈ pre, E x → D.getD x.t 0 = (d : Int) → 0 ≤ D.getD x.f 0
section
variable {n t : Nat} {E : Lk → Prop} {D : List Int} {d : Nat}
theorem LInv.start (ht : t < n) : LInv n t E ((List.replicate n (-1)).set t 0) 0 [] ∧ ∀ v, v < n → ((List.replicate n (-1 : Int)).set t 0).getD v 0 ≤ ((0 : Nat) : Int) := by
  have hg : ∀ v, v < n → ((List.replicate n (-1 : Int)).set t 0).getD v 0 = if t = v then 0 else -1 := fun v hv => by
    rw [getD_set (by simpa using ht)]
    split
    · rfl
    · exact getD_rep hv _
  have hlt : ∀ v, v < n → ((List.replicate n (-1 : Int)).set t 0).getD v 0 ≤ 0 := fun v hv => by rw [hg v hv]; split <;> omega
  refine ⟨⟨by simp, fun v hv => by rw [hg v hv]; split <;> omega, fun v hv => by have := hlt v hv; omega, by rw [hg t ht]; simp, fun v hv h => ?_, fun v hv h => by have := hlt v hv; omega, fun x _ h1 h2 => by omega, by simp⟩, hlt⟩
  rw [hg v hv] at h
  split at h
  · rename_i e; exact e.symm
  · omega
theorem LInv.skip {pre : List Lk} {x : Lk} (h : LInv n t E D d pre) (hx : E x → D.getD x.t 0 = (d : Int) → 0 ≤ D.getD x.f 0) : LInv n t E D d (pre ++ [x]) :=
  ⟨h.len, h.low, h.hi, h.at0, h.zero, h.step, h.old, fun y hy => by
    rcases List.mem_append.1 hy with hy | hy
    · exact h.pre0 y hy
    · rw [List.mem_singleton.1 hy]; exact hx⟩
theorem LInv.next {ls : List Lk} {pre : List Lk} (hsub : ∀ x, E x → x ∈ ls) (hE : ∀ x, E x → x.f < n ∧ x.t < n) (hp : ∀ x ∈ ls, x ∈ pre) (h : LInv n t E D d pre) : LInv n t E D (d + 1) [] :=
  ⟨h.len, h.low, fun v hv => by have := h.hi v hv; omega, h.at0, h.zero, h.step, fun x hx h1 h2 => by
    by_cases e : D.getD x.t 0 = (d : Int)
    · have := h.pre0 x (hp x (hsub x hx)) hx e
      have := h.hi x.f (hE x hx).1
      omega
    · exact h.old x hx h1 (by omega), by simp⟩
theorem LInv.dist (hE : ∀ x, E x → x.f < n ∧ x.t < n) (h : LInv n t E D (d + 1) []) (hno : ∀ v, v < n → D.getD v 0 ≤ (d : Int)) : IsDist n t E D :=
  ⟨h.len, h.low, h.at0, h.zero, fun x hx h1 => h.old x hx h1 (by have := hno x.t (hE x hx).2; omega), h.step⟩
end
inductive RchN (E : Lk → Prop) (s : Nat) : Nat → Nat → Prop
  | refl {k : Nat} : RchN E s k s
  | step {k : Nat} {x : Lk} : RchN E s k x.f → E x → RchN E s (k + 1) x.t
theorem RchN.mono {E : Lk → Prop} {s k m v : Nat} (h : RchN E s k v) (hk : k ≤ m) : RchN E s m v := by
  induction h generalizing m with
  | refl => exact .refl
  | step _ hx ih =>
    obtain ⟨m', rfl⟩ : ∃ m', m = m' + 1 := ⟨m - 1, by omega⟩
    exact .step (ih (by omega)) hx
structure KInv (n s : Nat) (E : Lk → Prop) (B : List Bool) (r : Nat) (pre : List Lk) : Prop where
  len : B.length = n
  snd : ∀ v, v < n → bget B v = true → Rch E s v
  cmp : ∀ v, v < n → RchN E s r v → bget B v = true
  pre0 : ∀ x ∈ pre, E x → RchN E s r x.f → bget B x.t = true
section
variable {n s : Nat} {E : Lk → Prop} {B : List Bool} {r : Nat}
theorem KInv.start (hs : s < n) : KInv n s E ((List.replicate n false).set s true) 0 [] := by
  have hl : s < (List.replicate n false).length := by simpa using hs
  refine ⟨by simp, fun v _ h => ?_, fun v hv h => ?_, by simp⟩
  · rw [bget_set hl, bget_rep] at h
    split at h
    · rename_i e; rw [← e]; exact .refl
    · simp at h
  · cases h with
    | refl => rw [bget_set hl]; simp
theorem KInv.skip {pre : List Lk} {x : Lk} (h : KInv n s E B r pre) (hx : E x → bget B x.f = false) (hE : ∀ x, E x → x.f < n ∧ x.t < n) : KInv n s E B r (pre ++ [x]) :=
  ⟨h.len, h.snd, h.cmp, fun y hy hyE hr => by
    rcases List.mem_append.1 hy with hy | hy
    · exact h.pre0 y hy hyE hr
    · rw [List.mem_singleton.1 hy] at hyE hr ⊢
      have := h.cmp x.f (hE x hyE).1 hr
      rw [hx hyE] at this; simp at this⟩
theorem KInv.next {ls pre : List Lk} (hsub : ∀ x, E x → x ∈ ls) (hp : ∀ x ∈ ls, x ∈ pre) (hs : s < n) (h : KInv n s E B r pre) : KInv n s E B (r + 1) [] :=
  ⟨h.len, h.snd, fun v hv hr => by
    cases hr with
    | refl => exact h.cmp s hs .refl
    | @step _ x hr hx => exact h.pre0 x (hp x (hsub x hx)) hx hr, by simp⟩
end
end Go.Flow
/- The example of the chapter; the laws on maximum flows, cuts and paths, in plain words. No program in sight. No conditions. -/
namespace Go.Flow
def exL : List Arc := [⟨0, 1, 3⟩, ⟨0, 2, 2⟩, ⟨1, 2, 5⟩, ⟨1, 3, 2⟩, ⟨2, 3, 3⟩]
/-! ### the laws -/
section
variable {n s t : Int} {l : List Arc}
theorem value_flw {F : List Int} {v : Int} (h : valueSpec n l F s t = (v, 0)) : ∃ n' s' t' : Nat, Good n l s t n' s' t' ∧ Flw n' l s' t' F ∧ v = fval s l F := by
  unfold valueSpec at h
  split at h
  · rename_i h1; simp only [Prod.mk.injEq] at h; exact absurd h.2 h1
  · rename_i h1
    split at h
    · simp at h
    · rename_i h2
      split at h
      · simp at h
      · rename_i h3
        split at h
        · simp at h
        · rename_i h4
          split at h
          · simp at h
          · rename_i h5
            simp only [Prod.mk.injEq, and_true] at h
            have hm : maxErr n l s t = 0 := by
              unfold maxErr
              rw [if_neg h1, if_pos (by simpa using h2)]
            obtain ⟨n', s', t', g⟩ := maxErr_good hm
            obtain ⟨rfl, rfl, rfl⟩ := And.intro g.en (And.intro g.es g.et)
            refine ⟨n', s', t', g, ⟨by omega, by simpa using h4, fun v hv g1 g2 => ?_⟩, h.symm⟩
            simp only [Bool.not_eq_false] at h5
            unfold balanced at h5
            rw [List.all_eq_true] at h5
            have := h5 v (by simpa using hv)
            rw [decide_eq_true_eq] at this
            rcases this with h | h | h
            · exact absurd (by omega) g1
            · exact absurd (by omega) g2
            · exact h
theorem side_chk (B : List Bool) (n : Nat) : ∀ (k : Nat), k ≤ n → ∀ (r : List Int) (p : Option Int), (∀ q, p = some q → ∃ m : Nat, q = m ∧ m < k) → sideChk n p (((List.range' k (n - k)).filter (fun v => bget B v)).map (fun (v : Nat) => (v : Int))) = 0 := by
  intro k hk r p hp
  generalize hd : n - k = d
  induction d generalizing k p with
  | zero => simp [sideChk]
  | succ d ih =>
    rw [List.range'_succ, List.filter_cons]
    split
    · simp only [List.map_cons, sideChk]
      rw [if_neg (by omega), if_neg]
      · exact ih (k + 1) (by omega) _ (fun q hq => ⟨k, by simpa using hq.symm, by omega⟩) (by omega)
      · cases p with
        | none => simp
        | some q =>
          obtain ⟨m, rfl, hm⟩ := hp q rfl
          simp; omega
    · exact ih (k + 1) (by omega) _ (fun q hq => by obtain ⟨m, h1, h2⟩ := hp q hq; exact ⟨m, h1, by omega⟩) (by omega)
theorem sideOf_chk (B : List Bool) (n : Nat) : sideChk n none (sideOf B n) = 0 := by
  have := side_chk B n 0 (by omega) [] none (by simp)
  rw [Nat.sub_zero, ← List.range_eq_range'] at this
  exact this
end
end Go.Flow
/- Searches in slices of numbers; the example of the chapter. -/
namespace Go.Proofs.YtknfhiolenobaaaGreat
open Go.Eng Go.Flow
set_option maxRecDepth 100000
set_option maxHeartbeats 4000000

end Go.Proofs.YtknfhiolenobaaaGreat
/- The document's cuts. -/
namespace Go.Proofs.YtknfhiolenobaaaGreat
open Go.Eng Go.Step
set_option maxRecDepth 100000
set_option maxHeartbeats 4000000

end Go.Proofs.YtknfhiolenobaaaGreat
/- The reference: residual arcs, distances level by level, the first shortest path. -/
namespace Go.Proofs.YtknfhiolenobaaaGreat
open Go.Eng Go.Flow
set_option maxRecDepth 100000
set_option maxHeartbeats 4000000

end Go.Proofs.YtknfhiolenobaaaGreat
/- Bounds on what Max hands back; a capacity raised. No program in sight. No conditions. -/
namespace Go.Flow
end Go.Flow
/- The reference's list of residual arcs, as it is filled; rooms are bounded. No program in sight. No conditions. -/
namespace Go.Flow
end Go.Flow
/- The reference: the list of residual arcs, the first shortest path. -/
namespace Go.Proofs.YtknfhiolenobaaaGreat
open Go.Eng Go.Flow
set_option maxRecDepth 100000
set_option maxHeartbeats 4000000

end Go.Proofs.YtknfhiolenobaaaGreat
/- The reference: the first shortest path. -/
namespace Go.Proofs.YtknfhiolenobaaaGreat
open Go.Eng Go.Flow
set_option maxRecDepth 100000
set_option maxHeartbeats 4000000

end Go.Proofs.YtknfhiolenobaaaGreat
/- The reference: Max, Cut. -/
namespace Go.Proofs.YtknfhiolenobaaaGreat
open Go.Eng Go.Flow
set_option maxRecDepth 100000
set_option maxHeartbeats 4000000

end Go.Proofs.YtknfhiolenobaaaGreat
/- Results that lie in memory: a struct and two or three numbers. -/
namespace Go.Eng
variable {L : Env} {R H : List PH}
end Go.Eng
/- How much can be brought. -/
namespace Go.Proofs.YtknfhiolenobaaaGreat
open Go.Eng Go.Step
set_option maxRecDepth 100000
set_option maxHeartbeats 4000000

end Go.Proofs.YtknfhiolenobaaaGreat
/- What Paths hands back. No program in sight. No conditions. -/
namespace Go.Flow
def PathsOK (n : Int) (l : List Arc) (fl : List Int) (s t : Int) (ps : List (List Lk × Int)) (e : Int) : Prop :=
  ((valueSpec n l fl s t).2 ≠ 0 ∧ e = (valueSpec n l fl s t).2 ∧ ps = []) ∨
  ((valueSpec n l fl s t).2 = 0 ∧ e = 0 ∧ ∃ r, RunP n.toNat l s.toNat t.toNat fl ps r)
theorem value_good {n s t : Int} {l : List Arc} {fl : List Int} (h : (valueSpec n l fl s t).2 = 0) : ∃ n' s' t' : Nat, Good n l s t n' s' t' ∧ Flw n' l s' t' fl ∧ (valueSpec n l fl s t).1 = fval s l fl := by
  obtain ⟨n', s', t', g, hF, hv⟩ := value_flw (F := fl) (v := (valueSpec n l fl s t).1) (by rw [← h])
  exact ⟨n', s', t', g, hF, hv⟩
theorem PathsOK.uniq {n s t e f : Int} {l : List Arc} {fl : List Int} {ps qs : List (List Lk × Int)} (h1 : PathsOK n l fl s t ps e) (h2 : PathsOK n l fl s t qs f) : ps = qs ∧ e = f := by
  rcases h1 with ⟨a1, a2, a3⟩ | ⟨a1, a2, r1, a3⟩ <;> rcases h2 with ⟨b1, b2, b3⟩ | ⟨b1, b2, r2, b3⟩
  · exact ⟨by rw [a3, b3], by rw [a2, b2]⟩
  · exact absurd b1 a1
  · exact absurd a1 b1
  · obtain ⟨n', s', t', g, _, _⟩ := value_good a1
    obtain ⟨rfl, rfl, rfl⟩ := And.intro g.en (And.intro g.es g.et)
    simp only [Int.toNat_natCast] at a3 b3
    exact ⟨(a3.uniq g.ok b3).1, by rw [a2, b2]⟩
theorem RunP.cons {n s t : Nat} {l : List Arc} {fl r : List Int} {p : List Lk × Int} {ps : List (List Lk × Int)} (h : RunP n l s t fl (p :: ps) r) :
    ∃ D, IsDist n t (pE l fl) D ∧ 0 ≤ D.getD s 0 ∧ p.1 = pP l fl D s ∧ p.2 = pRoom l fl D s ∧ RunP n l s t (pNext l fl D s) ps r := by
  cases h with
  | step hD h0 hr => exact ⟨_, hD, h0, rfl, rfl, hr⟩
theorem RunP.nil {n s t : Nat} {l : List Arc} {fl r : List Int} (h : RunP n l s t fl [] r) : r = fl ∧ ∃ D, IsDist n t (pE l fl) D ∧ D.getD s 0 < 0 := by
  cases h with
  | done hD hn => exact ⟨rfl, _, hD, hn⟩
end Go.Flow
namespace Go.Flow
/-! ### each path uses up an arc -/
def npos (l : List Int) : Nat := l.countP (fun x => decide (0 < x))
theorem npos_le : ∀ (a b : List Int), a.length = b.length → (∀ k : Nat, b.getD k 0 ≤ a.getD k 0) → npos b ≤ npos a
  | [], [], _, _ => Nat.le_refl _
  | x :: a, y :: b, hl, h => by
    have ih := npos_le a b (by simpa using hl) (fun k => by simpa using h (k + 1))
    have h0 := h 0
    simp only [List.getD_cons_zero] at h0
    unfold npos at ih ⊢
    simp only [List.countP_cons]
    by_cases h1 : 0 < y
    · rw [if_pos (by simpa using h1), if_pos (by simp; omega)]; omega
    · rw [if_neg (by simpa using h1)]; omega
theorem npos_lt : ∀ (a b : List Int), a.length = b.length → (∀ k : Nat, b.getD k 0 ≤ a.getD k 0) → ∀ j : Nat, 0 < a.getD j 0 → b.getD j 0 ≤ 0 → npos b + 1 ≤ npos a
  | [], [], _, _, j, h1, _ => by simp at h1
  | x :: a, y :: b, hl, h, 0, h1, h2 => by
    have ih := npos_le a b (by simpa using hl) (fun k => by simpa using h (k + 1))
    simp only [List.getD_cons_zero] at h1 h2
    unfold npos at ih ⊢
    simp only [List.countP_cons]
    rw [if_neg (by simp; omega), if_pos (by simpa using h1)]; omega
  | x :: a, y :: b, hl, h, j + 1, h1, h2 => by
    have ih := npos_lt a b (by simpa using hl) (fun k => by simpa using h (k + 1)) j (by simpa using h1) (by simpa using h2)
    have h0 := h 0
    simp only [List.getD_cons_zero] at h0
    unfold npos at ih ⊢
    simp only [List.countP_cons]
    by_cases h3 : 0 < y
    · rw [if_pos (by simpa using h3), if_pos (by simp; omega)]; omega
    · rw [if_neg (by simpa using h3)]; omega
theorem subP_le {room : Int} (h0 : 0 ≤ room) (rest : List Int) (x : Lk) (k : Nat) : (subP room rest x).getD k 0 ≤ rest.getD k 0 := by
  unfold subP
  by_cases e : x.k = k
  · subst e
    by_cases hl : x.k < rest.length
    · rw [getD_set hl, if_pos rfl]; omega
    · rw [List.set_eq_of_length_le (by omega)]; exact Int.le_refl _
  · rw [getD_set' e]; exact Int.le_refl _
theorem subAll_le {room : Int} (h0 : 0 ≤ room) : ∀ (p : List Lk) (rest : List Int) (k : Nat), (subAll room rest p).getD k 0 ≤ rest.getD k 0
  | [], rest, k => Int.le_refl _
  | x :: p, rest, k => Int.le_trans (subAll_le h0 p (subP room rest x) k) (subP_le h0 rest x k)
theorem subAll_used {room : Int} (h0 : 0 ≤ room) : ∀ (p : List Lk) (rest : List Int) (x : Lk), x ∈ p → x.k < rest.length → (subAll room rest p).getD x.k 0 ≤ rest.getD x.k 0 - room
  | [], rest, x, hx, _ => by simp at hx
  | y :: p, rest, x, hx, hl => by
    simp at hx
    rcases hx with rfl | hx
    · refine Int.le_trans (subAll_le h0 p (subP room rest x) x.k) ?_
      unfold subP
      rw [getD_set hl, if_pos rfl]; exact Int.le_refl _
    · have := subAll_used h0 p (subP room rest y) x hx (by rw [subP_len]; exact hl)
      have := subP_le h0 rest y x.k
      show (subAll room (subP room rest y) p).getD x.k 0 ≤ _
      omega
theorem least_attained (rm : Nat → Int) : ∀ (p : List Lk) (m : Int), p.foldl (fun m x => min m (rm x.k)) m = m ∨ ∃ x ∈ p, rm x.k = p.foldl (fun m x => min m (rm x.k)) m
  | [], m => .inl rfl
  | y :: p, m => by
    simp only [List.foldl_cons]
    rcases least_attained rm p (min m (rm y.k)) with h | ⟨x, hx, h⟩
    · rw [h]
      by_cases hc : m ≤ rm y.k
      · left; omega
      · right; exact ⟨y, by simp, by omega⟩
    · right; exact ⟨x, by simp [hx], h⟩
theorem pNext_pos {n s t : Nat} {l : List Arc} (hok : ∀ a ∈ l, okArc n a = true) (hs : s < n) (hst : s ≠ t) {fl D : List Int} (hf : Flw n l s t fl) (hD : IsDist n t (pE l fl) D) (h0 : 0 ≤ D.getD s 0) : npos (pNext l fl D s) + 1 ≤ npos fl := by
  obtain ⟨k, hk⟩ := Int.eq_ofNat_of_zero_le h0
  have hch := path_chn (pl_lt hok) hD k s hs hk
  have hlen : (pP l fl D s).length = k := path_len (pl_lt hok) hD k s hs hk
  have hpos := (pNext_ok hok hs hst hf hD h0).2.1
  have hk0 : k ≠ 0 := fun e => by
    subst e
    exact hst (hD.zero s hs (by omega))
  have hatt : ∃ x ∈ pP l fl D s, rmP fl x.k = pRoom l fl D s := by
    rcases least_attained (rmP fl) (pP l fl D s) 1099511627776 with h | h
    · have hne : pP l fl D s ≠ [] := fun e => by rw [e] at hlen; simp at hlen; omega
      obtain ⟨x, p, hxp⟩ := List.exists_cons_of_ne_nil hne
      refine ⟨x, by rw [hxp]; simp, ?_⟩
      have hle := (leastR_le (rmP fl) (pP l fl D s) 1099511627776).2 x (by rw [hxp]; simp)
      have hxP : x ∈ pP l fl D s := by rw [hxp]; simp
      have hxm := (hch.all x hxP).1.1
      obtain ⟨j, a, ha, rfl⟩ := plinks_iff.1 hxm
      have hjl : j < l.length := (List.getElem?_eq_some_iff.1 ha).1
      have hfj : fl[j]? = some (fl.getD j 0) := by have := hf.len; simp [List.getD_eq_getElem?_getD, show j < fl.length by omega]
      have hin := inCap_get l fl hf.cap j a _ ha hfj
      have hka := okArc_iff.1 (hok a (List.mem_of_getElem? ha))
      show fl.getD j 0 = _
      have h9 : pRoom l fl D s = 1099511627776 := h
      have h10 : pRoom l fl D s ≤ fl.getD j 0 := hle
      omega
    · exact h
  obtain ⟨x, hx, hxr⟩ := hatt
  have hxk : x.k < fl.length := by rw [← hf.len]; exact pl_k (hch.all x hx).1.1
  refine npos_lt fl _ (by rw [subAll_len]) (fun k => subAll_le (Int.le_of_lt hpos) _ _ k) x.k ?_ ?_
  · have h2 : fl.getD x.k 0 = pRoom l fl D s := hxr
    rw [h2]; exact hpos
  · have h1 := subAll_used (Int.le_of_lt hpos) (pP l fl D s) fl x hx hxk
    have h2 : fl.getD x.k 0 = pRoom l fl D s := hxr
    rw [h2, Int.sub_self] at h1
    exact h1
end Go.Flow
namespace Go.Flow
theorem RunP.small {n s t : Nat} {l : List Arc} (hok : ∀ a ∈ l, okArc n a = true) (hs : s < n) (ht : t < n) (hst : s ≠ t) {fl r : List Int} {ps : List (List Lk × Int)} (h : RunP n l s t fl ps r) : Flw n l s t fl → ps.length ≤ npos fl ∧ ∀ p ∈ ps, p.1.length ≤ n := by
  induction h with
  | done => intro _; simp
  | @step fl D r ps hD h0 _ ih =>
    intro hf
    obtain ⟨hN1, _, _⟩ := pNext_ok hok hs hst hf hD h0
    have hp := pNext_pos hok hs hst hf hD h0
    obtain ⟨i1, i2⟩ := ih hN1
    refine ⟨by simp only [List.length_cons]; omega, fun p hp => ?_⟩
    simp at hp
    rcases hp with rfl | hp
    · obtain ⟨k, hk⟩ := Int.eq_ofNat_of_zero_le h0
      have h3 : (pP l fl D s).length = k := path_len (pl_lt hok) hD k s hs hk
      have h2 := hD.lt (fun x hx => pl_lt hok x hx.1) ht hs
      dsimp only
      omega
    · exact i2 p hp
end Go.Flow
/- Paths of the program. -/
namespace Go.Proofs.YtknfhiolenobaaaGreat
open Go.Eng Go.Flow
set_option maxRecDepth 100000
set_option maxHeartbeats 4000000

theorem OwnS.num {e : TypeId} {b n cap : Nat} {l : List Int} {ρ : PH} (h : OwnS e 1 (.slice (some ⟨b, 0, none⟩) n cap) l.length (l.flatMap Eng.encI) ρ) {i : Nat} (hi : i < l.length) : rdc ρ b i = some (int (l.getD i 0)) := by
 have hS : SlE Eng.encI 1 ρ (.slice (some ⟨b, 0, none⟩) n cap) l := h.at
 obtain ⟨p, c, e1, hr⟩ := hS.val Eng.encI_len
 simp only [Value.slice.injEq] at e1
 obtain ⟨b', o', e2, h2⟩ := hr.int (List.getElem?_eq_getElem hi)
 rw [← e1.1] at e2
 simp only [Option.some.injEq, Addr.mk.injEq, and_true] at e2
 obtain ⟨rfl, rfl⟩ := e2
 rw [Nat.zero_add] at h2
 rw [h2]
 simp [List.getD_eq_getElem?_getD, hi]
def ArcsIn (σ : PH) (es : List (Value × Int)) (ps : List (List Lk × Int)) : Prop :=
 es.length = ps.length ∧ ∀ (i : Nat) (e : Value × Int) (p : List Lk × Int), es[i]? = some e → ps[i]? = some p → e.2 = p.2 ∧ IntsAt σ e.1 (ksOf p.1)
theorem ArcsIn.nil (σ : PH) : ArcsIn σ [] [] := ⟨rfl, by intro i e p h; simp at h⟩
theorem ArcsIn.sub {σ τ : PH} {es : List (Value × Int)} {ps : List (List Lk × Int)} (h : ArcsIn σ es ps) (hs : PH.sub σ τ) : ArcsIn τ es ps := ⟨h.1, fun i e p h1 h2 => ⟨(h.2 i e p h1 h2).1, hs.slE (h.2 i e p h1 h2).2⟩⟩
end Go.Proofs.YtknfhiolenobaaaGreat
/- The reference's list of arcs with what is left on each. No program in sight. No conditions. -/
namespace Go.Flow
end Go.Flow
/- Paths of the reference; paths compared. -/
namespace Go.Proofs.YtknfhiolenobaaaGreat
open Go.Eng Go.Flow
set_option maxRecDepth 100000
set_option maxHeartbeats 4000000

end Go.Proofs.YtknfhiolenobaaaGreat
/- A part of a flow's paths is a flow. No program in sight. No conditions. -/
namespace Go.Flow
def addP (m : Int) (part : List Int) (x : Lk) : List Int := part.set x.k (part.getD x.k 0 + m)
def addAll (m : Int) (part : List Int) (p : List Lk) : List Int := p.foldl (addP m) part
def addMany (qs : List (List Lk × Int)) (part : List Int) : List Int := qs.foldl (fun part q => addAll q.2 part q.1) part
def quotaL : List (List Lk × Int) → Int → List (List Lk × Int)
  | [], _ => []
  | p :: ps, v => (p.1, min v p.2) :: quotaL ps (v - min v p.2)
theorem RunP.pos {n s t : Nat} {l : List Arc} (hok : ∀ a ∈ l, okArc n a = true) (hs : s < n) (hst : s ≠ t) {fl r : List Int} {ps : List (List Lk × Int)} (h : RunP n l s t fl ps r) : Flw n l s t fl → ∀ p ∈ ps, 0 < p.2 := by
  induction h with
  | done => intro _ p hp; simp at hp
  | step hD h0 _ ih =>
    intro hf p hp
    have := pNext_ok hok hs hst hf hD h0
    simp only [List.mem_cons] at hp
    rcases hp with rfl | hp
    · exact this.2.1
    · exact ih this.1 p hp
section
variable {n s t : Nat} {l : List Arc}
end
end Go.Flow
/- A range over a function whose iterator keeps numbers of its own. No conditions. -/
namespace Go.Eng
variable {C : Cx} {D : List Deferred} {R H T : List PH} {L : Env} {K : List It}
end Go.Eng
namespace Go.Flow
end Go.Flow
/- The least cut of the network. No program in sight. No conditions. -/
namespace Go.Step
open Go.Flow (MaxOK CutOK maxErr okEnds_iff run_cut RunR capacitySpec sideOf bget mem_sideOf sideOf_chk sideOf_len fval)
variable {qs : List Int} {cs : List Ct} {bs : List Bk} {hs : List Hd} {d : Dm}
def CutN (qs : List Int) (cs : List Ct) (bs : List Bk) (hs : List Hd) (d : Dm) (side : List Int) (c e : Int) : Prop := CutOK (vsN qs d) (arcsG qs cs bs hs d) (vtx d d.s d.r) (vtx d d.d d.e) side c e
end Go.Step
/- What a node gets and sends by the shipments of a flow. No program in sight. No conditions. -/
namespace Go.Step
open Go.Flow (Flw fval okArc okEnds_iff)
variable {qs : List Int} {cs : List Ct} {bs : List Bk} {hs : List Hd} {d : Dm}
theorem shipsE_flow (h : VOk qs cs bs hs d) (hv : validT qs cs bs hs d = true) {fl : List Int} {N S T : Nat} (hN : vsN qs d = N) (hS : vtx d d.s d.r = S) (hT : vtx d d.d d.e = T) (hf : Flw N (arcsG qs cs bs hs d) S T fl) : shipsE qs cs bs hs d fl = 0 := by
  unfold shipsE
  rw [if_pos hv, hN, hS, hT]
  have h1 := h.chk
  have h2 := h.ends
  rw [hN] at h1 h2
  rw [hS, hT] at h2
  unfold Go.Flow.valueSpec
  rw [if_neg (fun h => h h1), if_neg (by rw [h2]; simp), if_neg (fun h => h hf.len.symm), if_neg (by rw [hf.cap]; simp), if_neg]
  have hb : Go.Flow.balanced (N : Int).toNat (arcsG qs cs bs hs d) fl S T = true := by
    unfold Go.Flow.balanced
    rw [List.all_eq_true]
    intro v hv
    rw [decide_eq_true_eq]
    have hv' : v < N := by simpa using hv
    by_cases c1 : v = S
    · exact .inl (by omega)
    · by_cases c2 : v = T
      · exact .inr (.inl (by omega))
      · exact .inr (.inr (hf.bal v hv' c1 c2))
  rw [hb]
  simp
end Go.Step
/- What the planner answers. No program in sight. No conditions. -/
namespace Go.Step
open Go.Flow (MaxOK PathsOK Flw fval addMany quotaL RunP okEnds_iff)
abbrev PathL := List (List Go.Flow.Lk × Int)
def partF (qs : List Int) (cs : List Ct) (bs : List Bk) (hs : List Hd) (d : Dm) (ps : PathL) : List Int := addMany (quotaL ps d.v) (List.replicate (arcsG qs cs bs hs d).length 0)
def PathN (qs : List Int) (cs : List Ct) (bs : List Bk) (hs : List Hd) (d : Dm) (F : List Int) (ps : PathL) (e : Int) : Prop := PathsOK (vsN qs d) (arcsG qs cs bs hs d) F (vtx d d.s d.r) (vtx d d.d d.e) ps e
def PlanOK (qs : List Int) (cs : List Ct) (bs : List Bk) (hs : List Hd) (d : Dm) (acc : Bool) (vol : Int) (ss : List Sh) (c : Cu) : Prop :=
  ∃ F m, MaxN qs cs bs hs d F m 0 ∧ ((m < d.v ∧ acc = false ∧ vol = m ∧ ss = [] ∧ ∃ side k, CutN qs cs bs hs d side k 0 ∧ c = sidesC d qs.length side) ∨
    (d.v ≤ m ∧ acc = true ∧ vol = d.v ∧ c = [] ∧ ∃ ps, PathN qs cs bs hs d F ps 0 ∧ ss = shipsF (arcsE qs cs bs hs d) (partF qs cs bs hs d ps)))
variable {qs : List Int} {cs : List Ct} {bs : List Bk} {hs : List Hd} {d : Dm}
theorem MaxN.uniq {F G : List Int} {m k e f : Int} (h1 : MaxN qs cs bs hs d F m e) (h2 : MaxN qs cs bs hs d G k f) : F = G ∧ m = k ∧ e = f := MaxOK.uniq h1 h2
theorem PlanOK.uniq {acc acc' : Bool} {vol vol' : Int} {ss ss' : List Sh} {c c' : Cu} (h1 : PlanOK qs cs bs hs d acc vol ss c) (h2 : PlanOK qs cs bs hs d acc' vol' ss' c') : acc = acc' ∧ vol = vol' ∧ ss = ss' ∧ c = c' := by
  obtain ⟨F, m, hm, h1⟩ := h1
  obtain ⟨G, k, hk, h2⟩ := h2
  obtain ⟨rfl, rfl, _⟩ := hm.uniq hk
  rcases h1 with ⟨a1, a2, a3, a4, s1, k1, a5, a6⟩ | ⟨a1, a2, a3, a4, p1, a5, a6⟩ <;> rcases h2 with ⟨b1, b2, b3, b4, s2, k2, b5, b6⟩ | ⟨b1, b2, b3, b4, p2, b5, b6⟩
  · have := (Go.Flow.CutOK.uniq a5 b5).1
    exact ⟨by rw [a2, b2], by rw [a3, b3], by rw [a4, b4], by rw [a6, b6, this]⟩
  · omega
  · omega
  · have := (Go.Flow.PathsOK.uniq a5 b5).1
    exact ⟨by rw [a2, b2], by rw [a3, b3], by rw [a6, b6, this], by rw [a4, b4]⟩
end Go.Step
/- The paths that are needed. -/
namespace Go.Proofs.YtknfhiolenobaaaGreat
open Go.Eng Go.Step Go.Flow
set_option maxRecDepth 100000
set_option maxHeartbeats 4000000

end Go.Proofs.YtknfhiolenobaaaGreat
/- The document's plan; answers compared. -/
namespace Go.Proofs.YtknfhiolenobaaaGreat
open Go.Eng Go.Step Go.Flow
set_option maxRecDepth 100000
set_option maxHeartbeats 4000000

end Go.Proofs.YtknfhiolenobaaaGreat
/- Capacity of the document. -/
namespace Go.Proofs.YtknfhiolenobaaaGreat
open Go.Eng Go.Step
set_option maxRecDepth 100000
set_option maxHeartbeats 4000000

theorem CutRow.open {ρ κ : PH} {p : Option Addr} {c : Cu} (h : CutRow ρ κ p c) (hp : 0 < c.length) : ∃ b o, p = some ⟨b, o, none⟩ ∧ ∀ (i : Nat) (l : List (Int × Int)), c[i]? = some l → ∃ q k, rdc ρ b (o + i) = some (.slice q l.length k) ∧ SpAt κ (.slice q l.length k) l ∧ RowsE encS 2 κ q l ∧ l.length ≤ 9223372036854775807 := by
 obtain ⟨b, o, _, _, e, _⟩ := h 0 _ (List.getElem?_eq_getElem hp)
 refine ⟨b, o, e, fun i l hl => ?_⟩
 obtain ⟨b2, o2, q, k, e2, h1, h2, h3⟩ := h i l hl
 rw [e] at e2
 simp only [Option.some.injEq, Addr.mk.injEq, and_true] at e2
 obtain ⟨rfl, rfl⟩ := e2
 obtain ⟨q2, k2, e3, hr⟩ := h2.val encS_len
 simp only [Value.slice.injEq] at e3
 obtain ⟨rfl, _, rfl⟩ := e3
 exact ⟨_, _, h1, h2, hr, h3⟩
end Go.Proofs.YtknfhiolenobaaaGreat
