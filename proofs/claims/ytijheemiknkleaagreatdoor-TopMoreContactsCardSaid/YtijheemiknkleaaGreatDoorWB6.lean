/- Texts of this proof, one after the other; no conditions. -/
import Derived.Shelf.SlSortCmp.NoneTotal
import Derived.Test.YtijheemiknkleaaGreatDoorWB5
import Derived.Test.YtijheemiknkleaaGreatDoorWB2
import Derived.Test.YtijheemiknkleaaGreatDoorWB1
import Derived.Test.YtijheemiknkleaaGreatDoorWB0
import Derived.Test.YtijheemiknkleaaGreatDoorWB3
import Derived.Test.YtijheemiknkleaaGreatDoorWB4
set_option linter.all false
/- How long a bundle takes; requests. -/
namespace Go.Proofs.YtijheemiknkleaaGreatDoor
open Go.Eng Go.Step
set_option maxRecDepth 100000
set_option maxHeartbeats 4000000

theorem okCt_of {c : Ct} (hc : chkCt c = 0) : okCt c := by
 unfold chkCt at hc
 split at hc
 ·omega
 ·rename_i h; exact Decidable.not_not.1 h
theorem ticks_spec (c : Ct) (n : Int) (hr : 1 ≤ c.r ∧ c.r ≤ 1000) (hn : 1 ≤ n ∧ n ≤ 16) : Ans Tryz.prog (fv 137) [.agg #[int c.f, int c.t, int c.s, int c.e, int c.r, int c.g, int c.l], int n] [] (fun r => r = int (tickC c n)) := by
 refine spec_in (cap := []) Tryz.func137 rfl rfl Tryz.ntmps137 rfl envZ (fun N β => ?_)
 unfold tickC
 refine AB ?_
 refine AA ?_
 refine BQ ?_; rintro _ _ ⟨b, rfl, rfl⟩
 refine AD ?_
 refine AE ?_
 refine AB ?_
 refine AA ?_
 refine AC ?_
 refine CS ?_
 refine AG ?_
 refine AF ?_
 refine CS ?_
 refine D4 ?_
 refine AG ?_
 refine AF ?_
 refine zq_quo ?_
 refine AD ?_
 refine AE ?_
 exact AI (res1 rfl rfl) rsubZ selZ ⟨rfl, rfl⟩
theorem segs_spec (s : Int) : Eng.Spec Tryz.prog (fv 169) [int s] [] [] (fun r H' => ∃ c1, r = .func (.func 195) #[] #[.pointer (some ⟨c1, 0, none⟩)] ∧ H' = [sng c1 (.cells #[int s] 3 (0, 0))]) := by
 refine spec_in (cap := []) Tryz.func169 rfl rfl Tryz.ntmps169 rfl envZ (fun N β => ?_)
 refine AB ?_
 refine AA ?_
 refine BF (C7 rfl rfl) rfl rfl rfl ?_
 rintro _ _ ⟨c1, rfl, rfl⟩
 refine AD ?_
 refine AE ?_
 refine AB ?_
 refine AA ?_
 refine BX ?_
 refine AD ?_
 refine AE ?_
 exact AI (res1 rfl rfl) rsubZ selZ ⟨c1, rfl, rfl⟩
theorem segs_iter (c1 : Nat) (s : Int) (hs : 1 ≤ s ∧ s ≤ 65536) :
  Iter Tryz.prog (.func (.func 195) #[] #[.pointer (some ⟨c1, 0, none⟩)]) [sng c1 (.cells #[int s] 3 (0, 0))] ((segsL s).map (fun n => [int n])) := by
 intro y S Own Inv Stop Ry hy hyl σ0 hI0
 obtain ⟨yl, rfl⟩ := hyl
 obtain ⟨h1, h2, h3, h4, h5⟩ := segsL_ok s (by omega)
 generalize segsL s = Q at hy hI0 h1 h2 h3 h4 h5 ⊢
 have v1 : rdc (sng c1 (.cells #[int s] 3 (0, 0))) c1 0 = some (int s) := by rw [rdc_sng]; rfl
 simp only [List.cons_append, List.nil_append]
 refine spec_in (cap := [.pointer (some ⟨c1, 0, none⟩)]) Tryz.func195 rfl rfl Tryz.ntmps195 rfl envZ (fun N β => ?_)
 refine AB ?_
 refine AA ?_
 refine AF ?_
 refine AD ?_
 refine AE ?_
 refine AV ?_
 refine BM [0, 1] (X := Nat × Int × S) (0, s, σ0) (fun z => z.1 ≤ Q.length ∧ z.2.1 = s - 16 * z.1 ∧ Inv z.1 z.2.2) (fun z => [(3, int z.2.1)]) (fun z => Own z.2.2) (fun z => Q.length - z.1) pickZ ⟨by dsimp only; omega, by dsimp only; omega, hI0⟩ covZ Sel.refl ?_
 rintro ⟨k, lf, σ1⟩ ⟨hk, hlf, hI⟩
 dsimp only at hk hlf hI ⊢
 by_cases hlt : k < Q.length
 rotate_left
 ·have hke : k = Q.length := by omega
  subst hke
  refine AB ?_
  refine AB ?_
  refine AA ?_
  refine AC ?_
  refine BO ?_
  refine AE ?_
  refine AM rfl ?_
  refine BE rfl ?_
  refine BV (res0 rfl) (fun _ h => h) Sel.refl ⟨σ1, rfl, .inl ?_⟩
  rw [List.length_map]
  exact hI
 have hx := List.getElem?_eq_getElem hlt
 have hb := h1 _ (List.mem_of_getElem? hx)
 obtain ⟨e1, e2⟩ := h2 k _ hx
 have hya := hy k σ1 [int Q[k]] (by rw [List.getElem?_map, hx]; rfl) hI
 rw [← hlf] at e1 e2
 generalize Q[k] = x at hx hb e1 hya
 refine AB ?_
 refine AB ?_
 refine AA ?_
 refine AC ?_
 refine CH ?_
 refine AE ?_
 refine AQ rfl ?_
 refine AL ?_
 refine AB ?_
 refine AV ?_
 refine AB ?_
 refine AA ?_
 refine AC ?_
 refine AC ?_
 refine E8 ?_
 focus ((rw [← e1]))
 refine BT hya rfl rfl Takes.all (fun τ hτ => .inl (by simp [hτ])) rfl rfl ?_
 rintro _ H' ⟨σ2, rfl, ⟨rfl, hI2⟩ | ⟨rfl, hSt⟩⟩
 ·rw [List.append_nil]
  refine BZ ?_
  refine AE ?_
  refine AM rfl ?_
  refine AL ?_
  refine A8 ?_
  refine AA ?_
  refine AC ?_
  refine D4 ?_
  refine AD ?_
  refine AE ?_
  exact A5 (k + 1, lf - 16, σ2) ⟨by dsimp only; omega, by dsimp only; omega, hI2⟩ (by dsimp only; omega) covZ Sel.refl
 ·rw [List.append_nil]
  refine BZ ?_
  refine AE ?_
  refine AQ rfl ?_
  exact AI (res0 rfl) (fun _ h => h) Sel.refl ⟨σ2, rfl, .inr hSt⟩
theorem pass_spec (c : Ct) (s : Int) (hr : 1 ≤ c.r ∧ c.r ≤ 1000) (hs : 1 ≤ s ∧ s ≤ 65536) : Ans Tryz.prog (fv 136) [.agg #[int c.f, int c.t, int c.s, int c.e, int c.r, int c.g, int c.l], int s] [] (fun r => r = int (passC c s)) := by
 refine spec_in (cap := []) Tryz.func136 rfl rfl Tryz.ntmps136 rfl envZ (fun N β => ?_)
 obtain ⟨h1, h2, h3, h4, h5⟩ := segsL_ok s (by omega)
 have htk := fun n hn => ticks_spec c n hr hn
 refine AB ?_
 refine AA ?_
 refine BF (BC rfl) rfl rfl rfl ?_
 rintro _ _ ⟨b2, rfl, rfl⟩
 refine AU (ρ := sng b2 _) takeZ ?_
 have cb : RdN (sng b2 (.cells #[int c.f, int c.t, int c.s, int c.e, int c.r, int c.g, int c.l] 33 (0, 0))) b2 0 [int c.f, int c.t, int c.s, int c.e, int c.r, int c.g, int c.l] := rdN_sng (vs := [int c.f, int c.t, int c.s, int c.e, int c.r, int c.g, int c.l])
 refine AD ?_
 refine AE ?_
 refine AB ?_
 refine AA ?_
 refine BS ?_; rintro _ _ ⟨b, rfl, rfl⟩
 refine BH ?_; rintro _ _ ⟨rfl, rfl⟩
 refine AE ?_
 refine AB ?_
 refine AB ?_
 refine AA ?_
 refine AC ?_
 revert b; intro b5
 refine BT (segs_spec s) rfl rfl takesZ rdZ rfl rfl ?_
 rintro _ _ ⟨c1, rfl, rfl⟩
 simp only [List.cons_append, List.nil_append]
 refine AU (ρ := sng c1 _) takeZ ?_
 refine AE ?_
 refine AV ?_
 refine CW (gf := 195) (cap := [.pointer (some ⟨c1, 0, none⟩)]) (ps := [9]) (X := Int) rfl Tryz.func195 rfl rfl
  (segs_iter c1 s hs) ?_ (fun j o => o = ((segsL s).take j).foldl (fun a n => a + tickC c n) 0) (fun o => [sng b5 (.cells #[int o] 3 (0, 0))]) (fun _ _ => False) (0 : Int) rfl takesZ rfl ?_ ?_ ?_
 ·intro σ hσ
  simp only [List.mem_cons, List.not_mem_nil, or_false] at hσ ⊢
  simp [hσ]
 ·rintro lo r j o vs hvs hI hps has hbd hst hpe hfr
  obtain ⟨st, pe, fnn, tm, prm, asg, bdy, df⟩ := r
  simp only at hps has hbd hst hpe hfr
  subst hps has hbd hst hpe
  rw [List.getElem?_map] at hvs
  obtain ⟨n, hn, rfl⟩ := Option.map_eq_some_iff.1 hvs
  have hft := fold_take (fun a n => a + tickC c n) hn 0
  have hnb := h1 n (List.mem_of_getElem? hn)
  have hbd := fold_bd c hr.1 ((segsL s).take j) 0 (fun x hx => h1 x (List.mem_of_mem_take hx))
  rw [← hI] at hft hbd
  rw [List.length_take] at hbd
  have htn := tickC_bd hr.1 hnb
  refine yield_spec hfr rfl (by intro p hp; simp at hp; omega) putiZ (fun N' β' => ?_)
  refine AA ?_
  refine AD ?_
  refine AE ?_
  refine CN rfl rfl ?_
  refine CV takeZ rfl ?_
  refine AV ?_
  refine BA (.q 0 (.q 1 (.q 2 (.l 3 .e (.q 4 (.l 5 .b .nil)))))) [] rfl (by kernel_rfl) selZ ?_
  refine AP ?_
  refine BL ?_
  refine AS ?_
  refine CJ (BY rfl (htk n hnb) rfl rfl rdZ rfl rfl ?_)
  rintro _ rfl
  refine DQ ?_
  refine CK ?_; rintro _ _ ⟨rfl, rfl⟩
  refine A7 ?_
  refine A8 ?_
  exact B3 takeZ rsubZ selZ ⟨_, .inl ⟨rfl, hft.symm, rfl⟩⟩
 ·rintro bm o hI
  rw [List.length_map, List.take_length] at hI
  subst hI
  refine A8 ?_
  refine AB ?_
  refine AA ?_
  refine AF ?_
  refine AD ?_
  refine AE ?_
  exact EH (Marks.cons .here .nil) (res1 rfl rfl) rsubZ selZ ⟨rfl, rfl⟩
 ·rintro bm cc o' hf
  exact hf.elim
theorem dur0_spec (c : Ct) (s : Int) (hc : chkCt c = 0) (hs : 1 ≤ s ∧ s ≤ 65536) : Ans Tryz.prog (fv 99) [.agg #[int c.f, int c.t, int c.s, int c.e, int c.r, int c.g, int c.l], int s] [] (fun r => r = int (durC c s)) := by
 have hbd := durC_bd hc hs
 obtain ⟨hfr, htr, hr, hg, hl⟩ := okCt_of hc
 have hps := pass_spec c s hr hs
 have htk := ticks_spec c 16 hr (by omega)
 have hm : 0 ≤ c.l * (2 * c.g + 1 + tickC c 16) ∧ c.l * (2 * c.g + 1 + tickC c 16) ≤ 40000000 := by
  have := tickC_bd (c := c) (n := 16) hr.1 (by omega)
  exact ⟨Int.mul_nonneg hl.1 (by omega), by unfold durC at hbd; omega⟩
 have ht := tickC_bd (c := c) (n := 16) hr.1 (by omega)
 unfold durC at hbd ⊢
 refine spec_in (cap := []) Tryz.func99 rfl rfl Tryz.ntmps99 rfl envZ (fun N β => ?_)
 refine AB ?_
 refine AA ?_
 refine BF (BC rfl) rfl rfl rfl ?_
 rintro _ _ ⟨b2, rfl, rfl⟩
 refine AU (ρ := sng b2 _) takeZ ?_
 have cb : RdN (sng b2 (.cells #[int c.f, int c.t, int c.s, int c.e, int c.r, int c.g, int c.l] 33 (0, 0))) b2 0 [int c.f, int c.t, int c.s, int c.e, int c.r, int c.g, int c.l] := rdN_sng (vs := [int c.f, int c.t, int c.s, int c.e, int c.r, int c.g, int c.l])
 have f5 : rdc (sng b2 (.cells #[int c.f, int c.t, int c.s, int c.e, int c.r, int c.g, int c.l] 33 (0, 0))) b2 5 = some (int c.g) := by rw [rdc_sng]; rfl
 have f6 : rdc (sng b2 (.cells #[int c.f, int c.t, int c.s, int c.e, int c.r, int c.g, int c.l] 33 (0, 0))) b2 6 = some (int c.l) := by rw [rdc_sng]; rfl
 refine AD ?_
 refine AE ?_
 refine AB ?_
 refine BA (.q 0 (.q 1 (.q 3 (.q 4 (.q 5 (.q 6 (.q 7 (.q 8 (.q 9 (.l 2 .e (.l 10 .e (.q 11 (.q 12 (.q 13 (.q 14 .nil))))))))))))))) [] rfl (by kernel_rfl) selZ ?_
 refine BL ?_
 refine AS ?_
 refine AW ?_
 refine AP ?_
 refine AW ?_
 refine AP ?_
 refine EO ?_
 refine DQ ?_
 refine BL ?_
 refine CJ (BY rfl hps rfl rfl rdZ rfl rfl ?_)
 rintro _ rfl
 skip
 refine CJ (BY rfl htk rfl rfl rdZ rfl rfl ?_)
 rintro _ rfl
 refine DQ ?_
 refine EO ?_
 refine DQ ?_
 refine B7 ?_
 refine A7 ?_
 skip
 exact AI (res1 rfl rfl) rsubZ selZ ⟨rfl, rfl⟩
theorem chk98_spec (c : Ct) (s : Int) (hc : chkCt c = 0) (hs : 1 ≤ s ∧ s ≤ 65536) : Ans Tryz.prog (fv 98) [.agg #[int c.f, int c.t, int c.s, int c.e, int c.r, int c.g, int c.l], int s] [] (fun r => r = int 0) := by
 have hck := ctCheck_spec c
 rw [hc] at hck
 refine spec_in (cap := []) Tryz.func98 rfl rfl Tryz.ntmps98 rfl envZ (fun N β => ?_)
 refine AB ?_
 refine AA ?_
 refine BF (BC rfl) rfl rfl rfl ?_
 rintro _ _ ⟨b2, rfl, rfl⟩
 refine AU (ρ := sng b2 _) takeZ ?_
 have cb : RdN (sng b2 (.cells #[int c.f, int c.t, int c.s, int c.e, int c.r, int c.g, int c.l] 33 (0, 0))) b2 0 [int c.f, int c.t, int c.s, int c.e, int c.r, int c.g, int c.l] := rdN_sng (vs := [int c.f, int c.t, int c.s, int c.e, int c.r, int c.g, int c.l])
 refine AD ?_
 refine AE ?_
 refine AB ?_
 refine AB ?_
 refine AA ?_
 refine AN ?_
 refine A3 hck rfl rfl rdZ rfl rfl ?_
 rintro _ rfl
 refine BG ?_
 refine AE ?_
 refine AM rfl ?_
 refine AL ?_
 refine AB ?_
 refine AB ?_
 refine AA ?_
 refine AC ?_
 refine A3 (within_spec s 1 65536) rfl rfl rdZ rfl rfl ?_
 rintro _ (⟨rfl, h⟩ | ⟨rfl, h⟩)
 ·refine BZ ?_
  refine AE ?_
  refine AM rfl ?_
  refine AL ?_
  refine AB ?_
  refine AA ?_
  refine AD ?_
  refine AE ?_
  exact AI (res1 rfl rfl) rsubZ selZ ⟨rfl, rfl⟩
 ·omega
theorem dur_spec (c : Ct) (s : Int) (hc : chkCt c = 0) (hs : 1 ≤ s ∧ s ≤ 65536) : Ans Tryz.prog (fv 50) [.agg #[int c.f, int c.t, int c.s, int c.e, int c.r, int c.g, int c.l], int s] [] (fun r => r = .tuple #[int (durC c s), int 0]) := by
 have hck := chk98_spec c s hc hs
 have hdu := dur0_spec c s hc hs
 refine spec_in (cap := []) Tryz.func50 rfl rfl Tryz.ntmps50 rfl envZ (fun N β => ?_)
 refine AB ?_
 refine AA ?_
 refine BF (BC rfl) rfl rfl rfl ?_
 rintro _ _ ⟨b2, rfl, rfl⟩
 refine AU (ρ := sng b2 _) takeZ ?_
 have cb : RdN (sng b2 (.cells #[int c.f, int c.t, int c.s, int c.e, int c.r, int c.g, int c.l] 33 (0, 0))) b2 0 [int c.f, int c.t, int c.s, int c.e, int c.r, int c.g, int c.l] := rdN_sng (vs := [int c.f, int c.t, int c.s, int c.e, int c.r, int c.g, int c.l])
 refine AD ?_
 refine AD ?_
 refine AE ?_
 refine AB ?_
 refine AB ?_
 refine AA ?_
 refine AN ?_
 refine AC ?_
 refine A3 hck rfl rfl rdZ rfl rfl ?_
 rintro _ rfl
 refine AD ?_
 refine AE ?_
 refine AB ?_
 refine AA ?_
 refine AC ?_
 refine BG ?_
 refine AE ?_
 refine AM rfl ?_
 refine AL ?_
 refine AB ?_
 refine AA ?_
 refine AN ?_
 refine AC ?_
 refine A3 hdu rfl rfl rdZ rfl rfl ?_
 rintro _ rfl
 refine AD ?_
 refine AD ?_
 refine AE ?_
 exact AI (res2 rfl rfl rfl) rsubZ selZ ⟨rfl, rfl⟩
end Go.Proofs.YtijheemiknkleaaGreatDoor
/- In a region that draws: an act behind which nothing is open but moves of values. No conditions. -/
namespace Go.Eng
variable {C : Cx} {D : List Deferred} {R Hf H : List PH} {L : Env} {K : List It} {ps ls : List Nat}
def isMv (all : Array Oper) (j : Nat) : Bool := match all[j]? with
  | some ⟨_, .move _, _, _, _, _⟩ => true
  | _ => false
theorem isMv_op {all : Array Oper} {j : Nat} {o : Oper} (h : isMv all j = true) (ho : all[j]? = some o) : ∃ x, o.op = .move x := by
  unfold isMv at h
  rw [ho] at h
  obtain ⟨d, op, a, b, c, e⟩ := o
  cases op <;> first | exact ⟨_, rfl⟩ | (exfalso; simp at h)
theorem Prom.mv {all : Array Oper} {o : Oper} {v : Value} {H' : List PH} (h : Prom C R H L all o v) {x : Operand} (hx : o.op = .move x) {w0 : World} (hs : Sat C.N R H w0) : Prom C R H' L all o v := by
  rcases h with ⟨h1, h2⟩ | h
  · refine .inl ⟨h1, h2.nd, fun a w hon _ => ?_⟩
    have := h2.run a w0 hon hs
    simp only [execOp, hx] at this ⊢
    simpa using this
  · exact .inr h
theorem EP {all : Array Oper} {done : List Nat} {i : Nat} {rest : Pl} {o : Oper} {post : Value → List PH → Prop} {L' : Value → Env} {Hf' : List PH} (ho : all[i]? = some o) (hl : Loud C R H L o post) (hg : wantE all L o = some true)
    (hL : (∃ d, o.dst = some d ∧ Nat.blt d C.M = true ∧ L' = fun v => (d, v) :: L) ∨ (o.dst = none ∧ L' = fun _ => L))
    (hfull : ((done.all fun j => isMv all j || (closeP all (all.size * all.size) (predsOf all i ++ ls) []).contains j) && ls.all (fun j => Nat.blt j all.size)) = true)
    (hsub : ∀ v H', post v H' → ∀ w, Sat C.N R H' w → Sat C.N R Hf' w)
    (h : ∀ v H', post v H' → DJ C D R Hf' H' (L' v) all (i :: done) ps (i :: ls) rest K) : ActOK C D R Hf H L all done ps ls i .b rest K := by
  intro hlo hpl hrd fuel listed a w hinv hm
  simp only [loudOK] at hlo
  obtain ⟨k1, k2, k3⟩ := mem_readyL.1 hrd
  have hms : i < listed.size := by rw [hinv.size]; exact k1
  have hrdy := (mem_ready.1 hm).2.2
  have bnd : ∀ j, listed.getD j false = true → j < all.size ∧ isL listed j := fun j hlj => by
    have hjs : j < all.size := by
      rw [← hinv.size]
      cases hb : listed[j]? with
      | none => simp [Array.getD_eq_getD_getElem?, hb] at hlj
      | some b => exact (Array.getElem?_eq_some_iff.1 hb).1
    exact ⟨hjs, (getD_isL hinv.size hjs).1 hlj⟩
  have hall : ∀ j ∈ done, isL listed j ∨ isMv all j = true := fun j hj => by
    rw [Bool.and_eq_true, List.all_eq_true, List.all_eq_true] at hfull
    have h3 := hfull.1 j hj
    rw [Bool.or_eq_true] at h3
    rcases h3 with h3 | h3
    · exact .inr h3
    refine .inl (close_sub (all := all) (E := fun j => j < all.size ∧ isL listed j) (fun i hi => hinv.dc i hi.1 hi.2) _ (predsOf all i ++ ls) [] (fun j hj => ?_) (by simp) j (by simpa using h3)).2
    rcases List.mem_append.1 hj with hj | hj
    · exact bnd j (hrdy j hj)
    · exact ⟨Nat.le_of_ble_eq_true (hfull.2 j hj), hinv.lds j hj⟩
  have hpend : ∀ j ∈ done, ¬ isL listed j → ps.contains j = true ∧ freshOK all [j] i = true ∧ dataOK all [j] i = true := fun j hj hnj => by
    rw [List.all_eq_true] at hlo
    have h3 := hlo j hj
    simp only [Bool.or_eq_true, Bool.and_eq_true] at h3
    rcases h3 with (h3 | h3) | ⟨⟨h3, h4⟩, h5⟩
    rotate_left
    · exact absurd (hinv.lds j (by simpa using h3)) hnj
    rotate_left
    · exact absurd (close_sub (all := all) (E := fun j => j < all.size ∧ isL listed j) (fun i hi => hinv.dc i hi.1 hi.2) _ (predsOf all i) [] (fun j hj => bnd j (hrdy j hj)) (by simp) j (by simpa using h3)).2 hnj
    · exact ⟨h3, h4, h5⟩
  have hdata : ∀ j ∈ done, ¬ isL listed j → ∀ d ∈ dstOf all j, d ∉ rdsOf all i := fun j hj hnj d hd hr => by
    have := data_of (hpend j hj hnj).2.2 j (by simp) d hd hr
    exact hnj (bnd j (hrdy j this)).2
  have hon : ∀ t ∈ readsOf all o, ∀ v, look L t = some v → a.tmps.getD t undef = v := fun t ht v hv => by
    rcases hinv.get t v hv with hg' | ⟨j, hj, hnj, hjt⟩
    · exact hg'
    · exact absurd (by unfold rdsOf; rw [ho]; exact ht) (hdata j hj hnj t hjt)
  obtain ⟨l1, l2, l3⟩ := hinv.listed hm
  unfold wpOpIn
  rw [ho]
  simp only
  rw [if_pos (want_of hg hon)]
  refine hl.run a w (onE_of hon) hinv.sat _ _ (fun v H' w' hp hs' => (h v H' hp).run hpl _ _ _ _ ?_)
  have back : ∀ j ∈ done, ¬ isL (listed.setIfInBounds i true) j → ¬ isL listed j := fun j _ hn hl => hn ((isL_set hms).2 (.inr hl))
  have cs : ∀ j, j ∈ i :: done → ¬ isL (listed.setIfInBounds i true) j → j ∈ done := fun j hj hn => by
    simp at hj
    rcases hj with rfl | hj
    · exact absurd ((isL_set hms).2 (.inl rfl)) hn
    · exact hj
  have hlds : ∀ j ∈ i :: ls, isL (listed.setIfInBounds i true) j := fun j hj => by
    simp at hj
    rcases hj with rfl | hj
    · exact (isL_set hms).2 (.inl rfl)
    · exact (isL_set hms).2 (.inr (hinv.lds j hj))
  have hfr : ∀ j ∈ done, ¬ isL listed j → ∀ d ∈ dstOf all i, d ∉ rdsOf all j ∧ d ∉ dstOf all j := fun j hj hnj d hd => (fresh_of (hpend j hj hnj).2.1 hd).2 j (by simp)
  refine ⟨l1, l2, fun j hj hlj => ?_, l3, ?_, ?_, hs', fun t u hu => ?_, fun j hj hnl => ?_, fun w hw => hsub v H' hp w hw, hlds, fun j hj hnl k hk d' hd' hr => ?_, fun j hj hnl k hk hkj d' hd' => ?_, ⟨k1, k3, hinv.chron⟩⟩
  · rcases (isL_set hms).1 hlj with rfl | hlj
    · simp
    · simp [hinv.sub j hj hlj]
  · have := hinv.tm
    cases hd : o.dst <;> simpa [Act.put] using this
  · have := hinv.df
    cases hd : o.dst <;> simpa [Act.put] using this
  · rcases hL with ⟨d, hd, hM, rfl⟩ | ⟨hd, rfl⟩
    · rw [hd]
      simp only at hu
      rw [look_cons] at hu
      by_cases e : d = t
      · subst e
        simp only [if_true, Option.some.injEq] at hu; subst hu
        left
        simp [Act.put, hinv.tm, show d < C.M from Nat.le_of_ble_eq_true hM]
      · rw [if_neg e] at hu
        rcases hinv.get t u hu with hg' | ⟨j, hj, hnj, hjt⟩
        · left; simpa [Act.put, Array.getD_eq_getD_getElem?, e] using hg'
        · right
          refine ⟨j, by simp [hj], fun hlj => ?_, hjt⟩
          rcases (isL_set hms).1 hlj with rfl | hlj
          · exact k2 hj
          · exact hnj hlj
    · rw [hd]
      simp only [Act.put] at hu ⊢
      rcases hinv.get t u hu with hg' | ⟨j, hj, hnj, hjt⟩
      · exact .inl hg'
      · right
        refine ⟨j, by simp [hj], fun hlj => ?_, hjt⟩
        rcases (isL_set hms).1 hlj with rfl | hlj
        · exact k2 hj
        · exact hnj hlj
  · have hj' := cs j hj hnl
    have hnj := back j hj' hnl
    have hmv := (hall j hj').resolve_left hnj
    obtain ⟨o', d', v', e1, e2, e3, e4, e5⟩ := hinv.prom j hj' hnj
    obtain ⟨x, hx⟩ := isMv_op hmv e1
    rw [(hpend j hj' hnj).1, if_pos rfl] at e5 ⊢
    have e6 : Prom C R Hf' L all o' v' := e5.mv hx (hinv.hf w hinv.sat)
    rcases hL with ⟨d, hd, hM, rfl⟩ | ⟨hd, rfl⟩
    · have hdi : d ∈ dstOf all i := by unfold dstOf; rw [ho]; simp [hd]
      obtain ⟨f1, f2⟩ := hfr j hj' hnj d hdi
      have hne : d ≠ d' := fun e => f2 (by unfold dstOf; rw [e1]; simp [e2, e])
      refine ⟨o', d', v', e1, e2, e3, by rw [look_cons, if_neg hne]; exact e4, e6.cons ?_⟩
      unfold rdsOf at f1; rw [e1] at f1; exact f1
    · exact ⟨o', d', v', e1, e2, e3, e4, e6⟩
  · have hj' := cs j hj hnl
    by_cases ek : k = i
    · subst ek
      exact absurd hr (hfr j hj' (back j hj' hnl) d' hd').1
    · exact hinv.data j hj' (back j hj' hnl) k (by simp at hk; exact hk.resolve_left ek) d' hd' hr
  · have hj' := cs j hj hnl
    by_cases ek : k = i
    · subst ek
      intro hdk
      exact (hfr j hj' (back j hj' hnl) d' hdk).2 hd'
    · exact hinv.uniq j hj' (back j hj' hnl) k (by simp at hk; exact hk.resolve_left ek) hkj d' hd'
end Go.Eng
/- Arrays of small values: their elements' places, two of them built. No conditions. -/
namespace Go.Eng
variable {C : Cx} {R H : List PH} {L : Env} {dst : Option Tmp} {ty : TypeId} {pos : String} {aft : Array Edge} {g : Option (Nat × Bool)}
end Go.Eng
/- Building structs whose fields are structs. No conditions. -/
namespace Go.Eng
variable {C : Cx} {R H : List PH} {L : Env}
def placesP (P : Program) : List Field → Option (List (Nat × Nat))
  | [] => some []
  | f :: fs => match szP P f.type, placesP P fs with
    | some n, some r => some ((f.offset, n) :: r)
    | _, _ => none
def evalPs (L : Env) : List (Nat × Operand) → Option (List (Nat × Value))
  | [] => some []
  | (i, x) :: ps => match evalE L x, evalPs L ps with
    | some v, some r => some ((i, v) :: r)
    | _, _ => none
def fillL (pl : List (Nat × Nat)) : List Value → List (Nat × Value) → Option (List Value)
  | zs, [] => some zs
  | zs, (i, v) :: r => match pl[i]? with
    | none => none
    | some (off, size) => if v.cells.size = size ∧ off + size ≤ zs.length then fillL pl (zs.take off ++ (v.cells.toList ++ zs.drop (off + size))) r else none
theorem fillL_eq {pl : List (Nat × Nat)} : ∀ {pvs : List (Nat × Value)} {zs out : List Value}, fillL pl zs pvs = some out → Instr.fill (fun i => pl[i]?) zs.toArray pvs = some out.toArray
  | [], zs, out, h => by simp [fillL] at h; subst h; rfl
  | (i, v) :: r, zs, out, h => by
    unfold fillL at h
    unfold Instr.fill

    split at h
    · simp at h
    · rename_i off size e
      rw [e]
      split at h
      · rename_i hc
        have ih := fillL_eq h
        have hs := splice_fold v.cells.toList 0 off zs.toArray (by simp; omega)
        simp only
        rw [if_neg (by simp; omega)]
        rw [← ih]
        congr 1
        apply Array.ext'
        simpa [← Array.toList_zipIdx, ← hc.1] using hs
      · simp at h
theorem evalPs_eq {a : Act} : ∀ {ps : List (Nat × Operand)} {pvs : List (Nat × Value)}, evalPs L ps = some pvs → (∀ x ∈ ps.map (·.2), OnE L a x) → ps.map (fun (x : Nat × Operand) => (x.1, a.eval x.2)) = pvs
  | [], pvs, h, _ => by simp [evalPs] at h; subst h; rfl
  | (i, x) :: ps, pvs, h, hx => by
    unfold evalPs at h
    split at h
    · rename_i v r e1 e2
      simp at h; subst h
      rw [List.map_cons, evalPs_eq e2 (fun y hy => hx y (by simp at hy ⊢; exact .inr hy)), hx x (by simp) v e1]
    · simp at h
theorem placesP_run {P : Program} : ∀ (fs : List Field) (pl : List (Nat × Nat)) (w : World), placesP P fs = some pl → (fs.mapM (fun f => Prod.mk f.offset <$> sizeOf f.type : Field → Sem (Nat × Nat))).run P w = .ok pl w
  | [], pl, w, h => by simp [placesP] at h; subst h; simp
  | f :: fs, pl, w, h => by
    unfold placesP at h
    split at h
    · rename_i n r e1 e2
      simp at h; subst h
      simp [List.mapM_cons, run_sizeOf e1, placesP_run fs r w e2]
    · simp at h
theorem C6 {dst : Option Tmp} {ty : TypeId} {pos : String} {aft : Array Edge} {g : Option (Nat × Bool)} {t : TypeId} {ps : List (Nat × Operand)} {fs : List Field} {pl : List (Nat × Nat)} {pvs : List (Nat × Value)} {zs out : List Value}
    (hu : C.P.underlying t = some (.struct fs.toArray)) (hz : zeroP C.P t = some (.agg zs.toArray)) (hpl : placesP C.P fs = some pl) (hv : evalPs L ps = some pvs) (ho : fillL pl zs pvs = some out) :
    Quiet C R H L ⟨dst, .build t ps.toArray, ty, pos, aft, g⟩ (.agg out.toArray) :=
  ⟨by intro c; simp, fun a w hxx _ => by
    have h1 := evalPs_eq (a := a) hv (fun x hx => hxx x (by simp [Op.operands] at hx ⊢; exact hx))
    have h2 := placesP_run fs pl w hpl
    have h3 := fillL_eq ho
    simp only [execOp, Instr.build]

    simp [run_zeroValue hz, Value.cells, run_underlying hu, h1, h2, h3]⟩
end Go.Eng
/- Answers checked; results that are structs in memory; sums that wrap. No program in sight. No conditions. -/
namespace Go.Step
end Go.Step
namespace Go.Eng
open Go.IntWalk
variable {R H : List PH} {L : Env}
end Go.Eng
/- Results that lie in memory: one struct, or a struct and an error. -/
namespace Go.Eng
variable {L : Env} {R H : List PH}
theorem resS1 {fn : Func} {N : Bs} {M : Nat} {P : Program} {t b1 : Nat} {T : TypeId} {v1 : List Value} (hr : fn.results = #[.cell t T]) (ht : look L t = some (.pointer (some ⟨b1, 0, none⟩))) (a1 : aggP P T = some true)
    (n1 : szP P T = some v1.length) (c1 : Cells N R H b1 0 v1) : ∀ a w, Frm M L a → Sat N R H w → (results fn a.tmps).run P w = .ok (.agg v1.toArray) w := by
  intro a w hf hs
  have e1 : a.tmps[t]?.getD undef = .pointer (some ⟨b1, 0, none⟩) := by simpa using hf.get t _ ht
  have l1 := run_loadCells_list (P := P) (w := w) ⟨b1, 0, none⟩ v1 (fun j v hv => by rw [Addr.add_lit]; exact c1 w hs j v hv)
  simp [results, hr, e1, loadVar, run_isAgg a1, run_sizeOf n1, l1, asAddr]
theorem resSE {fn : Func} {N : Bs} {M : Nat} {P : Program} {t u b1 : Nat} {T : TypeId} {v1 : List Value} {v2 : Value} (hr : fn.results = #[.cell t T, .tmp u]) (ht : look L t = some (.pointer (some ⟨b1, 0, none⟩))) (hu : look L u = some v2) (a1 : aggP P T = some true)
    (n1 : szP P T = some v1.length) (c1 : Cells N R H b1 0 v1) : ∀ a w, Frm M L a → Sat N R H w → (results fn a.tmps).run P w = .ok (.tuple #[.agg v1.toArray, v2]) w := by
  intro a w hf hs
  have e1 : a.tmps[t]?.getD undef = .pointer (some ⟨b1, 0, none⟩) := by simpa using hf.get t _ ht
  have e2 : a.tmps[u]?.getD undef = v2 := by simpa using hf.get u _ hu
  have l1 := run_loadCells_list (P := P) (w := w) ⟨b1, 0, none⟩ v1 (fun j v hv => by rw [Addr.add_lit]; exact c1 w hs j v hv)
  simp [results, hr, e1, e2, loadVar, run_isAgg a1, run_sizeOf n1, l1, asAddr]
end Go.Eng
/- What a search knows, in memory; rooms, hops, when a sender may leave. -/
namespace Go.Proofs.YtijheemiknkleaaGreatDoor
open Go.Eng Go.Step
set_option maxRecDepth 100000
set_option maxHeartbeats 4000000

def encL (x : Lb) : List Value := [int x.n, int x.f, int x.t, int x.a]
def encHp (h : Hp) : List Value := [int h.c, int h.b, int h.e, int h.a]
theorem encL_len (x : Lb) : (encL x).length = 4 := rfl
theorem encHp_len (x : Hp) : (encHp x).length = 4 := rfl
def SpsAt (γ : PH) (p : Option Addr) (L : List (List (Int × Int))) : Prop := ∀ i l, L[i]? = some l → ∃ b o q k, p = some ⟨b, o, none⟩ ∧ rdc γ b (o + i) = some (.slice q l.length k) ∧ SlE encS 2 γ (.slice q l.length k) l
structure GA where
 b : Nat
 pq : Option Addr
 nq : Nat
 kq : Nat
 pc : Option Addr
 kc : Nat
 pg : Option Addr
 kg : Nat
 pr : Option Addr
 kr : Nat
 pd : Option Addr
 kd : Nat
structure GrAt (γ τ : PH) (A : GA) (G : Gr) : Prop where
 qv : rdc γ A.b 0 = some (.slice A.pq A.nq A.kq)
 nq : A.nq = G.rooms.length
 cv : rdc γ A.b 1 = some (.slice A.pc G.cs.length A.kc)
 src : rdc γ A.b 4 = some (int G.q.src)
 dst : rdc γ A.b 5 = some (int G.q.dst)
 rdy : rdc γ A.b 7 = some (int G.q.rdy)
 dln : rdc γ A.b 8 = some (int G.q.dln)
 cus : rdc γ A.b 10 = some (.bool G.q.cus)
 gv : rdc γ A.b 11 = some (.slice A.pg G.gaps.length A.kg)
 rv : rdc γ A.b 12 = some (.slice A.pr G.rooms.length A.kr)
 dv : rdc γ A.b 13 = some (.slice A.pd G.dur.length A.kd)
 hc : RowsE encC 7 τ A.pc G.cs
 gaps : SpsAt γ A.pg G.gaps
 rooms : SpsAt γ A.pr G.rooms
 durs : RowsE Eng.encI 1 γ A.pd G.dur
abbrev gp (A : GA) : Value := .pointer (some ⟨A.b, 0, none⟩)
theorem getD_at {α : Type} {l : List α} {i : Nat} {x d : α} (h : l[i]? = some x) : l.getD i d = x := by simp [List.getD_eq_getElem?_getD, h]
theorem leave_spec {γ τ : PH} {A : GA} {G : Gr} (hG : GrAt γ τ A G) (hg : GOK G) {i : Nat} {c : Ct} (hi : G.cs[i]? = some c) (h : Hp) (hc : h.c = i) (he : 0 ≤ h.e ∧ h.e ≤ 9007199254740992) :
  Ans Tryz.prog (fv 106) [gp A, .agg (encHp h).toArray] [γ, τ] (fun r => r = int (leaveR G c h)) := by
 obtain ⟨bA, pq, nq, kq, pc, kc, pg, kg, pr, kr, pd, kd⟩ := A
 obtain ⟨qv, hnq, cv, src, dst, rdy, dln, cus, gv, rv, dv, hcs, gaps, rooms, durs⟩ := hG
 dsimp only at qv hnq cv src dst rdy dln cus gv rv dv hcs gaps rooms durs ⊢
 obtain ⟨bq, oq, rfl, hrd⟩ := ctRow hcs hi
 have g5 : rdc τ bq (oq + i * 7 + 5) = some (int c.g) := hrd.get (j := 5) rfl
 have hil := (List.getElem?_eq_some_iff.1 hi).1
 have hlc := hg.lc
 have hck := chkCt_all (hg.cs c (List.mem_of_getElem? hi)).1
 have hgg : 1 ≤ c.g ∧ c.g ≤ 1048576 := hck.2.2.2.2
 obtain ⟨hc0, hb0, he0, ha0⟩ := h
 dsimp only at hc he
 subst hc
 unfold leaveR
 have hgen : ∀ q, G.q.cus = q → Ans Tryz.prog (fv 106) [.pointer (some ⟨bA, 0, none⟩), .agg #[int (i : Int), int hb0, int he0, int ha0]] [γ, τ] (fun r => r = int (if q then he0 + 2 * c.g else he0)) := by
  intro q hq
  rw [hq] at cus
  refine spec_in (cap := []) Tryz.func106 rfl rfl Tryz.ntmps106 rfl envZ (fun N β => ?_)
  cases q with
  | true =>
   refine AB ?_
   refine AA ?_
   refine BQ ?_; rintro _ _ ⟨b, rfl, rfl⟩
   refine AD ?_
   refine AE ?_
   refine AB ?_
   refine AB ?_
   refine AA ?_
   refine AC ?_
   refine BW ?_
   refine AG ?_
   refine CO ?_
   refine AF ?_
   refine AE ?_
   refine AQ rfl ?_
   refine AB ?_
   refine BA (.q 0 (.q 1 (.q 2 (.q 3 (.q 4 (.q 5 (.q 6 (.q 7 (.q 8 (.q 9 (.q 10 (.q 11 (.q 12 (.q 13 (.q 14 (.q 15 .nil)))))))))))))))) [] rfl (by kernel_rfl) selZ ?_
   refine AW ?_
   refine AP ?_
   refine AS ?_
   refine A6 ?_
   refine AW ?_
   refine AW ?_
   refine AW ?_
   refine AP ?_
   refine AW ?_
   refine AP ?_
   refine BJ ?_
   refine BU ?_
   refine AP ?_
   refine EO ?_
   refine DQ ?_
   refine B7 ?_
   refine A7 ?_
   skip
   exact AI (res1 rfl rfl) rsubZ selZ ⟨rfl, rfl⟩
  | false =>
   refine AB ?_
   refine AA ?_
   refine BQ ?_; rintro _ _ ⟨b, rfl, rfl⟩
   refine AD ?_
   refine AE ?_
   refine AB ?_
   refine AB ?_
   refine AA ?_
   refine AC ?_
   refine BW ?_
   refine AG ?_
   refine CO ?_
   refine AF ?_
   refine AE ?_
   refine AM rfl ?_
   refine AL ?_
   refine AB ?_
   refine AA ?_
   refine AG ?_
   refine AF ?_
   refine AD ?_
   refine AE ?_
   exact AI (res1 rfl rfl) rsubZ selZ ⟨rfl, rfl⟩
 exact hgen _ rfl
theorem roomsOf_spec {γ τ : PH} {A : GA} {G : Gr} (hG : GrAt γ τ A G) (hg : GOK G) (n : Int) (hn : 0 ≤ n ∧ n < G.rooms.length) :
  Gives Tryz.prog (fv 104) [gp A, int n] [γ] (fun r ρ => SlE encS 2 ρ r (roomsR G n)) := by
 obtain ⟨bA, pq, nq, kq, pc, kc, pg, kg, pr, kr, pd, kd⟩ := A
 obtain ⟨qv, hnq, cv, src, dst, rdy, dln, cus, gv, rv, dv, hcs, gaps, rooms, durs⟩ := hG
 dsimp only at qv hnq cv src dst rdy dln cus gv rv dv hcs gaps rooms durs ⊢
 unfold roomsR
 obtain ⟨m, rfl⟩ := Int.eq_ofNat_of_zero_le hn.1
 refine spec_in (cap := []) Tryz.func104 rfl rfl Tryz.ntmps104 rfl envZ (fun N β => ?_)
 by_cases h : (m : Int) = G.q.dst
 ·rw [if_pos h]
  refine AB ?_
  refine AA ?_
  refine AD ?_
  refine AE ?_
  refine AB ?_
  refine AB ?_
  refine AA ?_
  refine AC ?_
  refine AC ?_
  refine BW ?_
  refine AG ?_
  refine CO ?_
  refine AF ?_
  refine CB ?_
  refine AE ?_
  refine AQ rfl ?_
  refine AB ?_
  refine AA ?_
  refine CC ?_
  refine BR ?_; rintro _ _ ⟨b, rfl, rfl⟩
  refine AD ?_
  refine AE ?_
  exact AI (res1 rfl rfl) rsubZ selZ ⟨_, slE_sng (l := [((0 : Int), 1099511627776)]) encS_len, .inl rfl⟩
 ·rw [if_neg h]
  have hlt : m < G.rooms.length := by omega
  rw [Int.toNat_natCast]
  have hx := List.getElem?_eq_getElem hlt
  obtain ⟨b1, o1, q1, k1, rfl, h1, h2⟩ := rooms _ _ hx
  rw [getD_at hx]
  refine AB ?_
  refine AA ?_
  refine AD ?_
  refine AE ?_
  refine AB ?_
  refine AB ?_
  refine AA ?_
  refine AC ?_
  refine AC ?_
  refine BW ?_
  refine AG ?_
  refine CO ?_
  refine AF ?_
  refine B4 ?_
  refine AE ?_
  refine AM rfl ?_
  refine AL ?_
  refine AB ?_
  refine AA ?_
  refine AC ?_
  refine BW ?_
  refine AG ?_
  refine AF ?_
  refine AC ?_
  refine B9 ?_
  refine AF ?_
  refine AD ?_
  refine AE ?_
  exact AI (res1 rfl rfl) rsubZ selZ ⟨γ, h2, .inr ⟨rfl, by simp⟩⟩
set_option maxHeartbeats 8000000 in
theorem hop_spec {γ τ : PH} {A : GA} {G : Gr} (hG : GrAt γ τ A G) (hg : GOK G) {i : Nat} {c : Ct} (hi : G.cs[i]? = some c) (fr : Int) (hfr : 0 ≤ fr ∧ fr ≤ 2199023255552) :
  Ans Tryz.prog (fv 105) [gp A, int (i : Int), int fr] [γ, τ] (fun r => r = .tuple #[.agg (encHp ((hopR G i c fr).getD ⟨0, 0, 0, 0⟩)).toArray, .bool (hopR G i c fr).isSome]) := by
 obtain ⟨bA, pq, nq, kq, pc, kc, pg, kg, pr, kr, pd, kd⟩ := A
 obtain ⟨qv, hnq, cv, src, dst, rdy, dln, cus, gv, rv, dv, hcs, gaps, rooms, durs⟩ := hG
 dsimp only at qv hnq cv src dst rdy dln cus gv rv dv hcs gaps rooms durs ⊢
 obtain ⟨bq, oq, rfl, hrd⟩ := ctRow hcs hi
 have g5 : rdc τ bq (oq + i * 7 + 5) = some (int c.g) := hrd.get (j := 5) rfl
 have hil := (List.getElem?_eq_some_iff.1 hi).1
 have hlc := hg.lc
 have hgl := hg.gl
 have hdl := hg.dl
 have hck := chkCt_all (hg.cs c (List.mem_of_getElem? hi)).1
 have hgg : 1 ≤ c.g ∧ c.g ≤ 1048576 := hck.2.2.2.2
 obtain ⟨L, hL⟩ : ∃ L, G.gaps[i]? = some L := ⟨_, List.getElem?_eq_getElem (by omega)⟩
 obtain ⟨d, hd⟩ : ∃ d, G.dur[i]? = some d := ⟨_, List.getElem?_eq_getElem (by omega)⟩
 have hdd := hg.dur d (List.mem_of_getElem? hd)
 have hLL := hg.gap L (List.mem_of_getElem? hL)
 obtain ⟨bd, od, rfl, hdv⟩ := durs.int hd
 obtain ⟨bg, og, q, k, rfl, hgv, hSp⟩ := gaps i L hL
 obtain ⟨_, _, ew, hrw⟩ := SlE.val (enc := encS) encS_len hSp
 simp only [Value.slice.injEq] at ew
 obtain ⟨rfl, _, rfl⟩ := ew
 have hres : hopR G i c fr = (hopB fr d L).map fun b => ⟨i, b, b + d, b + d + c.g⟩ := by
  unfold hopR; rw [getD_at hd, getD_at hL]
 rw [hres]
 refine spec_in (cap := []) Tryz.func105 rfl rfl Tryz.ntmps105 rfl envZ (fun N β => ?_)
 refine AB ?_
 refine AA ?_
 refine A4 ?_; rintro _ _ ⟨b, rfl, rfl⟩
 refine AD ?_
 refine AE ?_
 refine AB ?_
 refine AA ?_
 refine AC ?_
 refine BW ?_
 refine AG ?_
 refine AF ?_
 refine AC ?_
 refine B9 ?_
 refine AF ?_
 refine AD ?_
 refine AE ?_
 refine AB ?_
 refine AB ?_
 refine AA ?_
 refine AC ?_
 refine BW ?_
 refine AG ?_
 refine AF ?_
 refine AC ?_
 refine B9 ?_
 refine AF ?_
 refine AY ?_
 refine AC ?_
 refine AE ?_
 refine AV ?_
 revert b; intro bR
 refine BM [0, 1, 2, 26, 27, 7, 8, 6] (0 : Nat) (fun k => k ≤ L.length ∧ hopB fr d L = hopB fr d (L.drop k)) (fun k => [(28, int k)]) (fun _ => [sng bR (.cells #[int 0, int 0, int 0, int 0] 135 (0, 0))]) (fun k => L.length - k) pickZ ⟨by omega, rfl⟩ covZ selZ ?_
 rintro k ⟨hk, hI⟩
 by_cases hlt : k < L.length
 ·have hx := List.getElem?_eq_getElem hlt
  have hpp := hLL.2 _ (List.mem_of_getElem? hx)
  have hsk := hopB_skip (fr := fr) (d := d) hx
  obtain ⟨b6, o6, rfl, hRd6, y0, y1⟩ := spRow hrw hx
  generalize L[k] = y at hx hpp hsk hRd6 y0 y1
  obtain ⟨m, hm⟩ : ∃ m, max y.1 fr = m := ⟨_, rfl⟩
  have hm0 : 0 ≤ m ∧ m ≤ 2199023255552 := by omega
  rw [hm] at hsk
  by_cases hle : m + d ≤ y.2
  ·rw [if_pos hle] at hsk
   rw [hI, hsk]
   refine AB ?_
   refine AA ?_
   refine BI ?_
   refine AE ?_
   refine AB ?_
   refine AQ rfl ?_
   refine AL ?_
   refine AB ?_
   refine AV ?_
   refine AB ?_
   refine AA ?_
   refine A9 ?_
   refine AN ?_
   refine A4 ?_; rintro _ _ ⟨b, rfl, rfl⟩
   refine A2 ?_; rintro _ _ ⟨rfl, rfl⟩
   refine AE ?_
   refine AB ?_
   refine AA ?_
   refine AG ?_
   refine AF ?_
   refine AC ?_
   refine DB ?_
   refine AD ?_
   refine AE ?_
   refine AB ?_
   refine AA ?_
   refine AC ?_
   refine AC ?_
   refine CS ?_
   refine AG ?_
   refine AF ?_
   refine C3 ?_
   refine AE ?_
   refine AQ rfl ?_
   refine AB ?_
   refine AA ?_
   refine AC ?_
   refine AC ?_
   refine CS ?_
   refine AD ?_
   refine AE ?_
   refine AB ?_
   refine AA ?_
   refine AC ?_
   refine AC ?_
   refine AC ?_
   refine AC ?_
   refine AC ?_
   refine BW ?_
   refine AG ?_
   refine AG ?_
   refine AG ?_
   refine AF ?_
   refine AC ?_
   refine A9 ?_
   refine CO ?_
   refine AF ?_
   refine CS ?_
   refine CC ?_
   focus ((rw [hm]))
   refine A2 ?_; rintro _ _ ⟨rfl, rfl⟩
   refine AD ?_
   refine AE ?_
   exact AI (resSE (b1 := bR) (T := 135) (v1 := [int (i : Int), int m, int (m + d), int (m + d + c.g)]) rfl rfl rfl rfl rfl (cells_own memZ)) rsubZ selZ ⟨rfl, rfl⟩
  ·rw [if_neg hle] at hsk
   refine AB ?_
   refine AA ?_
   refine BI ?_
   refine AE ?_
   refine AB ?_
   refine AQ rfl ?_
   refine AL ?_
   refine AB ?_
   refine AV ?_
   refine AB ?_
   refine AA ?_
   refine A9 ?_
   refine AN ?_
   refine A4 ?_; rintro _ _ ⟨b, rfl, rfl⟩
   refine A2 ?_; rintro _ _ ⟨rfl, rfl⟩
   refine AE ?_
   refine AB ?_
   refine AA ?_
   refine AG ?_
   refine AF ?_
   refine AC ?_
   refine DB ?_
   refine AD ?_
   refine AE ?_
   refine AB ?_
   refine AA ?_
   refine AC ?_
   refine AC ?_
   refine CS ?_
   refine AG ?_
   refine AF ?_
   refine C4 ?_
   refine AE ?_
   refine AM rfl ?_
   refine AL ?_
   refine A8 ?_
   refine AA ?_
   refine BD ?_
   refine AC ?_
   refine AE ?_
   focus ((rw [hm]))
   refine A5 (k + 1) ⟨by omega, by rw [hI, hsk]⟩ (by omega) covZ selZ
 ·have hke : k = L.length := by omega
  subst hke
  rw [hI, List.drop_length]
  refine AB ?_
  refine AA ?_
  refine AZ ?_
  refine AE ?_
  refine AB ?_
  refine AM rfl ?_
  refine BE rfl ?_
  refine AB ?_
  refine AA ?_
  refine CC ?_
  refine A2 ?_; rintro _ _ ⟨rfl, rfl⟩
  refine AD ?_
  refine AE ?_
  exact AI (resSE (b1 := bR) (T := 135) (v1 := [int 0, int 0, int 0, int 0]) rfl rfl rfl rfl rfl (cells_own memZ)) rsubZ selZ ⟨rfl, rfl⟩
end Go.Proofs.YtijheemiknkleaaGreatDoor
/- Where the ways of a test meet behind it: the test's region and the test. No conditions. -/
namespace Go.Eng
variable {C : Cx} {D : List Deferred} {R H : List PH} {L : Env} {K : List It}
end Go.Eng
/- Inside a region that draws its order: the chunks in another order. No conditions. -/
namespace Go.Eng
variable {C : Cx} {D : List Deferred} {R H Hf : List PH} {L : Env} {K : List It} {ps ls : List Nat}
theorem Quiet.perm {H' : List PH} {o : Oper} {v : Value} (hp : H'.Perm H) (h : Quiet C R H L o v) : Quiet C R H' L o v := ⟨h.1, fun a w hx hs => h.2 a w hx (hs.perm hp)⟩
end Go.Eng
/- Something to be read: in what is never written, or in what the call made. No conditions. -/
namespace Go.Eng
variable {C : Cx} {D : List Deferred} {R H : List PH} {L : Env} {K : List It}
end Go.Eng
/- What an owned slice looks like; chunks that hold more. No conditions. -/
namespace Go.Eng
theorem OwnS.form {e : TypeId} {s n : Nat} {v : Value} {xs : List Value} {ρ : PH} (h : OwnS e s v n xs ρ) : ∃ p c, v = .slice p n c := by
  obtain ⟨_, ⟨rfl, rfl, _⟩ | ⟨b, cap, _, rfl, _⟩⟩ := h
  · exact ⟨none, 0, rfl⟩
  · exact ⟨_, cap, rfl⟩
theorem SlAt.mono {ρ γ : PH} {s n : Nat} {v : Value} {xs : List Value} (h : SlAt ρ s v n xs) (hs : PH.sub ρ γ) : SlAt γ s v n xs := by
  obtain ⟨h1, h2 | ⟨b, o, c, e, h3⟩⟩ := h
  · exact ⟨h1, .inl h2⟩
  · exact ⟨h1, .inr ⟨b, o, c, e, fun j u hu => hs.rdc (h3 j u hu)⟩⟩
theorem SlE.mono {α : Type} {enc : α → List Value} {s : Nat} {ρ γ : PH} {v : Value} {l : List α} (h : SlE enc s ρ v l) (hs : PH.sub ρ γ) : SlE enc s γ v l := SlAt.mono h hs
end Go.Eng
/- What was read is left; a slice with its room. No conditions. -/
namespace Go.Eng
variable {C : Cx} {D : List Deferred} {R H : List PH} {L : Env} {K : List It}
theorem DD {σ : PH} (h : JK C D R H L K) : JK C D (σ :: R) H L K :=
  ⟨fun a w hf hd hs => h.run a w hf hd ⟨hs.sz, fun ρ hρ => hs.r ρ (List.mem_cons_of_mem _ hρ), hs.h, hs.hd, fun ρ hρ => hs.rd ρ (List.mem_cons_of_mem _ hρ)⟩⟩
end Go.Eng
/- The moves of a label, one after the other. -/
namespace Go.Proofs.YtijheemiknkleaaGreatDoor
open Go.Eng Go.Step
set_option maxRecDepth 100000
set_option maxHeartbeats 4000000

def encM (m : Lb × Hp) : List Value := [int m.1.n, int m.1.f, int m.1.t, int m.1.a, int m.2.c, int m.2.b, int m.2.e, int m.2.a]
theorem moves_spec (bA : Nat) (x : Lb) :
  Eng.Spec Tryz.prog (fv 52) [.pointer (some ⟨bA, 0, none⟩), .agg #[int x.n, int x.f, int x.t, int x.a]] [] [] (fun r H' => ∃ c1 c2, r = .func (.func 103) #[] #[.pointer (some ⟨c1, 0, none⟩), .pointer (some ⟨c2, 0, none⟩)] ∧ H' = [sng c2 (.cells #[int x.n, int x.f, int x.t, int x.a] 77 (0, 0)), sng c1 (.cells #[.pointer (some ⟨bA, 0, none⟩)] 67 (0, 0))]) := by
 refine spec_in (cap := []) Tryz.func52 rfl rfl Tryz.ntmps52 rfl envZ (fun N β => ?_)
 refine AB ?_
 refine AA ?_
 refine BF (C7 rfl rfl) rfl rfl rfl ?_
 rintro _ _ ⟨c1, rfl, rfl⟩
 refine BF (BC rfl) rfl rfl rfl ?_
 rintro _ _ ⟨c2, rfl, rfl⟩
 refine AD ?_
 refine AE ?_
 refine AB ?_
 refine AA ?_
 refine BX ?_
 refine AD ?_
 refine AE ?_
 exact AI (res1 rfl rfl) rsubZ selZ ⟨c1, c2, rfl, rfl⟩
set_option maxHeartbeats 32000000 in
theorem moves_iter {γ τ : PH} {A : GA} {G : Gr} (hG : GrAt γ τ A G) (hg : GOK G) (c1 c2 : Nat) (x : Lb) (hx : 0 ≤ x.a ∧ x.a ≤ 2199023255552) :
  Iter Tryz.prog (.func (.func 103) #[] #[.pointer (some ⟨c1, 0, none⟩), .pointer (some ⟨c2, 0, none⟩)]) [sng c1 (.cells #[.pointer (some ⟨A.b, 0, none⟩)] 67 (0, 0)), sng c2 (.cells #[int x.n, int x.f, int x.t, int x.a] 77 (0, 0)), γ, τ] ((mvs G x).map (fun m => [.agg (encM m).toArray])) := by
 intro y S Own Inv Stop Ry hy hyl σ0 hI0
 obtain ⟨yl, rfl⟩ := hyl
 have hrooms := fun n hn => roomsOf_spec hG hg n hn
 have hhop := fun {i : Nat} {c : Ct} (hi : G.cs[i]? = some c) fr hfr => hop_spec hG hg hi fr hfr
 have hleave := fun {i : Nat} {c : Ct} (hi : G.cs[i]? = some c) h hc he => leave_spec hG hg hi h hc he
 obtain ⟨bA, pq, nq, kq, pc, kc, pg, kg, pr, kr, pd, kd⟩ := A
 obtain ⟨qv, hnq, cv, src, dst, rdy, dln, cus, gv, rv, dv, hcs, gaps, rooms, durs⟩ := hG
 dsimp only at qv hnq cv src dst rdy dln cus gv rv dv hcs gaps rooms durs hrooms hhop hleave ⊢
 have hlc := hg.lc
 have v1 : rdc (sng c1 (.cells #[.pointer (some ⟨bA, 0, none⟩)] 67 (0, 0))) c1 0 = some (.pointer (some ⟨bA, 0, none⟩)) := by rw [rdc_sng]; rfl
 have x0 : rdc (sng c2 (.cells #[int x.n, int x.f, int x.t, int x.a] 77 (0, 0))) c2 0 = some (int x.n) := by rw [rdc_sng]; rfl
 have x2 : rdc (sng c2 (.cells #[int x.n, int x.f, int x.t, int x.a] 77 (0, 0))) c2 2 = some (int x.t) := by rw [rdc_sng]; rfl
 have x3 : rdc (sng c2 (.cells #[int x.n, int x.f, int x.t, int x.a] 77 (0, 0))) c2 3 = some (int x.a) := by rw [rdc_sng]; rfl
 simp only [List.cons_append, List.nil_append]
 refine spec_in (cap := [.pointer (some ⟨c1, 0, none⟩), .pointer (some ⟨c2, 0, none⟩)]) Tryz.func103 rfl rfl Tryz.ntmps103 rfl envZ (fun N β => ?_)
 refine AB ?_
 refine AA ?_
 refine AF ?_
 refine BW ?_
 refine AG ?_
 refine AG ?_
 refine AG ?_
 refine AF ?_
 refine AY ?_
 refine AC ?_
 refine AE ?_
 refine AV ?_
 refine BM [0, 1, 2, 15, 16] (X := Nat × S) (0, σ0) (fun z => z.1 ≤ G.cs.length ∧ Inv (mvF G x 0 (G.cs.take z.1)).length z.2) (fun z => [(17, int z.1)]) (fun z => Own z.2) (fun z => G.cs.length - z.1) pickZ ⟨by dsimp only; omega, hI0⟩ covZ Sel.refl ?_
 rintro ⟨k, σ1⟩ ⟨hk, hI⟩
 dsimp only at hk hI ⊢
 by_cases hlt : k < G.cs.length
 rotate_left
 ·have hke : k = G.cs.length := by omega
  subst hke
  rw [List.take_length] at hI
  refine AB ?_
  refine AA ?_
  refine AZ ?_
  refine AE ?_
  refine AB ?_
  refine AM rfl ?_
  refine BE rfl ?_
  refine BV (res0 rfl) (fun _ h => h) Sel.refl ⟨σ1, rfl, .inl ?_⟩
  rw [List.length_map]
  exact hI
 have hc := List.getElem?_eq_getElem hlt
 have hnext := mvF_next G x hc
 have hat := fun {j : Nat} {r : Int × Int} {m : Lb × Hp} => mvs_at G x (j := j) (r := r) (m := m) hc
 have hck := chkCt_all (hg.cs _ (List.mem_of_getElem? hc)).1
 have htr := (hg.cs _ (List.mem_of_getElem? hc)).2
 obtain ⟨bq, oq, rfl, hrd⟩ := ctRow hcs hc
 have hhop1 := fun fr hfr => hhop hc fr hfr
 have hleave1 := fun h h1 h2 => hleave hc h h1 h2
 generalize G.cs[k] = c at hc hnext hat hck htr hrd hhop1 hleave1
 refine AB ?_
 refine AA ?_
 refine BI ?_
 refine AE ?_
 refine AB ?_
 refine AQ rfl ?_
 refine AL ?_
 refine AB ?_
 refine AV ?_
 refine AB ?_
 refine AA ?_
 refine AC ?_
 refine A9 ?_
 refine AN ?_
 refine A4 ?_; rintro _ _ ⟨b, rfl, rfl⟩
 refine AD ?_
 refine A2 ?_; rintro _ _ ⟨rfl, rfl⟩
 refine AE ?_
 refine AB ?_
 refine AB ?_
 refine AA ?_
 refine AG ?_
 refine AF ?_
 refine AG ?_
 refine AF ?_
 revert b; intro b5
 refine AU (ρ := sng b5 _) takeZ ?_
 have f0 : rdc (sng b5 (.cells #[int c.f, int c.t, int c.s, int c.e, int c.r, int c.g, int c.l] 33 (0, 0))) b5 0 = some (int c.f) := by rw [rdc_sng]; rfl
 have f1 : rdc (sng b5 (.cells #[int c.f, int c.t, int c.s, int c.e, int c.r, int c.g, int c.l] 33 (0, 0))) b5 1 = some (int c.t) := by rw [rdc_sng]; rfl
 by_cases hcf : c.f = x.n
 rotate_left
 ·have hmc : mvC G x k c = [] := by unfold mvC; rw [if_pos hcf]
  refine CR ?_
  refine AE ?_
  refine AQ rfl ?_
  refine BE rfl ?_
  refine AA ?_
  refine BD ?_
  refine AC ?_
  refine AE ?_
  refine DD ?_
  refine A5 (k + 1, σ1) ⟨by dsimp only; omega, ?_⟩ (by dsimp only; omega) covZ Sel.refl
  dsimp only
  rw [hnext, hmc, List.append_nil]
  exact hI
 have hmc : mvC G x k c = (roomsR G c.t).filterMap (mv1 G x k c) := by unfold mvC; rw [if_neg (by simp [hcf])]
 have hro := hrooms c.t ⟨hck.2.1.1, by omega⟩
 refine BG ?_
 refine AE ?_
 refine AM rfl ?_
 refine AL ?_
 refine AB ?_
 refine AA ?_
 refine AF ?_
 refine AG ?_
 refine AF ?_
 refine EU hro rfl rfl (fun τ hτ => by rw [List.mem_singleton] at hτ; simp [hτ]) rfl rfl ?_
 rintro v ρ hS
 obtain ⟨pv, kv, rfl, hrv⟩ := SlE.val (enc := encS) encS_len hS
 have hrl : (roomsR G c.t).length ≤ 100 ∧ ∀ p ∈ roomsR G c.t, 0 ≤ p.1 ∧ p.1 < p.2 ∧ p.2 ≤ 1099511627776 := by
  have h := roomsR_ok hg c.t
  exact ⟨by omega, h.2.2⟩
 rw [hmc] at hnext
 have hat1 := fun {j : Nat} {r : Int × Int} {m : Lb × Hp} => hat (j := j) (r := r) (m := m) hcf
 have hmv : ∀ r, mv1 G x k c r = match hopR G k c (max x.a r.1) with
   | none => none
   | some h => if x.t < leaveR G c h ∨ G.q.dln < h.a ∨ (c.t ≠ G.q.dst ∧ r.2 ≤ h.a) then none else some (⟨c.t, r.1, r.2, h.a⟩, h) := fun r => rfl
 generalize mv1 G x k c = mv at hnext hat1 hmv
 generalize roomsR G c.t = L at hrv hrl hnext hat1 hS
 refine AY ?_
 refine AC ?_
 refine AE ?_
 refine AV ?_
 refine BM [0, 1, 2, 4, 5, 15, 16, 17, 30, 31] (X := Nat × S) (0, σ1) (fun z => z.1 ≤ L.length ∧ Inv ((mvF G x 0 (G.cs.take k)).length + ((L.take z.1).filterMap mv).length) z.2) (fun z => [(32, int z.1)]) (fun z => Own z.2) (fun z => L.length - z.1) pickZ ⟨by dsimp only; omega, by simpa using hI⟩ covZ Sel.refl ?_
 rintro ⟨j, σ2⟩ ⟨hj, hI2⟩
 dsimp only at hj hI2 ⊢
 by_cases hlt2 : j < L.length
 rotate_left
 ·have hke : j = L.length := by omega
  subst hke
  rw [List.take_length] at hI2
  refine AB ?_
  refine AA ?_
  refine AZ ?_
  refine AE ?_
  refine AB ?_
  refine AM rfl ?_
  refine BE rfl ?_
  refine A8 ?_
  refine AA ?_
  refine BD ?_
  refine AC ?_
  refine AE ?_
  refine DD ?_
  refine DD ?_
  refine A5 (k + 1, σ2) ⟨by dsimp only; omega, ?_⟩ (by dsimp only; omega) covZ Sel.refl
  dsimp only
  rw [hnext, List.length_append]
  exact hI2
 have hrr := List.getElem?_eq_getElem hlt2
 have hfm := fm_next mv hrr
 have hpp := hrl.2 _ (List.mem_of_getElem? hrr)
 have hat2 := fun {m : Lb × Hp} => hat1 (m := m) hrr
 obtain ⟨b6, o6, rfl, hRd6, y0, y1⟩ := spRow hrv hrr
 have hmv1 := hmv L[j]
 generalize L[j] = p at hrr hfm hpp hat2 hRd6 y0 y1 hmv1
 obtain ⟨m, hm⟩ : ∃ m, max x.a p.1 = m := ⟨_, rfl⟩
 have hm0 : 0 ≤ m ∧ m ≤ 2199023255552 := by omega
 rw [hm] at hmv1
 have hho := hhop1 m hm0
 have hr2 : ∀ σ ∈ [γ, τ], σ ∈ ρ :: sng b5 (.cells #[int c.f, int c.t, int c.s, int c.e, int c.r, int c.g, int c.l] 33 (0, 0)) :: β :: sng c1 (.cells #[.pointer (some ⟨bA, 0, none⟩)] 67 (0, 0)) :: sng c2 (.cells #[int x.n, int x.f, int x.t, int x.a] 77 (0, 0)) :: γ :: τ :: Ry := fun σ hσ => by
  simp only [List.mem_cons, List.not_mem_nil, or_false] at hσ
  rcases hσ with rfl | rfl <;> simp
 refine AB ?_
 refine AA ?_
 refine BI ?_
 refine AE ?_
 refine AB ?_
 refine AQ rfl ?_
 refine AL ?_
 refine AB ?_
 refine AV ?_
 refine AB ?_
 refine AA ?_
 refine A9 ?_
 refine AN ?_
 refine A4 ?_; rintro _ _ ⟨b, rfl, rfl⟩
 refine A2 ?_; rintro _ _ ⟨rfl, rfl⟩
 refine AE ?_
 refine AB ?_
 refine AA ?_
 refine AF ?_
 refine AC ?_
 refine AG ?_
 refine AF ?_
 refine AG ?_
 refine AF ?_
 refine DB ?_
 focus ((rw [hm]))
 revert b; intro b7
 cases hh : hopR G k c m with
 | none =>
  rw [hh] at hho hmv1
  have hho : Ans Tryz.prog (fv 105) [.pointer (some ⟨bA, 0, none⟩), int (k : Int), int m] [γ, τ] (fun r => r = .tuple #[.agg #[int 0, int 0, int 0, int 0], .bool false]) := hho
  refine A3 hho rfl rfl (fun σ hσ => .inl (hr2 σ hσ)) rfl rfl ?_
  rintro _ rfl
  refine AC ?_
  refine AX ?_
  refine AX ?_
  refine A4 ?_; rintro _ _ ⟨b, rfl, rfl⟩
  refine A2 ?_; rintro _ _ ⟨rfl, rfl⟩
  refine AD ?_
  refine AE ?_
  refine AB ?_
  refine AB ?_
  revert b; intro b8
  refine BA (.q 0 (.q 1 (.q 2 (.q 3 (.q 4 (.q 6 (.q 7 (.q 5 (.q 8 (.q 9 (.q 10 (.q 11 (.q 12 (.q 13 (.q 14 (.q 15 (.q 16 (.q 17 (.q 18 (.q 19 (.q 20 (.q 21 (.q 22 (.q 23 (.q 24 (.q 25 (.q 26 (.q 27 (.q 28 (.q 29 (.q 30 (.q 31 (.q 32 (.q 33 (.q 34 (.q 35 (.q 36 .nil))))))))))))))))))))))))))))))))))))) [] rfl (by kernel_rfl) Sel.nil ?_
  refine AS ?_
  refine CG ?_
  refine AS ?_
  refine AR rfl rfl rfl rfl rfl ?_
  refine AR rfl rfl rfl rfl rfl ?_
  refine AR rfl rfl rfl rfl rfl ?_
  refine AR rfl rfl rfl rfl rfl ?_
  refine AR rfl rfl rfl rfl rfl ?_
  refine AR rfl rfl rfl rfl rfl ?_
  refine BK ?_
  refine AS ?_
  refine AR rfl rfl rfl rfl rfl ?_
  refine AR rfl rfl rfl rfl rfl ?_
  refine AR rfl rfl rfl rfl rfl ?_
  refine AR rfl rfl rfl rfl rfl ?_
  refine AR rfl rfl rfl rfl rfl ?_
  refine AR rfl rfl rfl rfl rfl ?_
  refine AR rfl rfl rfl rfl rfl ?_
  refine AR rfl rfl rfl rfl rfl ?_
  refine BK ?_
  refine AS ?_
  refine AR rfl rfl rfl rfl rfl ?_
  refine AR rfl rfl rfl rfl rfl ?_
  refine AR rfl rfl rfl rfl rfl ?_
  refine AR rfl rfl rfl rfl rfl ?_
  refine AR rfl rfl rfl rfl rfl ?_
  refine AR rfl rfl rfl rfl rfl ?_
  refine AR rfl rfl rfl rfl rfl ?_
  refine AR rfl rfl rfl rfl rfl ?_
  refine AR rfl rfl rfl rfl rfl ?_
  refine AR rfl rfl rfl rfl rfl ?_
  refine AR rfl rfl rfl rfl rfl ?_
  refine AR rfl rfl rfl rfl rfl ?_
  refine AR rfl rfl rfl rfl rfl ?_
  refine AR rfl rfl rfl rfl rfl ?_
  refine AR rfl rfl rfl rfl rfl ?_
  refine BK ?_
  refine A7 ?_
  refine AQ rfl ?_
  refine BE rfl ?_
  refine AA ?_
  refine BD ?_
  refine AC ?_
  refine AE ?_
  refine A5 (j + 1, σ2) ⟨by dsimp only; omega, ?_⟩ (by dsimp only; omega) covZ (Sel.skip (Sel.skip Sel.refl))
  dsimp only
  rw [hfm, hmv1, Option.toList_none, List.append_nil]
  exact hI2
 | some h =>
  obtain ⟨e1, e2, e3, e4, e5, e6, e7⟩ := hopR_ok hg hc hh
  have hle := hleave1 h e1 ⟨by omega, by omega⟩
  rw [hh] at hho hmv1
  obtain ⟨hc0, hb0, he0, ha0⟩ := h
  dsimp only at e1 e2 e3 e4 e5 e6 e7 hmv1
  subst e1
  have hho : Ans Tryz.prog (fv 105) [.pointer (some ⟨bA, 0, none⟩), int (k : Int), int m] [γ, τ] (fun r => r = .tuple #[.agg #[int (k : Int), int hb0, int he0, int ha0], .bool true]) := hho
  have hle : Ans Tryz.prog (fv 106) [.pointer (some ⟨bA, 0, none⟩), .agg #[int (k : Int), int hb0, int he0, int ha0]] [γ, τ] (fun r => r = int (leaveR G c ⟨k, hb0, he0, ha0⟩)) := hle
  generalize leaveR G c ⟨k, hb0, he0, ha0⟩ = lv at hle hmv1
  refine A3 hho rfl rfl (fun σ hσ => .inl (hr2 σ hσ)) rfl rfl ?_
  rintro _ rfl
  refine AC ?_
  refine AX ?_
  refine AX ?_
  refine A4 ?_; rintro _ _ ⟨b, rfl, rfl⟩
  refine A2 ?_; rintro _ _ ⟨rfl, rfl⟩
  refine AD ?_
  refine AE ?_
  refine AB ?_
  refine AB ?_
  revert b; intro b8
  refine BA (.q 0 (.q 1 (.q 2 (.q 3 (.q 4 (.q 6 (.q 7 (.l 5 .e (.q 8 (.q 9 (.q 10 (.q 11 (.q 12 (.q 13 (.q 14 (.q 15 (.q 16 (.q 17 (.q 18 (.q 19 (.q 20 (.q 21 (.q 22 (.q 23 (.q 24 (.q 25 (.q 26 (.q 27 (.q 28 (.q 29 (.q 30 (.q 31 (.q 32 (.q 33 (.q 34 (.q 35 (.q 36 .nil))))))))))))))))))))))))))))))))))))) [] rfl (by kernel_rfl) Sel.nil ?_
  refine AS ?_
  refine CG ?_
  refine AS ?_
  refine AP ?_
  refine BL ?_
  refine AW ?_
  refine AP ?_
  refine CJ (BY rfl hle rfl rfl (fun σ hσ => .inl (hr2 σ hσ)) rfl rfl ?_)
  rintro _ rfl
  by_cases q1 : x.t < lv
  ·rw [if_pos (.inl q1)] at hmv1
   refine DW ?_
   refine BB ?_
   refine AS ?_
   refine AR rfl rfl rfl rfl rfl ?_
   refine AR rfl rfl rfl rfl rfl ?_
   refine AR rfl rfl rfl rfl rfl ?_
   refine AR rfl rfl rfl rfl rfl ?_
   refine AR rfl rfl rfl rfl rfl ?_
   refine AR rfl rfl rfl rfl rfl ?_
   refine AR rfl rfl rfl rfl rfl ?_
   refine AR rfl rfl rfl rfl rfl ?_
   refine BK ?_
   refine AS ?_
   refine AR rfl rfl rfl rfl rfl ?_
   refine AR rfl rfl rfl rfl rfl ?_
   refine AR rfl rfl rfl rfl rfl ?_
   refine AR rfl rfl rfl rfl rfl ?_
   refine AR rfl rfl rfl rfl rfl ?_
   refine AR rfl rfl rfl rfl rfl ?_
   refine AR rfl rfl rfl rfl rfl ?_
   refine AR rfl rfl rfl rfl rfl ?_
   refine AR rfl rfl rfl rfl rfl ?_
   refine AR rfl rfl rfl rfl rfl ?_
   refine AR rfl rfl rfl rfl rfl ?_
   refine AR rfl rfl rfl rfl rfl ?_
   refine AR rfl rfl rfl rfl rfl ?_
   refine AR rfl rfl rfl rfl rfl ?_
   refine AR rfl rfl rfl rfl rfl ?_
   refine BK ?_
   refine A7 ?_
   refine AQ rfl ?_
   refine BE rfl ?_
   refine AA ?_
   refine BD ?_
   refine AC ?_
   refine AE ?_
   refine A5 (j + 1, σ2) ⟨by dsimp only; omega, ?_⟩ (by dsimp only; omega) covZ (Sel.skip (Sel.skip Sel.refl))
   dsimp only
   rw [hfm, hmv1, Option.toList_none, List.append_nil]
   exact hI2
  by_cases q2 : G.q.dln < ha0
  ·rw [if_pos (.inr (.inl q2))] at hmv1
   refine CM ?_
   refine BB ?_
   refine AS ?_
   refine AW ?_
   refine AP ?_
   refine AP ?_
   refine A6 ?_
   refine AW ?_
   refine BU ?_
   refine AP ?_
   refine DW ?_
   refine BB ?_
   refine AS ?_
   refine AR rfl rfl rfl rfl rfl ?_
   refine AR rfl rfl rfl rfl rfl ?_
   refine AR rfl rfl rfl rfl rfl ?_
   refine AR rfl rfl rfl rfl rfl ?_
   refine AR rfl rfl rfl rfl rfl ?_
   refine AR rfl rfl rfl rfl rfl ?_
   refine AR rfl rfl rfl rfl rfl ?_
   refine AR rfl rfl rfl rfl rfl ?_
   refine AR rfl rfl rfl rfl rfl ?_
   refine AR rfl rfl rfl rfl rfl ?_
   refine AR rfl rfl rfl rfl rfl ?_
   refine AR rfl rfl rfl rfl rfl ?_
   refine AR rfl rfl rfl rfl rfl ?_
   refine AR rfl rfl rfl rfl rfl ?_
   refine AR rfl rfl rfl rfl rfl ?_
   refine BK ?_
   refine A7 ?_
   refine AQ rfl ?_
   refine BE rfl ?_
   refine AA ?_
   refine BD ?_
   refine AC ?_
   refine AE ?_
   refine A5 (j + 1, σ2) ⟨by dsimp only; omega, ?_⟩ (by dsimp only; omega) covZ (Sel.skip (Sel.skip Sel.refl))
   dsimp only
   rw [hfm, hmv1, Option.toList_none, List.append_nil]
   exact hI2
  by_cases q3 : c.t = G.q.dst
  ·rw [if_neg (by simp [q1, q2, q3])] at hmv1
   have hya := hy _ σ2 [.agg (encM (⟨c.t, p.1, p.2, ha0⟩, ⟨k, hb0, he0, ha0⟩)).toArray] (by rw [List.getElem?_map, hat2 hmv1]; rfl) hI2
   refine CM ?_
   refine BB ?_
   refine AS ?_
   refine AW ?_
   refine AP ?_
   refine AP ?_
   refine A6 ?_
   refine AW ?_
   refine BU ?_
   refine AP ?_
   refine CM ?_
   refine BB ?_
   refine AS ?_
   refine AW ?_
   refine AP ?_
   refine AP ?_
   refine A6 ?_
   refine AW ?_
   refine BU ?_
   refine AP ?_
   refine E5 ?_
   refine AS ?_
   refine AR rfl rfl rfl rfl rfl ?_
   refine AR rfl rfl rfl rfl rfl ?_
   refine AR rfl rfl rfl rfl rfl ?_
   refine AR rfl rfl rfl rfl rfl ?_
   refine AR rfl rfl rfl rfl rfl ?_
   refine BB ?_
   refine BB ?_
   refine A7 ?_
   refine AM rfl ?_
   refine AL ?_
   refine AB ?_
   refine AA ?_
   refine AC ?_
   refine AG ?_
   refine AF ?_
   refine AG ?_
   refine AF ?_
   refine AG ?_
   refine AF ?_
   refine AG ?_
   refine AF ?_
   refine CC ?_
   refine AN ?_
   refine CD (C6 (out := [int c.t, int p.1, int p.2, int ha0, int (k : Int), int hb0, int he0, int ha0]) rfl rfl rfl rfl rfl) rfl rfl rfl ?_
   refine BT hya rfl rfl (Takes.skip (Takes.skip Takes.all)) (fun τ hτ => .inl (by simp [hτ])) rfl rfl ?_
   rintro _ H' ⟨σ3, rfl, ⟨rfl, hI3⟩ | ⟨rfl, hSt⟩⟩
   ·refine CU (H' := _ :: _ :: Own σ3) (List.perm_append_comm (l₂ := [_, _])) ?_
    refine BZ ?_
    refine AE ?_
    refine AM rfl ?_
    refine AL ?_
    refine A8 ?_
    refine AA ?_
    refine BD ?_
    refine AC ?_
    refine AE ?_
    refine A5 (j + 1, σ3) ⟨by dsimp only; omega, ?_⟩ (by dsimp only; omega) covZ (Sel.skip (Sel.skip Sel.refl))
    dsimp only
    rw [hfm, hmv1, Option.toList_some, List.length_append]
    exact hI3
   ·refine CU (H' := _ :: _ :: Own σ3) (List.perm_append_comm (l₂ := [_, _])) ?_
    refine BZ ?_
    refine AE ?_
    refine AQ rfl ?_
    exact AI (res0 rfl) (fun _ h => List.mem_cons_of_mem _ (List.mem_cons_of_mem _ h)) (Sel.skip (Sel.skip Sel.refl)) ⟨σ3, rfl, .inr hSt⟩
  by_cases q4 : p.2 ≤ ha0
  ·rw [if_pos (.inr (.inr ⟨q3, q4⟩))] at hmv1
   refine CM ?_
   refine BB ?_
   refine AS ?_
   refine AW ?_
   refine AP ?_
   refine AP ?_
   refine A6 ?_
   refine AW ?_
   refine BU ?_
   refine AP ?_
   refine CM ?_
   refine BB ?_
   refine AS ?_
   refine AW ?_
   refine AP ?_
   refine AP ?_
   refine A6 ?_
   refine AW ?_
   refine BU ?_
   refine AP ?_
   refine EW ?_
   refine AS ?_
   refine AW ?_
   refine AP ?_
   refine AW ?_
   refine AP ?_
   refine zd_ge ?_
   refine BK ?_
   refine BB ?_
   refine A7 ?_
   refine AQ rfl ?_
   refine BE rfl ?_
   refine AA ?_
   refine BD ?_
   refine AC ?_
   refine AE ?_
   refine A5 (j + 1, σ2) ⟨by dsimp only; omega, ?_⟩ (by dsimp only; omega) covZ (Sel.skip (Sel.skip Sel.refl))
   dsimp only
   rw [hfm, hmv1, Option.toList_none, List.append_nil]
   exact hI2
  ·rw [if_neg (by simp [q1, q2, q3, q4])] at hmv1
   have hya := hy _ σ2 [.agg (encM (⟨c.t, p.1, p.2, ha0⟩, ⟨k, hb0, he0, ha0⟩)).toArray] (by rw [List.getElem?_map, hat2 hmv1]; rfl) hI2
   refine CM ?_
   refine BB ?_
   refine AS ?_
   refine AW ?_
   refine AP ?_
   refine AP ?_
   refine A6 ?_
   refine AW ?_
   refine BU ?_
   refine AP ?_
   refine CM ?_
   refine BB ?_
   refine AS ?_
   refine AW ?_
   refine AP ?_
   refine AP ?_
   refine A6 ?_
   refine AW ?_
   refine BU ?_
   refine AP ?_
   refine EW ?_
   refine AS ?_
   refine AW ?_
   refine AP ?_
   refine AW ?_
   refine AP ?_
   refine D3 ?_
   refine BK ?_
   refine BB ?_
   refine A7 ?_
   refine AM rfl ?_
   refine AL ?_
   refine AB ?_
   refine AA ?_
   refine AC ?_
   refine AG ?_
   refine AF ?_
   refine AG ?_
   refine AF ?_
   refine AG ?_
   refine AF ?_
   refine AG ?_
   refine AF ?_
   refine CC ?_
   refine AN ?_
   refine CD (C6 (out := [int c.t, int p.1, int p.2, int ha0, int (k : Int), int hb0, int he0, int ha0]) rfl rfl rfl rfl rfl) rfl rfl rfl ?_
   refine BT hya rfl rfl (Takes.skip (Takes.skip Takes.all)) (fun τ hτ => .inl (by simp [hτ])) rfl rfl ?_
   rintro _ H' ⟨σ3, rfl, ⟨rfl, hI3⟩ | ⟨rfl, hSt⟩⟩
   ·refine CU (H' := _ :: _ :: Own σ3) (List.perm_append_comm (l₂ := [_, _])) ?_
    refine BZ ?_
    refine AE ?_
    refine AM rfl ?_
    refine AL ?_
    refine A8 ?_
    refine AA ?_
    refine BD ?_
    refine AC ?_
    refine AE ?_
    refine A5 (j + 1, σ3) ⟨by dsimp only; omega, ?_⟩ (by dsimp only; omega) covZ (Sel.skip (Sel.skip Sel.refl))
    dsimp only
    rw [hfm, hmv1, Option.toList_some, List.length_append]
    exact hI3
   ·refine CU (H' := _ :: _ :: Own σ3) (List.perm_append_comm (l₂ := [_, _])) ?_
    refine BZ ?_
    refine AE ?_
    refine AQ rfl ?_
    exact AI (res0 rfl) (fun _ h => List.mem_cons_of_mem _ (List.mem_cons_of_mem _ h)) (Sel.skip (Sel.skip Sel.refl)) ⟨σ3, rfl, .inr hSt⟩
end Go.Proofs.YtijheemiknkleaaGreatDoor
/- The earliest arrival from labels. -/
namespace Go.Proofs.YtijheemiknkleaaGreatDoor
open Go.Eng Go.Step
set_option maxRecDepth 100000
set_option maxHeartbeats 4000000

set_option maxHeartbeats 32000000 in
theorem grArr_spec {γ τ lam : PH} {A : GA} {G : Gr} (hG : GrAt γ τ A G) (hg : GOK G) (v : Value) (l : List Lb) (hv : SlE encL 4 lam v l) (hl : l.length ≤ 100000) (hlb : ∀ x ∈ l, 0 ≤ x.a ∧ x.a ≤ 2199023255552) :
  Ans Tryz.prog (fv 20) [gp A, v] [γ, τ, lam] (fun r => r = .tuple #[int ((arrR G l).getD 0), .bool (arrR G l).isSome]) := by
 have hit := fun c1 c2 (x : Lb) hx => moves_iter hG hg c1 c2 x hx
 obtain ⟨bA, pq, nq, kq, pc, kc, pg, kg, pr, kr, pd, kd⟩ := A
 have dst := hG.dst
 dsimp only at dst hit ⊢
 show Ans Tryz.prog _ [.pointer (some ⟨bA, 0, none⟩), v] _ _
 obtain ⟨p, c, rfl, hrl⟩ := SlE.val encL_len hv
 refine spec_in (cap := []) Tryz.func20 rfl rfl Tryz.ntmps20 rfl envZ (fun N β => ?_)
 refine AB ?_
 refine AA ?_
 refine BF (C7 rfl rfl) rfl rfl rfl ?_
 rintro _ _ ⟨b2, rfl, rfl⟩
 refine AU (ρ := sng b2 _) takeZ ?_
 have g0 : rdc (sng b2 (.cells #[.pointer (some ⟨bA, 0, none⟩)] 67 (0, 0))) b2 0 = some (.pointer (some ⟨bA, 0, none⟩)) := by rw [rdc_sng]; rfl
 refine CA ?_
 refine AD ?_
 refine AD ?_
 refine AE ?_
 refine AB ?_
 refine AA ?_
 refine BS ?_; rintro _ _ ⟨b, rfl, rfl⟩
 refine BS ?_; rintro _ _ ⟨b, rfl, rfl⟩
 refine BH ?_; rintro _ _ ⟨rfl, rfl⟩
 refine BH ?_; rintro _ _ ⟨rfl, rfl⟩
 refine AE ?_
 refine AB ?_
 refine AB ?_
 refine AA ?_
 refine AC ?_
 refine AY ?_
 refine AC ?_
 refine AE ?_
 refine AV ?_
 revert b; intro b7
 revert b; intro b6
 refine DM [2, 4, 5, 6, 7, 11, 12] (X := (Nat × Option Int) × (List Nat × PH)) ((0, none), ([], emp)) (fun x => x.2.1.map mk) (fun x => x.1.1 ≤ l.length ∧ x.1.2 = arrR G (l.take x.1.1) ∧ MkIn x.2.2 x.2.1) (fun x => [(13, int x.1.1)]) (fun x => [sng b7 (.cells #[.bool x.1.2.isSome] 4 (0, 0)), sng b6 (.cells #[int (x.1.2.getD 0)] 3 (0, 0)), x.2.2]) (fun x => l.length - x.1.1) pickZ rfl ⟨by dsimp only; omega, rfl, MkIn.nil⟩ covZ selZ ?_
 rintro ⟨⟨k, o⟩, ⟨ms, μ⟩⟩ ⟨hk, ho, hM⟩
 dsimp only at hk ho hM ⊢
 by_cases hlt : k < l.length
 rotate_left
 ·have hke : k = l.length := by omega
  subst hke
  rw [List.take_length] at ho
  rw [← ho]
  refine AB ?_
  refine AA ?_
  refine AZ ?_
  refine AE ?_
  refine AB ?_
  refine AM rfl ?_
  refine BE rfl ?_
  refine AB ?_
  refine BA (.q 0 (.q 1 (.q 2 (.q 3 .nil)))) [] rfl (by kernel_rfl) selZ ?_
  refine AP ?_
  refine AP ?_
  refine B7 ?_
  refine B7 ?_
  refine A7 ?_
  skip
  exact DI hM takeZ (res2 rfl rfl rfl) rsubZ selZ ⟨rfl, rfl⟩
 have hx := List.getElem?_eq_getElem hlt
 have hxb := hlb _ (List.mem_of_getElem? hx)
 have hnx := flat_next (mvs G) hx
 obtain ⟨bl, ol, rfl, hrd⟩ := hrl k _ hx
 have hit1 := fun c1 c2 => hit c1 c2 _ hxb
 have hmv := moves_spec bA l[k]
 generalize l[k] = x at hx hxb hnx hrd hit1 hmv
 have hrd : RdN lam bl (ol + k * 4) [int x.n, int x.f, int x.t, int x.a] := hrd
 refine AB ?_
 refine AA ?_
 refine BI ?_
 refine AE ?_
 refine AB ?_
 refine AQ rfl ?_
 refine AL ?_
 refine AB ?_
 refine AV ?_
 refine AB ?_
 refine AA ?_
 refine A9 ?_
 refine AN ?_
 refine A4 ?_; rintro _ _ ⟨b, rfl, rfl⟩
 refine A2 ?_; rintro _ _ ⟨rfl, rfl⟩
 refine AE ?_
 refine AB ?_
 refine AA ?_
 refine AF ?_
 refine AN ?_
 revert b; intro b9
 refine BT hmv rfl rfl takesZ rdZ rfl rfl ?_
 rintro _ _ ⟨c1, c2, rfl, rfl⟩
 simp only [List.cons_append, List.nil_append]
 refine AU (ρ := sng c2 _) takeZ ?_
 refine AU (ρ := sng c1 _) takeZ ?_
 refine AE ?_
 refine AV ?_
 refine CW (gf := 103) (cap := [.pointer (some ⟨c1, 0, none⟩), .pointer (some ⟨c2, 0, none⟩)]) (ps := [20]) (X := Option Int) rfl Tryz.func103 rfl rfl
  (hit1 c1 c2) ?_ (fun j o' => o' = ((mvs G x).take j).foldl (arrS G) o) (fun o' => [sng b7 (.cells #[.bool o'.isSome] 4 (0, 0)), sng b6 (.cells #[int (o'.getD 0)] 3 (0, 0))]) (fun _ _ => False) o rfl takesZ rfl ?_ ?_ ?_
 ·intro σ hσ
  simp only [List.mem_cons, List.not_mem_nil, or_false] at hσ ⊢
  rcases hσ with h | h | h | h <;> simp [h]
 ·rintro lo r j o' vs hvs hI hps has hbd hst hpe hfr
  obtain ⟨st, pe, fnn, tm, prm, asg, bdy, df⟩ := r
  simp only at hps has hbd hst hpe hfr
  subst hps has hbd hst hpe
  rw [List.getElem?_map] at hvs
  obtain ⟨m, hm, rfl⟩ := Option.map_eq_some_iff.1 hvs
  have hft := fold_take (arrS G) hm o
  refine yield_spec hfr rfl (by intro p hp; simp at hp; omega) putiZ (fun N' β' => ?_)
  unfold encM
  rw [← hI] at hft
  obtain ⟨⟨mn, mf, mt, ma⟩, ⟨hc0, hb0, he0, ha0⟩⟩ := m
  dsimp only
  refine AA ?_
  refine A4 ?_; rintro _ _ ⟨b, rfl, rfl⟩
  refine A2 ?_; rintro _ _ ⟨rfl, rfl⟩
  refine AE ?_
  revert b; intro b10
  refine CN rfl rfl ?_
  refine CV takeZ rfl ?_
  by_cases q1 : mn = G.q.dst
  rotate_left
  ·rw [arrS_no (m := (⟨mn, mf, mt, ma⟩, ⟨hc0, hb0, he0, ha0⟩)) q1] at hft
   refine AV ?_
   refine AB ?_
   refine BA (.q 0 (.q 1 (.q 2 (.q 3 (.q 4 (.q 5 (.q 6 (.q 7 (.q 8 (.q 9 (.q 10 (.q 11 (.q 12 (.q 13 (.q 14 (.q 15 (.q 16 (.q 17 (.q 18 (.q 19 .nil)))))))))))))))))))) [] rfl (by kernel_rfl) selZ ?_
   refine AW ?_
   refine AW ?_
   refine AP ?_
   refine AP ?_
   refine A6 ?_
   refine AW ?_
   refine BU ?_
   refine AP ?_
   refine DP ?_
   refine AS ?_
   refine AR rfl rfl rfl rfl rfl ?_
   refine AR rfl rfl rfl rfl rfl ?_
   refine AR rfl rfl rfl rfl rfl ?_
   refine AR rfl rfl rfl rfl rfl ?_
   refine AR rfl rfl rfl rfl rfl ?_
   refine AR rfl rfl rfl rfl rfl ?_
   refine AR rfl rfl rfl rfl rfl ?_
   refine AR rfl rfl rfl rfl rfl ?_
   refine AR rfl rfl rfl rfl rfl ?_
   refine BB ?_
   refine A7 ?_
   refine AM rfl ?_
   refine AL ?_
   refine A8 ?_
   exact B3 takeZ rsubZ selZ ⟨o', .inl ⟨rfl, hft.symm, rfl⟩⟩
  cases o' with
  | none =>
   rw [arrS_none (m := (⟨mn, mf, mt, ma⟩, ⟨hc0, hb0, he0, ha0⟩)) q1] at hft
   refine AV ?_
   refine AB ?_
   refine BA (.q 0 (.q 1 (.q 2 (.q 3 (.q 4 (.q 5 (.q 6 (.q 7 (.q 8 (.q 9 (.q 10 (.q 11 (.q 12 (.q 13 (.q 14 (.q 15 (.q 16 (.q 17 (.q 18 (.q 19 .nil)))))))))))))))))))) [] rfl (by kernel_rfl) selZ ?_
   refine AW ?_
   refine AW ?_
   refine AP ?_
   refine AP ?_
   refine A6 ?_
   refine AW ?_
   refine BU ?_
   refine AP ?_
   refine D7 ?_
   refine AS ?_
   refine AP ?_
   refine CG ?_
   refine AS ?_
   refine AR rfl rfl rfl rfl rfl ?_
   refine AR rfl rfl rfl rfl rfl ?_
   refine AR rfl rfl rfl rfl rfl ?_
   refine AR rfl rfl rfl rfl rfl ?_
   refine AR rfl rfl rfl rfl rfl ?_
   refine BK ?_
   refine BK ?_
   refine A7 ?_
   refine AQ rfl ?_
   refine AA ?_
   refine AG ?_
   refine AG ?_
   refine AF ?_
   refine BH ?_; rintro _ _ ⟨rfl, rfl⟩
   refine BH ?_; rintro _ _ ⟨rfl, rfl⟩
   refine AE ?_
   refine A8 ?_
   exact B3 takeZ rsubZ selZ ⟨some ma, .inl ⟨rfl, hft.symm, rfl⟩⟩
  | some bb =>
   simp only [Option.getD_some, Option.isSome_some]
   by_cases q2 : ma < bb
   ·rw [arrS_lt (m := (⟨mn, mf, mt, ma⟩, ⟨hc0, hb0, he0, ha0⟩)) q1 q2] at hft
    refine AV ?_
    refine AB ?_
    refine BA (.q 0 (.q 1 (.q 2 (.q 3 (.q 4 (.q 5 (.q 6 (.q 7 (.q 8 (.q 9 (.q 10 (.q 11 (.q 12 (.q 13 (.q 14 (.q 15 (.q 16 (.q 17 (.q 18 (.q 19 .nil)))))))))))))))))))) [] rfl (by kernel_rfl) selZ ?_
    refine AW ?_
    refine AW ?_
    refine AP ?_
    refine AP ?_
    refine A6 ?_
    refine AW ?_
    refine BU ?_
    refine AP ?_
    refine D7 ?_
    refine AS ?_
    refine AP ?_
    refine CG ?_
    refine AS ?_
    refine AW ?_
    refine AW ?_
    refine AP ?_
    refine AP ?_
    refine DV ?_
    refine BB ?_
    refine BK ?_
    refine A7 ?_
    refine AQ rfl ?_
    refine AA ?_
    refine AG ?_
    refine AG ?_
    refine AF ?_
    refine BH ?_; rintro _ _ ⟨rfl, rfl⟩
    refine BH ?_; rintro _ _ ⟨rfl, rfl⟩
    refine AE ?_
    refine A8 ?_
    exact B3 takeZ rsubZ selZ ⟨some ma, .inl ⟨rfl, hft.symm, rfl⟩⟩
   ·rw [arrS_ge (m := (⟨mn, mf, mt, ma⟩, ⟨hc0, hb0, he0, ha0⟩)) q1 q2] at hft
    refine AV ?_
    refine AB ?_
    refine BA (.q 0 (.q 1 (.q 2 (.q 3 (.q 4 (.q 5 (.q 6 (.q 7 (.q 8 (.q 9 (.q 10 (.q 11 (.q 12 (.q 13 (.q 14 (.q 15 (.q 16 (.q 17 (.q 18 (.q 19 .nil)))))))))))))))))))) [] rfl (by kernel_rfl) selZ ?_
    refine AW ?_
    refine AW ?_
    refine AP ?_
    refine AP ?_
    refine A6 ?_
    refine AW ?_
    refine BU ?_
    refine AP ?_
    refine D7 ?_
    refine AS ?_
    refine AP ?_
    refine CG ?_
    refine AS ?_
    refine AW ?_
    refine AW ?_
    refine AP ?_
    refine AP ?_
    refine CP ?_
    refine BB ?_
    refine BK ?_
    refine A7 ?_
    refine AM rfl ?_
    refine AL ?_
    refine A8 ?_
    exact B3 takeZ rsubZ selZ ⟨some bb, .inl ⟨rfl, hft.symm, rfl⟩⟩
 ·rintro bm o' hI
  simp only [List.cons_append, List.nil_append]
  refine DL (R' := [sng b2 (.cells #[.pointer (some ⟨bA, 0, none⟩)] 67 (0, 0)), β, γ, τ, lam]) (by intro σ hσ; simp at hσ ⊢; rcases hσ with h | h | h | h | h <;> simp [h]) ?_
  refine CT (b := bm) takeZ (μ := μ) takeZ hM ?_
  intro μ2 hM2
  refine A8 ?_
  refine A8 ?_
  refine AA ?_
  refine BD ?_
  refine AC ?_
  refine AE ?_
  refine C9 ((k + 1, o'), (bm :: ms, μ2)) rfl ⟨by dsimp only; omega, ?_, hM2⟩ (by dsimp only; omega) covZ selZ
  dsimp only
  rw [List.length_map, List.take_length] at hI
  unfold arrR at ho ⊢
  rw [hnx, List.foldl_append, ← ho]
  exact hI
 ·rintro bm cc o' hf
  exact hf.elim
end Go.Proofs.YtijheemiknkleaaGreatDoor
/- The library's sort of structs by a comparison, as a contract of this engine. No conditions. -/
namespace Go.Eng
open Go.Sort
open Go.Proofs (sortWorldK)
theorem upd_grow {w w' : World} (u : Upd [] [] w w') : ∃ q os, w' = grow (w.drewN q) os := by
  obtain ⟨⟨a1, a2, a3, a4, a5⟩, hk, _⟩ := u
  refine ⟨w'.drawn - w.drawn, w'.heap.extract w.heap.size w'.heap.size, ?_⟩
  have hh : w'.heap = w.heap ++ w'.heap.extract w.heap.size w'.heap.size := by
    apply Array.ext_getElem?
    intro i
    by_cases hi : i < w.heap.size
    · rw [Array.getElem?_append_left hi]
      exact hk i hi (by simp)
    · rw [Array.getElem?_append_right (by omega), Array.getElem?_extract]
      split
      · rw [show w.heap.size + (i - w.heap.size) = i by omega]
      · rw [Array.getElem?_eq_none (by omega)]
  obtain ⟨h1, t1, d1, o1, p1⟩ := w
  obtain ⟨h2, t2, d2, o2, p2⟩ := w'
  dsimp only at *
  subst a2 a3 a4
  unfold grow World.drewN
  simp only [World.mk.injEq, and_true, true_and]
  exact ⟨hh, by omega⟩
theorem calls_of {P : Program} {g : FuncId} {gn : Func} {c : Code} {args : List Value} {W : World} {v : Value} (hf : P.funcs[g]? = some gn) (hb : gn.body = some c) (hname : (gn.name == "runtime.NumGoroutine") = false)
    (hs : Ans P (fv g) args [] (fun r => r = v)) : Calls P g args.toArray W (fun e W' => e = .returned v ∧ ∃ q os, W' = grow (W.drewN q) os) := by
  have h := hs (Bs.of W) W ⟨⟨Nat.le_refl _, rfl, rfl, rfl, Nat.le_refl _⟩, by simp, by simp, List.Pairwise.nil, by simp⟩
  unfold CallsV at h
  have hrun : ((do let d ← Deferred.ofValue (fv g) args.toArray; invoke d.target d.args : Sem Next).run P W) = .ok (.enter g args.toArray) W := by
    have hname' : ¬ gn.name = "runtime.NumGoroutine" := by simpa using hname
    simp [Deferred.ofValue, invoke, callFunc, program, Sem.run, bind, Sem.bind, pure, hf, hb, hname']
  rw [hrun] at h
  refine callsIn_wide.1 (CallsIn.mono h ?_)
  rintro e W' ⟨r, rfl, H', ⟨rfl, rfl⟩, hu⟩
  exact ⟨rfl, upd_grow hu⟩
theorem flatK_list {α : Type} [Inhabited α] {enc : α → List Value} {k : Nat} (hk : ∀ x, (enc x).length = k) (l : List α) : flatK enc k l.toArray = (l.flatMap enc).toArray := by
  have hsz : (flatK enc k l.toArray).size = (l.flatMap enc).length := by rw [size_flatK, flat_len hk]; simp
  apply Array.ext
  · simpa using hsz
  intro t h1 h2
  have ht : t < l.length * k := by rw [size_flatK] at h1; simpa using h1
  have k0 : 0 < k := by
    rcases Nat.eq_zero_or_pos k with h | h
    · subst h; simp at ht
    · exact h
  have hj : t / k < l.length := Nat.div_lt_of_lt_mul (by rw [Nat.mul_comm]; exact ht)
  have hg := get_flatK enc k l.toArray t (by simpa using ht)
  rw [getElem!_pos _ t h1] at hg
  rw [hg]
  have e1 : l.toArray[t / k]! = l[t / k] := by rw [getElem!_pos _ _ (by simpa using hj)]; simp
  have hm : t % k < (enc l[t / k]).length := by rw [hk]; exact Nat.mod_lt _ k0
  rw [e1, getElem!_pos (enc l[t / k]) (t % k) hm]
  have hf := flat_get hk l (t / k) _ (List.getElem?_eq_getElem hj) (t % k) _ (List.getElem?_eq_getElem hm)
  rw [show t / k * k + t % k = t by rw [Nat.mul_comm]; exact Nat.div_add_mod t k] at hf
  have h3 : t < (l.flatMap enc).length := by simpa using h2
  rw [List.getElem?_eq_getElem h3] at hf
  rw [← Option.some.inj hf]
  simp
theorem take_putCellsF (cur : Array Value) (F : List Value) (h : F.length ≤ cur.size) : (putCells id 0 F.toArray cur).toList.take F.length = F := by
  apply List.ext_getElem?
  intro j
  by_cases hj : j < F.length
  · rw [List.getElem?_take_of_lt hj, Array.getElem?_toList]
    simp [putCells, hj, show j < cur.size by omega]
  · rw [List.getElem?_take_eq_none (by omega), List.getElem?_eq_none (by omega)]
theorem sortF_of {α : Type} [Inhabited α] {P : Program} {f g : FuncId} {fn gn : Func} {c cg : Code} {enc : α → List Value} {k : Nat} {cf : α → α → Int} (hf : P.funcs[f]? = some fn) (hb : fn.body = some c) (hname : (fn.name == "runtime.NumGoroutine") = false)
    (hgf : P.funcs[g]? = some gn) (hgb : gn.body = some cg) (hgn : (gn.name == "runtime.NumGoroutine") = false) (hk : ∀ x, (enc x).length = k)
    (hany : ∀ (blk cap : Nat) (d : Array α) (w : World), Go.Proofs.CmpLays P g #[] enc k cf blk 0 d.size w → HoldsK enc k w blk 0 d → blk < w.heap.size → d.size < 4611686018427387904 →
      Calls P f #[.slice (some ⟨blk, 0, none⟩) d.size cap, fv g] w (fun e w' => e = .returned (.tuple #[]) ∧ ∃ d' n os, PermIn 0 d.size d d' ∧ SortedIn (Go.Proofs.ltOf cf) 0 d.size d' ∧ w' = sortWorldK enc k w blk 0 n d' os))
    (hnone : ∀ (p : Option Addr) (cap : Nat) (w : World), Calls P f #[.slice p 0 cap, fv g] w (fun e w' => e = .returned (.tuple #[]) ∧ w' = w))
    (hc : ∀ x y, Ans P (fv g) [.agg (enc x).toArray, .agg (enc y).toArray] [] (fun r => r = int (cf x y)))
    {e : TypeId} {σ : PH} {v : Value} {l : List α} (hO : OwnS e k v l.length (l.flatMap enc) σ) (hl : l.length < 4611686018427387904) :
    Spec P (fv f) [v, fv g] [] [σ] (fun r H' => r = .tuple #[] ∧ ∃ (m : List α) (σ' : PH), m.Perm l ∧ m.Pairwise (fun x y => ¬ cf y x < 0) ∧ OwnS e k v m.length (m.flatMap enc) σ' ∧ H' = [σ']) := by
  intro N w hs
  obtain ⟨β, hsat, hup⟩ := exists_base hs
  rcases hO.block with ⟨rfl, hl0, rfl⟩ | ⟨b, cap, cur, rfl, rfl, h1, h2, h3, h4⟩
  · subst hl0
    refine calls_v hf hb hname (Calls.mono (hnone none 0 w) ?_)
    rintro _ _ ⟨rfl, rfl⟩
    exact ⟨_, rfl, [emp], ⟨rfl, [], emp, List.Perm.refl _, List.Pairwise.nil, OwnS.nil e k, rfl⟩, hup _ _ hsat⟩
  · have hg : w.heap[b]? = some (.cells cur e (0, 0)) := hs.own .here
    have hblt : b < w.heap.size := (Array.getElem?_eq_some_iff.1 hg).1
    have hle : l.length * k ≤ cap * k := Nat.mul_le_mul_right k h1
    have hH : HoldsK enc k w b 0 l.toArray := by
      unfold HoldsK
      rw [flatK_list hk]
      intro j hj
      simp only [List.size_toArray] at hj
      have hj2 : j < l.length * k := by rwa [flat_len hk] at hj
      have hj' : (cur.toList.take (l.length * k))[j]? = some (l.flatMap enc)[j] := by rw [h4, List.getElem?_eq_getElem hj]
      rw [List.getElem?_take_of_lt hj2, Array.getElem?_toList] at hj'
      refine ⟨?_, ?_⟩
      · rw [cell_of_row w b _ cur e (0, 0) hg, Nat.zero_add, hj']
        congr 1
        show _ = ((l.flatMap enc).toArray)[j]!
        rw [getElem!_pos _ _ (by simpa using hj)]
        simp
      · simp [World.frozen?, hg]
    have hcl : Go.Proofs.CmpLays P g #[] enc k cf b 0 l.toArray.size w := fun m os dk _ x y => by
      have := calls_of (W := sortWorldK enc k w b 0 m dk os) hgf hgb hgn (hc x y)
      simpa using this
    have hany' := hany b cap l.toArray w hcl hH hblt (by simpa using hl)
    rw [List.size_toArray] at hany'
    refine calls_v hf hb hname (Calls.mono hany' ?_)
    rintro _ _ ⟨rfl, d', n, os, hp, hso, rfl⟩
    obtain ⟨m, rfl⟩ : ∃ m : List α, d' = m.toArray := ⟨d'.toList, by simp⟩
    have hsz : m.length = l.length := by have := hp.1; simpa using this
    have hperm : m.Perm l := by
      have := hp.2.2
      rw [show (m.toArray.extract 0 l.length).toList = m by simp [hsz.symm], show (l.toArray.extract 0 l.length).toList = l by simp] at this
      exact this
    have hheap : (sortWorldK enc k w b 0 n m.toArray os).heap = (w.heap.modify b (onCells (putCells id 0 (m.flatMap enc).toArray))) ++ os := by
      unfold sortWorldK putRowK
      rw [flatK_list hk]
      rfl
    refine ⟨_, rfl, [sng b (.cells (putCells id 0 (m.flatMap enc).toArray cur) e (0, 0))], ⟨rfl, m, _, hperm, List.pairwise_iff_getElem.2 (fun i j hi hj hij => ?_), ⟨by rw [flat_len hk], .inr ⟨b, cap, _, by rw [hsz], rfl, by omega, h2, ?_, ?_⟩⟩, rfl⟩, ?_⟩
    · have := hso i j (Nat.zero_le _) hij (by omega)
      rw [getElem!_pos _ i (by simpa using hi), getElem!_pos _ j (by simpa using hj)] at this
      unfold Go.Proofs.ltOf at this
      rw [decide_eq_false_iff_not] at this
      simpa using this
    · simp [putCells, h3]
    · have := take_putCellsF cur (m.flatMap enc) (by rw [flat_len hk, hsz, h3]; exact hle)
      rwa [flat_len hk] at this
    · refine ⟨⟨?_, rfl, rfl, rfl, Nat.le_add_right _ _⟩, fun k' hk' hno => ?_, fun ρ hρ => ?_, by simp, fun ρ hρ k' hk' => ?_⟩
      · rw [hheap]; simp
      · have hne : k' ≠ b := fun he => by
          subst he
          have := hno (sng k' (.cells cur e (0, 0))) (by simp)
          simp [sng_self] at this
        rw [hheap, Array.getElem?_append_left (by simpa using hk'), Array.getElem?_modify, if_neg (Ne.symm hne)]
      · simp at hρ; subst hρ
        intro k' o hk'
        obtain ⟨rfl, rfl⟩ := sng_some hk'
        rw [hheap, Array.getElem?_append_left (by simpa using hblt), Array.getElem?_modify, if_pos rfl, hg]
        rfl
      · simp at hρ; subst hρ
        left
        refine ⟨sng b (.cells cur e (0, 0)), by simp, ?_⟩
        cases hks : sng b (Obj.cells (putCells id 0 (m.flatMap enc).toArray cur) e (0, 0)) k' with
        | none => exact absurd hks hk'
        | some o =>
          obtain ⟨rfl, _⟩ := sng_some hks
          simp [sng_self]
end Go.Eng
/- Labels in lists: the least, those that are left, what is among them, their order. -/
namespace Go.Proofs
open Go.Shelf
def Tryz.layLb_ren : Go.Shelf.Ren := ⟨fun | 6 => 60 | 15 => 111 | 14 => 110 | 28 => 149 | 29 => 150 | 20 => 141 | 21 => 142 | 22 => 143 | 23 => 144 | 24 => 145 | 25 => 146 | 26 => 147 | 27 => 148 | 46 => 171 | 47 => 172 | 48 => 173 | 49 => 174 | 50 => 175 | 57 => 205 | n => n, fun | 22 => 41 | 24 => 77 | 25 => 141 | 3 => 3 | 39 => 208 | 0 => 0 | 53 => 245 | 55 => 247 | 4 => 4 | 46 => 239 | 45 => 238 | 50 => 70 | 5 => 5 | 9 => 9 | 66 => 273 | 70 => 87 | 76 => 314 | 77 => 315 | n => n, fun | n => n⟩
theorem Tryz.layLb : Go.Proofs.SlLaysF0.n6 Tryz.prog Tryz.layLb_ren := {
 mixed := by kernel_rfl
 f6 := ⟨Tryz.f60.name, by decide, Tryz.func60.trans (congrArg some (by kernel_rfl))⟩
 f14 := ⟨Tryz.f110.name, by decide, Tryz.func110.trans (congrArg some (by kernel_rfl))⟩
 f15 := Tryz.func111.trans (congrArg some (by kernel_rfl))
 f20 := ⟨Tryz.f141.name, by decide, Tryz.func141.trans (congrArg some (by kernel_rfl))⟩
 f21 := ⟨Tryz.f142.name, by decide, Tryz.func142.trans (congrArg some (by kernel_rfl))⟩
 f22 := ⟨Tryz.f143.name, by decide, Tryz.func143.trans (congrArg some (by kernel_rfl))⟩
 f23 := ⟨Tryz.f144.name, by decide, Tryz.func144.trans (congrArg some (by kernel_rfl))⟩
 f24 := ⟨Tryz.f145.name, by decide, Tryz.func145.trans (congrArg some (by kernel_rfl))⟩
 f25 := ⟨Tryz.f146.name, by decide, Tryz.func146.trans (congrArg some (by kernel_rfl))⟩
 f26 := ⟨Tryz.f147.name, by decide, Tryz.func147.trans (congrArg some (by kernel_rfl))⟩
 f27 := ⟨Tryz.f148.name, by decide, Tryz.func148.trans (congrArg some (by kernel_rfl))⟩
 f28 := Tryz.func149.trans (congrArg some (by kernel_rfl))
 f29 := Tryz.func150.trans (congrArg some (by kernel_rfl))
 f46 := ⟨Tryz.f171.name, by decide, Tryz.func171.trans (congrArg some (by kernel_rfl))⟩
 f47 := Tryz.func172.trans (congrArg some (by kernel_rfl))
 f48 := Tryz.func173.trans (congrArg some (by kernel_rfl))
 f49 := ⟨Tryz.f174.name, by decide, Tryz.func174.trans (congrArg some (by kernel_rfl))⟩
 f50 := ⟨Tryz.f175.name, by decide, Tryz.func175.trans (congrArg some (by kernel_rfl))⟩
 f57 := ⟨Tryz.f205.name, by decide, Tryz.func205.trans (congrArg some (by kernel_rfl))⟩
 t0 := Tryz.underlying0
 a0 := Tryz.isAgg0
 z0 := Tryz.sizeOf0
 v0 := Tryz.zeroValue0
 t3 := Tryz.underlying3
 a3 := Tryz.isAgg3
 z3 := Tryz.sizeOf3
 v3 := Tryz.zeroValue3
 t4 := Tryz.underlying4
 a4 := Tryz.isAgg4
 z4 := Tryz.sizeOf4
 v4 := Tryz.zeroValue4
 t5 := Tryz.underlying5
 a5 := Tryz.isAgg5
 z5 := Tryz.sizeOf5
 v5 := Tryz.zeroValue5
 t9 := Tryz.underlying9
 a9 := Tryz.isAgg9
 z9 := Tryz.sizeOf9
 v9 := Tryz.zeroValue9
 t22 := Tryz.underlying41
 a22 := Tryz.isAgg41
 z22 := Tryz.sizeOf41
 v22 := Tryz.zeroValue41
 t25 := Tryz.underlying141
 a25 := Tryz.isAgg141
 z25 := Tryz.sizeOf141
 v25 := Tryz.zeroValue141
 t39 := Tryz.underlying208
 a39 := Tryz.isAgg208
 z39 := Tryz.sizeOf208
 v39 := Tryz.zeroValue208
 t45 := Tryz.underlying238
 a45 := Tryz.isAgg238
 z45 := Tryz.sizeOf238
 v45 := Tryz.zeroValue238
 t46 := Tryz.underlying239
 a46 := Tryz.isAgg239
 z46 := Tryz.sizeOf239
 v46 := Tryz.zeroValue239
 t50 := Tryz.underlying70
 a50 := Tryz.isAgg70
 z50 := Tryz.sizeOf70
 v50 := Tryz.zeroValue70
 t53 := Tryz.underlying245
 a53 := Tryz.isAgg245
 z53 := Tryz.sizeOf245
 v53 := Tryz.zeroValue245
 t55 := Tryz.underlying247
 a55 := Tryz.isAgg247
 z55 := Tryz.sizeOf247
 v55 := Tryz.zeroValue247
 t66 := Tryz.underlying273
 a66 := Tryz.isAgg273
 z66 := Tryz.sizeOf273
 v66 := Tryz.zeroValue273
 t70 := Tryz.underlying87
 a70 := Tryz.isAgg87
 z70 := Tryz.sizeOf87
 v70 := Tryz.zeroValue87
 t76 := Tryz.underlying314
 a76 := Tryz.isAgg314
 z76 := Tryz.sizeOf314
 v76 := Tryz.zeroValue314
 t77 := Tryz.underlying315
 a77 := Tryz.isAgg315
 z77 := Tryz.sizeOf315
 v77 := Tryz.zeroValue315 }
end Go.Proofs
namespace Go.Proofs.YtijheemiknkleaaGreatDoor
open Go.Eng Go.Step
set_option maxRecDepth 100000
set_option maxHeartbeats 4000000

theorem lbRow {ρ : PH} {p : Option Addr} {l : List Lb} (h : RowsE encL 4 ρ p l) {i : Nat} {x : Lb} (hx : l[i]? = some x) :
  ∃ b o, p = some ⟨b, o, none⟩ ∧ RdN ρ b (o + i * 4) [int x.n, int x.f, int x.t, int x.a] ∧ rdc ρ b (o + i * 4) = some (int x.n) ∧ rdc ρ b (o + i * 4 + 1) = some (int x.f) ∧ rdc ρ b (o + i * 4 + 2) = some (int x.t) ∧ rdc ρ b (o + i * 4 + 3) = some (int x.a) := by
 obtain ⟨b, o, e, hr⟩ := h i x hx
 exact ⟨b, o, e, hr, hr.get0, hr.get (j := 1) rfl, hr.get (j := 2) rfl, hr.get (j := 3) rfl⟩
set_option maxHeartbeats 8000000 in
theorem same_spec (x y : Lb) : Ans Tryz.prog (fv 57) [.agg #[int x.n, int x.f, int x.t, int x.a], .agg #[int y.n, int y.f, int y.t, int y.a]] [] (fun r => r = .bool (sameL x y)) := by
 refine spec_in (cap := []) Tryz.func57 rfl rfl Tryz.ntmps57 rfl envZ (fun N β => ?_)
 unfold sameL
 by_cases h1 : x.n = y.n
 ·rw [decide_eq_true h1]
  by_cases h2 : x.f = y.f
  ·rw [decide_eq_true h2]
   refine AB ?_
   refine AA ?_
   refine BQ ?_; rintro _ _ ⟨b, rfl, rfl⟩
   refine BQ ?_; rintro _ _ ⟨b, rfl, rfl⟩
   refine AD ?_
   refine AE ?_
   refine AB ?_
   refine AA ?_
   refine AG ?_
   refine AF ?_
   refine AG ?_
   refine AF ?_
   refine CB ?_
   refine AC ?_
   refine AG ?_
   refine AF ?_
   refine AG ?_
   refine AF ?_
   refine CB ?_
   refine AT ?_
   refine AD ?_
   refine AE ?_
   exact AI (res1 rfl rfl) rsubZ selZ ⟨rfl, rfl⟩
  ·rw [decide_eq_false h2]
   refine AB ?_
   refine AA ?_
   refine BQ ?_; rintro _ _ ⟨b, rfl, rfl⟩
   refine BQ ?_; rintro _ _ ⟨b, rfl, rfl⟩
   refine AD ?_
   refine AE ?_
   refine AB ?_
   refine AA ?_
   refine AG ?_
   refine AF ?_
   refine AG ?_
   refine AF ?_
   refine CB ?_
   refine AC ?_
   refine AG ?_
   refine AF ?_
   refine AG ?_
   refine AF ?_
   refine B4 ?_
   refine AT ?_
   refine AD ?_
   refine AE ?_
   exact AI (res1 rfl rfl) rsubZ selZ ⟨rfl, rfl⟩
 ·rw [decide_eq_false h1]
  refine AB ?_
  refine AA ?_
  refine BQ ?_; rintro _ _ ⟨b, rfl, rfl⟩
  refine BQ ?_; rintro _ _ ⟨b, rfl, rfl⟩
  refine AD ?_
  refine AE ?_
  refine AB ?_
  refine AA ?_
  refine AG ?_
  refine AF ?_
  refine AG ?_
  refine AF ?_
  refine B4 ?_
  refine AC ?_
  refine AJ rfl rfl rfl ?_
  refine AJ rfl rfl rfl ?_
  refine AJ rfl rfl rfl ?_
  refine AJ rfl rfl rfl ?_
  refine AJ rfl rfl rfl ?_
  refine AK ?_
  refine AD ?_
  refine AE ?_
  exact AI (res1 rfl rfl) rsubZ selZ ⟨rfl, rfl⟩
theorem del1_spec (b7 : Nat) (x y : Lb) : Ans Tryz.prog (.func (.func 56) #[] #[.pointer (some ⟨b7, 0, none⟩)]) [.agg #[int y.n, int y.f, int y.t, int y.a]] [sng b7 (.cells #[int x.n, int x.f, int x.t, int x.a] 77 (0, 0))] (fun r => r = .bool (sameL x y)) := by
 have hs := same_spec x y
 have cb : RdN (sng b7 (.cells #[int x.n, int x.f, int x.t, int x.a] 77 (0, 0))) b7 0 [int x.n, int x.f, int x.t, int x.a] := rdN_sng (vs := [int x.n, int x.f, int x.t, int x.a])
 refine spec_in (cap := [.pointer (some ⟨b7, 0, none⟩)]) Tryz.func56 rfl rfl Tryz.ntmps56 rfl envZ (fun N β => ?_)
 refine AB ?_
 refine AA ?_
 refine BQ ?_; rintro _ _ ⟨b, rfl, rfl⟩
 refine AD ?_
 refine AE ?_
 refine AB ?_
 refine AA ?_
 refine AN ?_
 refine AN ?_
 refine A3 hs rfl rfl rdZ rfl rfl ?_
 rintro _ rfl
 refine AD ?_
 refine AE ?_
 exact AI (res1 rfl rfl) rsubZ selZ ⟨rfl, rfl⟩
theorem in2_spec (b8 : Nat) (m : Lb × Hp) (y : Lb) : Ans Tryz.prog (.func (.func 59) #[] #[.pointer (some ⟨b8, 0, none⟩)]) [.agg #[int y.n, int y.f, int y.t, int y.a]] [sng b8 (.cells #[int m.1.n, int m.1.f, int m.1.t, int m.1.a, int m.2.c, int m.2.b, int m.2.e, int m.2.a] 137 (0, 0))] (fun r => r = .bool (sameL m.1 y)) := by
 have hs := same_spec m.1 y
 have cb : RdP (sng b8 (.cells #[int m.1.n, int m.1.f, int m.1.t, int m.1.a, int m.2.c, int m.2.b, int m.2.e, int m.2.a] 137 (0, 0))) b8 0 [int m.1.n, int m.1.f, int m.1.t, int m.1.a] := rdP_sng (xs := [int m.1.n, int m.1.f, int m.1.t, int m.1.a, int m.2.c, int m.2.b, int m.2.e, int m.2.a]) rfl
 refine spec_in (cap := [.pointer (some ⟨b8, 0, none⟩)]) Tryz.func59 rfl rfl Tryz.ntmps59 rfl envZ (fun N β => ?_)
 refine AB ?_
 refine AA ?_
 refine BQ ?_; rintro _ _ ⟨b, rfl, rfl⟩
 refine AD ?_
 refine AE ?_
 refine AB ?_
 refine AA ?_
 refine AG ?_
 refine AN ?_
 refine AN ?_
 refine A3 hs rfl rfl rdZ rfl rfl ?_
 rintro _ rfl
 refine AD ?_
 refine AE ?_
 exact AI (res1 rfl rfl) rsubZ selZ ⟨rfl, rfl⟩
def cmpL (x y : Lb) : Int := orI [cmpI x.a y.a, cmpI x.n y.n, cmpI x.f y.f]
set_option maxHeartbeats 16000000 in
theorem cmpL_spec (x y : Lb) : Ans Tryz.prog (fv 54) [.agg #[int x.n, int x.f, int x.t, int x.a], .agg #[int y.n, int y.f, int y.t, int y.a]] [] (fun r => r = int (cmpL x y)) := by
 refine spec_in (cap := []) Tryz.func54 rfl rfl Tryz.ntmps54 rfl envZ (fun N β => ?_)
 refine AB ?_
 refine AA ?_
 refine BQ ?_; rintro _ _ ⟨b, rfl, rfl⟩
 refine BQ ?_; rintro _ _ ⟨b, rfl, rfl⟩
 refine AD ?_
 refine AE ?_
 refine AB ?_
 refine BA (.q 0 (.q 1 (.q 2 (.q 3 (.q 5 (.q 6 (.q 7 (.q 8 (.q 10 (.q 11 (.q 12 (.q 13 (.l 4 .e (.l 9 .e (.l 14 .e (.l 15 .e (.l 16 .e (.q 17 .nil)))))))))))))))))) [] rfl (by kernel_rfl) selZ ?_
 refine AW ?_
 refine AP ?_
 refine AW ?_
 refine AP ?_
 refine AW ?_
 refine AP ?_
 refine AW ?_
 refine AP ?_
 refine AW ?_
 refine AP ?_
 refine AW ?_
 refine AP ?_
 focus ((refine CJ (BY rfl (cmpI_spec _ _) rfl rfl rdZ rfl rfl ?_); rintro _ rfl))
 focus ((refine CJ (BY rfl (cmpI_spec _ _) rfl rfl rdZ rfl rfl ?_); rintro _ rfl))
 focus ((refine CJ (BY rfl (cmpI_spec _ _) rfl rfl rdZ rfl rfl ?_); rintro _ rfl))
 refine B0 ?_; rintro _ _ ⟨b, rfl, rfl⟩
 revert b; intro bo
 refine CJ (BY rfl (or_spec (sng bo _) _ [cmpI x.a y.a, cmpI x.n y.n, cmpI x.f y.f] (slE_sng Eng.encI_len) (by simp)) rfl rfl rdZ rfl rfl ?_)
 rintro _ rfl
 refine B7 ?_
 refine A7 ?_
 skip
 exact AI (res1 rfl rfl) rsubZ selZ ⟨rfl, rfl⟩
theorem ownRow {α : Type} {enc : α → List Value} {s : Nat} (he : ∀ x, (enc x).length = s) {e : TypeId} {b n cap : Nat} {l : List α} {ρ : PH} (h : OwnS e s (.slice (some ⟨b, 0, none⟩) n cap) l.length (l.flatMap enc) ρ) {i : Nat} {x : α} (hx : l[i]? = some x) : RdN ρ b (0 + i * s) (enc x) := by
 have hS : SlE enc s ρ (.slice (some ⟨b, 0, none⟩) n cap) l := h.at
 obtain ⟨p, c, e1, hr⟩ := hS.val he
 simp only [Value.slice.injEq] at e1
 obtain ⟨b', o', e2, h2⟩ := hr i x hx
 rw [← e1.1] at e2
 simp only [Option.some.injEq, Addr.mk.injEq, and_true] at e2
 obtain ⟨rfl, rfl⟩ := e2
 exact h2
theorem indexL_spec (ρ : PH) (v : Value) (l : List Lb) (hv : SlE encL 4 ρ v l) (hl : l.length ≤ 1000000) (fn : Value) (p : Lb → Bool) (Rr : List PH) (hf : ∀ x : Lb, Ans Tryz.prog fn [.agg #[int x.n, int x.f, int x.t, int x.a]] Rr (fun r => r = .bool (p x))) :
  Ans Tryz.prog (fv 109) [v, fn] (ρ :: Rr) (fun r => (∃ k : Nat, r = int k ∧ k < l.length ∧ (∀ x ∈ l.take k, p x = false) ∧ ∀ x, l[k]? = some x → p x = true) ∨ (r = int (-1) ∧ ∀ x ∈ l, p x = false)) := by
 obtain ⟨q, c, rfl, hr⟩ := hv.val encL_len
 refine spec_in (cap := []) Tryz.func109 rfl rfl Tryz.ntmps109 rfl envZ (fun N β => ?_)
 refine AB ?_
 refine AA ?_
 refine AD ?_
 refine AE ?_
 refine AB ?_
 refine AB ?_
 refine AA ?_
 refine AC ?_
 refine AY ?_
 refine AC ?_
 refine AE ?_
 refine AV ?_
 refine BM [0, 1, 6, 7] (0 : Nat) (fun k => k ≤ l.length ∧ ∀ x ∈ l.take k, p x = false) (fun k => [(8, int k)]) (fun _ => []) (fun k => l.length - k) pickZ ⟨by omega, by simp⟩ covZ selZ ?_
 rintro k ⟨hk, hp⟩
 by_cases hlt : k < l.length
 ·have hx := List.getElem?_eq_getElem hlt
  have t1 := List.take_succ_eq_append_getElem hlt
  obtain ⟨b7, o7, rfl, hrd, g0, g1, g2, g3⟩ := lbRow hr hx
  have hfx := hf l[k]
  have hpx : ∀ x, l[k]? = some x → x = l[k] := fun x h => by rw [hx] at h; simpa using h.symm
  generalize l[k] = x at hx t1 hrd g0 g1 g2 g3 hfx hpx
  clear g0 g1 g2 g3
  cases hpp : p x with
  | true =>
   rw [hpp] at hfx
   refine AB ?_
   refine AA ?_
   refine BI ?_
   refine AE ?_
   refine AB ?_
   refine AQ rfl ?_
   refine AL ?_
   refine AB ?_
   refine AV ?_
   refine AB ?_
   refine AA ?_
   refine AC ?_
   refine AD ?_
   refine AE ?_
   refine AB ?_
   refine AA ?_
   refine AC ?_
   refine AC ?_
   refine AC ?_
   refine A9 ?_
   refine AN ?_
   refine A3 hfx rfl rfl (fun τ hτ => .inl (by simp [hτ])) rfl rfl ?_
   rintro _ rfl
   refine AE ?_
   refine AQ rfl ?_
   refine AB ?_
   refine AA ?_
   refine AC ?_
   refine AD ?_
   refine AE ?_
   exact AI (res1 rfl rfl) rsubZ selZ ⟨rfl, .inl ⟨k, rfl, hlt, hp, fun y hy => by rw [hpx y hy]; exact hpp⟩⟩
  | false =>
   rw [hpp] at hfx
   refine AB ?_
   refine AA ?_
   refine BI ?_
   refine AE ?_
   refine AB ?_
   refine AQ rfl ?_
   refine AL ?_
   refine AB ?_
   refine AV ?_
   refine AB ?_
   refine AA ?_
   refine AC ?_
   refine AD ?_
   refine AE ?_
   refine AB ?_
   refine AA ?_
   refine AC ?_
   refine AC ?_
   refine AC ?_
   refine A9 ?_
   refine AN ?_
   refine A3 hfx rfl rfl (fun τ hτ => .inl (by simp [hτ])) rfl rfl ?_
   rintro _ rfl
   refine AE ?_
   refine AM rfl ?_
   refine AL ?_
   refine A8 ?_
   refine AA ?_
   refine BD ?_
   refine AC ?_
   refine AE ?_
   refine A5 (k + 1) ⟨by omega, fun y hy => ?_⟩ (by omega) covZ selZ
   rw [t1, List.mem_append, List.mem_singleton] at hy
   rcases hy with hy | rfl
   ·exact hp y hy
   ·exact hpp
 ·have hke : k = l.length := by omega
  subst hke
  rw [List.take_length] at hp
  refine AB ?_
  refine AA ?_
  refine AZ ?_
  refine AE ?_
  refine AB ?_
  refine AM rfl ?_
  refine BE rfl ?_
  refine AB ?_
  refine AA ?_
  refine AD ?_
  refine AE ?_
  exact AI (res1 rfl rfl) rsubZ selZ ⟨rfl, .inr ⟨rfl, hp⟩⟩
theorem shortL_own {e : TypeId} {s b n cap i : Nat} {xs : List Value} {ρ : PH} (h : OwnS e s (.slice (some ⟨b, 0, none⟩) n cap) n xs ρ) (hi : i ≤ n) : OwnS e s (.slice (some ⟨b, 0, none⟩) i cap) i (xs.take (i * s)) ρ := by
 have hxl : xs.length = n * s := h.1
 have hle : i * s ≤ n * s := Nat.mul_le_mul_right s hi
 obtain ⟨cur, rfl, h1, h2, h3, h4⟩ := h.cells_at
 refine ⟨by rw [List.length_take]; omega, .inr ⟨b, cap, cur, rfl, rfl, by omega, h2, h3, ?_⟩⟩
 rw [← h4, List.take_take, Nat.min_eq_left hle]
theorem filtL_next (p : Lb → Bool) {l : List Lb} {k : Nat} {x : Lb} (h : l[k]? = some x) : (l.take (k + 1)).filter (fun y => !p y) = (l.take k).filter (fun y => !p y) ++ (if p x = true then [] else [x]) := by
 obtain ⟨hk, rfl⟩ := List.getElem?_eq_some_iff.1 h
 rw [List.take_succ_eq_append_getElem hk, List.filter_append]
 congr 1
 cases hp : p l[k] <;> simp [hp]
structure DelL (p : Lb → Bool) (l : List Lb) (i j : Nat) (m : List Lb) : Prop where
 a : i < j
 b : j ≤ l.length
 c : m.length = l.length
 d : m.take i = (l.take j).filter (fun y => !p y)
 e : ∀ k, j ≤ k → m[k]? = l[k]?
theorem DelL.skip {p : Lb → Bool} {l m : List Lb} {i j : Nat} (h : DelL p l i j m) {x : Lb} (hx : m[j]? = some x) (hp : p x = true) (hj : j < l.length) : DelL p l i (j + 1) m := by
 refine ⟨by have := h.a; omega, hj, h.c, ?_, fun k hk => h.e k (by omega)⟩
 rw [h.e j (Nat.le_refl _)] at hx
 rw [filtL_next p hx, if_pos hp, List.append_nil, h.d]
theorem DelL.keep {p : Lb → Bool} {l m : List Lb} {i j : Nat} (h : DelL p l i j m) {x : Lb} (hx : m[j]? = some x) (hp : p x = false) (hj : j < l.length) : DelL p l (i + 1) (j + 1) (m.set i x) := by
 have ha := h.a
 have hc := h.c
 refine ⟨by omega, hj, by rw [List.length_set, hc], ?_, fun k hk => ?_⟩
 ·rw [h.e j (Nat.le_refl _)] at hx
  rw [filtL_next p hx, if_neg (by rw [hp]; simp), ← h.d, List.take_succ_eq_append_getElem (by rw [List.length_set]; omega), List.getElem_set_self]
  congr 1
  rw [List.take_set_of_le (Nat.le_refl _)]
 ·rw [List.getElem?_set_ne (by omega)]
  exact h.e k (by omega)
set_option maxHeartbeats 16000000 in
theorem deleteL_spec (σ : PH) (v : Value) (l : List Lb) (hO : OwnS 77 4 v l.length (l.flatMap encL) σ) (hl : l.length ≤ 1000000) (fn : Value) (p : Lb → Bool) (Rr : List PH) (hf : ∀ x : Lb, Ans Tryz.prog fn [.agg #[int x.n, int x.f, int x.t, int x.a]] Rr (fun r => r = .bool (p x))) :
  Eng.Spec Tryz.prog (fv 55) [v, fn] Rr [σ] (fun r H' => ∃ σ', OwnS 77 4 r (l.filter (fun y => !p y)).length ((l.filter (fun y => !p y)).flatMap encL) σ' ∧ H' = [σ']) := by
 have hat : SlE encL 4 σ v l := hO.at
 obtain ⟨q, c, rfl, _⟩ := hat.val encL_len
 have hidx := indexL_spec σ _ l hat hl fn p Rr hf
 refine spec_in (cap := []) Tryz.func55 rfl rfl Tryz.ntmps55 rfl envZ (fun N β => ?_)
 refine AB ?_
 refine AA ?_
 refine AD ?_
 refine AE ?_
 refine AB ?_
 refine AA ?_
 refine AC ?_
 refine AC ?_
 refine A3 hidx rfl rfl (fun τ hτ => by rcases List.mem_cons.1 hτ with rfl | h2; exact .inr (by simp); exact .inl (by simp [h2])) rfl rfl ?_
 rintro _ (⟨k, rfl, hk, hp0, hp1⟩ | ⟨rfl, hp0⟩)
 rotate_left
 ·refine AD ?_
  refine AE ?_
  refine AB ?_
  refine AB ?_
  refine AA ?_
  refine AC ?_
  refine CB ?_
  refine AE ?_
  refine AQ rfl ?_
  refine AB ?_
  refine AA ?_
  refine AC ?_
  refine AD ?_
  refine AE ?_
  refine AI (res1 rfl rfl) rsubZ selZ ⟨σ, ?_, rfl⟩
  rw [List.filter_eq_self.2 (fun x hx => by rw [hp0 x hx]; rfl)]
  exact hO
 have hx0 := List.getElem?_eq_getElem hk
 have hI0 : DelL p l k (k + 1) l := by
  refine ⟨by omega, by omega, rfl, ?_, fun _ _ => rfl⟩
  rw [filtL_next p hx0, if_pos (hp1 _ hx0), List.append_nil, List.filter_eq_self.2 (fun x hx => by rw [hp0 x hx]; rfl)]
 rcases hO.block with ⟨_, h2, _⟩ | ⟨b, cap, cur, e, _, hcap, _⟩
 ·rw [h2] at hk; simp at hk
 simp only [Value.slice.injEq] at e
 obtain ⟨rfl, _, rfl⟩ := e
 clear hidx hp0 hp1 hx0 hat
 refine AD ?_
 refine AE ?_
 refine AB ?_
 refine AB ?_
 refine AA ?_
 refine AC ?_
 refine B4 ?_
 refine AE ?_
 refine AM rfl ?_
 refine AL ?_
 refine AB ?_
 refine AB ?_
 refine AA ?_
 refine AC ?_
 refine BD ?_
 refine AD ?_
 refine AE ?_
 refine AV ?_
 refine BM [0, 1] (X := (Nat × Nat) × (List Lb × PH)) ((k, k + 1), (l, σ)) (fun x => DelL p l x.1.1 x.1.2 x.2.1 ∧ OwnS 77 4 (.slice (some ⟨b, 0, none⟩) l.length c) l.length (x.2.1.flatMap encL) x.2.2) (fun x => [(5, int x.1.1), (6, int x.1.2)]) (fun x => [x.2.2]) (fun x => l.length - x.1.2) pickZ ⟨hI0, hO⟩ covZ selZ ?_
 rintro ⟨⟨i, j⟩, ⟨m, σ1⟩⟩ ⟨hI, hO1⟩
 dsimp only at hI hO1 ⊢
 have ha := hI.a
 have hb := hI.b
 have hcl := hI.c
 by_cases hlt : j < l.length
 ·have hx := List.getElem?_eq_getElem (show j < m.length by omega)
  have hO2 : OwnS 77 4 (.slice (some ⟨b, 0, none⟩) m.length c) m.length (m.flatMap encL) σ1 := by rw [hcl]; exact hO1
  have r1 := ownRow encL_len hO2 hx
  have hfx := hf m[j]
  generalize m[j] = x at hx r1 hfx
  cases hpp : p x with
  | true =>
   rw [hpp] at hfx
   have hI2 := hI.skip hx hpp hlt
   refine AB ?_
   refine AB ?_
   refine AA ?_
   refine AC ?_
   refine AC ?_
   refine AY ?_
   refine BI ?_
   refine AE ?_
   refine AQ rfl ?_
   refine AL ?_
   refine AB ?_
   refine AV ?_
   refine AB ?_
   refine AA ?_
   refine AC ?_
   refine AC ?_
   refine A9 ?_
   refine AN ?_
   refine A4 ?_; rintro _ _ ⟨b, rfl, rfl⟩
   refine A2 ?_; rintro _ _ ⟨rfl, rfl⟩
   refine AE ?_
   refine AB ?_
   refine AA ?_
   refine AC ?_
   refine AN ?_
   refine A3 hfx rfl rfl (fun τ hτ => .inl (by simp [hτ])) rfl rfl ?_
   rintro _ rfl
   refine BZ ?_
   refine AE ?_
   refine AM rfl ?_
   refine AL ?_
   refine A8 ?_
   refine AA ?_
   refine AC ?_
   refine BD ?_
   refine AD ?_
   refine AE ?_
   exact A5 ((i, j + 1), (m, σ1)) ⟨hI2, hO1⟩ (by dsimp only; omega) covZ selZ
  | false =>
   rw [hpp] at hfx
   have hI2 := hI.keep hx hpp hlt
   refine AB ?_
   refine AB ?_
   refine AA ?_
   refine AC ?_
   refine AC ?_
   refine AY ?_
   refine BI ?_
   refine AE ?_
   refine AQ rfl ?_
   refine AL ?_
   refine AB ?_
   refine AV ?_
   refine AB ?_
   refine AA ?_
   refine AC ?_
   refine AC ?_
   refine A9 ?_
   refine AN ?_
   refine A4 ?_; rintro _ _ ⟨b, rfl, rfl⟩
   refine A2 ?_; rintro _ _ ⟨rfl, rfl⟩
   refine AE ?_
   refine AB ?_
   refine AA ?_
   refine AC ?_
   refine AN ?_
   refine A3 hfx rfl rfl (fun τ hτ => .inl (by simp [hτ])) rfl rfl ?_
   rintro _ rfl
   refine BZ ?_
   refine AE ?_
   refine AQ rfl ?_
   refine AB ?_
   refine AA ?_
   refine AC ?_
   refine AC ?_
   refine AN ?_
   refine A9 ?_
   refine CI (EV encL_len (a := x) i hO2 rfl (Nat.zero_add _) rfl (by unfold encL; exact (by (repeat (first | exact (fun v hv => absurd hv List.not_mem_nil) | (refine List.forall_mem_cons.2 ⟨?_, ?_⟩; (focus (first | exact rfl | assumption))))); first | done | fail)) rfl takeZ (by omega)) rfl rfl ?_
   rintro _ _ ⟨rfl, σ2, hO3, rfl⟩
   refine AE ?_
   refine AA ?_
   refine AC ?_
   refine BD ?_
   refine AD ?_
   refine AE ?_
   refine A8 ?_
   refine AA ?_
   refine AC ?_
   refine BD ?_
   refine AD ?_
   refine AE ?_
   refine A5 ((i + 1, j + 1), (m.set i x, σ2)) ⟨hI2, ?_⟩ (by dsimp only; omega) covZ selZ
   dsimp only
   rw [List.length_set, hcl] at hO3
   exact hO3
 ·have hje : j = l.length := by omega
  have hd := hI.d
  rw [hje, List.take_length] at hd
  have hlen : (l.filter (fun y => !p y)).length = i := by rw [← hd, List.length_take]; omega
  have hO4 := shortL_own hO1 (i := i) (by omega)
  refine AB ?_
  refine AB ?_
  refine AA ?_
  refine AC ?_
  refine AC ?_
  refine AY ?_
  refine AZ ?_
  refine AE ?_
  refine AM rfl ?_
  refine BE rfl ?_
  refine AB ?_
  refine AA ?_
  refine AC ?_
  refine AC ?_
  refine EY ?_
  refine CI (EZ (by_ := 32) (s := 4) (n := i) rfl rfl rfl rfl rfl rfl (by intro u hu; have hu2 : u ∈ [int 0, int 0, int 0, int 0] := hu; simp at hu2; rw [hu2]; rfl) hO4 takeZ (by omega) (by omega)) rfl rfl ?_
  rintro _ _ ⟨rfl, σ2, hO5, rfl⟩
  refine AE ?_
  refine AB ?_
  refine AA ?_
  refine AC ?_
  refine AC ?_
  refine D5 ?_
  refine AD ?_
  refine AE ?_
  refine AI (res1 rfl rfl) rsubZ selZ ⟨σ2, ?_, rfl⟩
  rw [hlen, ← hd, flat_take encL_len]
  simp only [cutP_zero]
  exact hO5
theorem contL_spec (ρ : PH) (v : Value) (l : List Lb) (hv : SlE encL 4 ρ v l) (hl : l.length ≤ 1000000) (fn : Value) (p : Lb → Bool) (Rr : List PH) (hf : ∀ x : Lb, Ans Tryz.prog fn [.agg #[int x.n, int x.f, int x.t, int x.a]] Rr (fun r => r = .bool (p x))) :
  Ans Tryz.prog (fv 58) [v, fn] (ρ :: Rr) (fun r => r = .bool (l.any p)) := by
 have hix := indexL_spec ρ v l hv hl fn p Rr hf
 obtain ⟨q, c, rfl, hr⟩ := hv.val encL_len
 refine spec_in (cap := []) Tryz.func58 rfl rfl Tryz.ntmps58 rfl envZ (fun N β => ?_)
 refine AB ?_
 refine AA ?_
 refine AD ?_
 refine AE ?_
 refine AB ?_
 refine AA ?_
 refine AC ?_
 refine AC ?_
 refine A3 hix rfl rfl (fun τ hτ => .inl (List.mem_cons_of_mem _ hτ)) rfl rfl ?_
 rintro _ (⟨k, rfl, hk, _, hp⟩ | ⟨rfl, hall⟩)
 ·have hfl : l.any p = true := List.any_eq_true.2 ⟨_, List.getElem_mem hk, hp _ (List.getElem?_eq_getElem hk)⟩
  refine CL ?_
  refine AD ?_
  refine AE ?_
  exact AI (res1 rfl rfl) rsubZ selZ ⟨rfl, by rw [hfl]⟩
 ·have hfl : l.any p = false := List.any_eq_false.2 (fun x hx => by rw [hall x hx]; simp)
  refine BN ?_
  refine AD ?_
  refine AE ?_
  exact AI (res1 rfl rfl) rsubZ selZ ⟨rfl, by rw [hfl]⟩
end Go.Proofs.YtijheemiknkleaaGreatDoor
