/- Texts of this proof, one after the other; no conditions. -/
import Derived.Test.YthdoegkjifgegaaGreatRows
import Derived.Test.YthdoegkjifgegaaGreatWB7
import Derived.Test.YthdoegkjifgegaaGreatWB3
import Derived.Test.YthdoegkjifgegaaGreatWB1
import Derived.Test.YthdoegkjifgegaaGreatWB6
import Derived.Test.YthdoegkjifgegaaGreatWB5
set_option linter.all false
/- The arcs, one after the other. -/
namespace Go.Proofs.YthdoegkjifgegaaGreat
open Go.Eng Go.Step
set_option maxRecDepth 100000
set_option maxHeartbeats 4000000

def encEA (x : EA) : List Value := [.agg #[int x.a.f, int x.a.t, int x.a.c, int x.c, int x.t]]
theorem arcs_spec (bw : Nat) :
  Eng.Spec Tryz.prog (fv 45) [.pointer (some ⟨bw, 0, none⟩)] [] [] (fun r H' => ∃ c1, r = .func (.func 89) #[] #[.pointer (some ⟨c1, 0, none⟩)] ∧ H' = [sng c1 (.cells #[.pointer (some ⟨bw, 0, none⟩)] 84 (0, 0))]) := by
 refine spec_in (cap := []) Tryz.func45 rfl rfl Tryz.ntmps45 rfl envZ (fun N β => ?_)
 refine AD ?_
 refine AA ?_
 refine BC (CZ rfl rfl) rfl rfl rfl ?_
 rintro _ _ ⟨c1, rfl, rfl⟩
 refine AC ?_
 refine AE ?_
 refine AD ?_
 refine AA ?_
 refine BU ?_
 refine AC ?_
 refine AE ?_
 exact AI (res1 rfl rfl) rsubZ selZ ⟨c1, rfl, rfl⟩
theorem numAt_get {d : Dm} {N : Nat} {M : List (List Int × Value)} (h : NumAt d N d.r M) {n t : Int} (h0 : 0 ≤ n) (hn : n < N) (h1 : d.r ≤ t) (h2 : t ≤ d.e) : mgetS [n, t] M = some (int (vtx d n t)) := by
 rw [h.2, if_pos (by omega)]
set_option maxHeartbeats 64000000 in
theorem arcs_iter {ρ τ σ υ : PH} {pq pc pb ph : Option Addr} {kq kc kb kh : Nat} {qs : List Int} {cs : List Ct} {bs : List Bk} {hs : List Hd} (hT : TbAt ρ τ σ υ pq pc pb ph kq kc kb kh qs cs bs hs) (bw bm c1 kp : Nat) (pl : Option Addr) (χ : PH) (M : List (List Int × Value)) (d : Dm) (h : VOk qs cs bs hs d) (h0 : chkB qs cs bs = 0) (hpl : SlE encS 2 χ (.slice pl (placesA d qs.length).length kp) (placesA d qs.length)) (hM : NumAt d qs.length d.r M) :
  Iter Tryz.prog (.func (.func 89) #[] #[.pointer (some ⟨c1, 0, none⟩)]) [sng c1 (.cells #[.pointer (some ⟨bw, 0, none⟩)] 84 (0, 0)), sng bw (.cells #[.slice pq qs.length kq, .slice pc cs.length kc, .slice pb bs.length kb, .slice ph hs.length kh, int d.s, int d.d, int d.v, int d.r, int d.e, .slice pl (placesA d qs.length).length kp, .map (some bm)] 97 (0, 0)), sng bm (mapS M), χ, ρ, τ, σ, υ] ((arcsE qs cs bs hs d).map encEA) := by
 intro y S Own Inv Stop Ry hy hyl σ0 hI0
 obtain ⟨yl, rfl⟩ := hyl
 have hdm := h.dm
 unfold okDm at hdm
 have hnq := h.nq
 have hnc := h.nc
 have hMl := hM.1
 have hW : 2 ≤ (wd d).toNat ∧ (wd d).toNat = (d.e - d.r).toNat + 1 := by unfold wd; omega
 have hplen := placesA_len (d := d) (by omega) qs.length
 have hpb : (placesA d qs.length).length ≤ 1616 := by
  have := h.vs
  unfold vsN at this
  omega
 obtain ⟨_, _, ep, hrp⟩ := hpl.val encS_len
 simp only [Value.slice.injEq] at ep
 obtain ⟨rfl, _, rfl⟩ := ep
 have w0 : rdc (sng bw (.cells #[.slice pq qs.length kq, .slice pc cs.length kc, .slice pb bs.length kb, .slice ph hs.length kh, int d.s, int d.d, int d.v, int d.r, int d.e, .slice pl (placesA d qs.length).length kp, .map (some bm)] 97 (0, 0))) bw 0 = some (.slice pq qs.length kq) := by rw [rdc_sng]; rfl
 have w1 : rdc (sng bw (.cells #[.slice pq qs.length kq, .slice pc cs.length kc, .slice pb bs.length kb, .slice ph hs.length kh, int d.s, int d.d, int d.v, int d.r, int d.e, .slice pl (placesA d qs.length).length kp, .map (some bm)] 97 (0, 0))) bw 1 = some (.slice pc cs.length kc) := by rw [rdc_sng]; rfl
 have w2 : rdc (sng bw (.cells #[.slice pq qs.length kq, .slice pc cs.length kc, .slice pb bs.length kb, .slice ph hs.length kh, int d.s, int d.d, int d.v, int d.r, int d.e, .slice pl (placesA d qs.length).length kp, .map (some bm)] 97 (0, 0))) bw 2 = some (.slice pb bs.length kb) := by rw [rdc_sng]; rfl
 have w3 : rdc (sng bw (.cells #[.slice pq qs.length kq, .slice pc cs.length kc, .slice pb bs.length kb, .slice ph hs.length kh, int d.s, int d.d, int d.v, int d.r, int d.e, .slice pl (placesA d qs.length).length kp, .map (some bm)] 97 (0, 0))) bw 3 = some (.slice ph hs.length kh) := by rw [rdc_sng]; rfl
 have w4 : rdc (sng bw (.cells #[.slice pq qs.length kq, .slice pc cs.length kc, .slice pb bs.length kb, .slice ph hs.length kh, int d.s, int d.d, int d.v, int d.r, int d.e, .slice pl (placesA d qs.length).length kp, .map (some bm)] 97 (0, 0))) bw 4 = some (int d.s) := by rw [rdc_sng]; rfl
 have w5 : rdc (sng bw (.cells #[.slice pq qs.length kq, .slice pc cs.length kc, .slice pb bs.length kb, .slice ph hs.length kh, int d.s, int d.d, int d.v, int d.r, int d.e, .slice pl (placesA d qs.length).length kp, .map (some bm)] 97 (0, 0))) bw 5 = some (int d.d) := by rw [rdc_sng]; rfl
 have w6 : rdc (sng bw (.cells #[.slice pq qs.length kq, .slice pc cs.length kc, .slice pb bs.length kb, .slice ph hs.length kh, int d.s, int d.d, int d.v, int d.r, int d.e, .slice pl (placesA d qs.length).length kp, .map (some bm)] 97 (0, 0))) bw 6 = some (int d.v) := by rw [rdc_sng]; rfl
 have w7 : rdc (sng bw (.cells #[.slice pq qs.length kq, .slice pc cs.length kc, .slice pb bs.length kb, .slice ph hs.length kh, int d.s, int d.d, int d.v, int d.r, int d.e, .slice pl (placesA d qs.length).length kp, .map (some bm)] 97 (0, 0))) bw 7 = some (int d.r) := by rw [rdc_sng]; rfl
 have w8 : rdc (sng bw (.cells #[.slice pq qs.length kq, .slice pc cs.length kc, .slice pb bs.length kb, .slice ph hs.length kh, int d.s, int d.d, int d.v, int d.r, int d.e, .slice pl (placesA d qs.length).length kp, .map (some bm)] 97 (0, 0))) bw 8 = some (int d.e) := by rw [rdc_sng]; rfl
 have w9 : rdc (sng bw (.cells #[.slice pq qs.length kq, .slice pc cs.length kc, .slice pb bs.length kb, .slice ph hs.length kh, int d.s, int d.d, int d.v, int d.r, int d.e, .slice pl (placesA d qs.length).length kp, .map (some bm)] 97 (0, 0))) bw 9 = some (.slice pl (placesA d qs.length).length kp) := by rw [rdc_sng]; rfl
 have w10 : rdc (sng bw (.cells #[.slice pq qs.length kq, .slice pc cs.length kc, .slice pb bs.length kb, .slice ph hs.length kh, int d.s, int d.d, int d.v, int d.r, int d.e, .slice pl (placesA d qs.length).length kp, .map (some bm)] 97 (0, 0))) bw 10 = some (.map (some bm)) := by rw [rdc_sng]; rfl
 have wp : RdP (sng bw (.cells #[.slice pq qs.length kq, .slice pc cs.length kc, .slice pb bs.length kb, .slice ph hs.length kh, int d.s, int d.d, int d.v, int d.r, int d.e, .slice pl (placesA d qs.length).length kp, .map (some bm)] 97 (0, 0))) bw 0 [.slice pq qs.length kq, .slice pc cs.length kc] := rdP_sng (xs := [.slice pq qs.length kq, .slice pc cs.length kc, .slice pb bs.length kb, .slice ph hs.length kh, int d.s, int d.d, int d.v, int d.r, int d.e, .slice pl (placesA d qs.length).length kp, .map (some bm)]) rfl
 have v1 : rdc (sng c1 (.cells #[.pointer (some ⟨bw, 0, none⟩)] 84 (0, 0))) c1 0 = some (.pointer (some ⟨bw, 0, none⟩)) := by rw [rdc_sng]; rfl
 simp only [List.cons_append, List.nil_append]
 refine spec_in (cap := [.pointer (some ⟨c1, 0, none⟩)]) Tryz.func89 rfl rfl Tryz.ntmps89 rfl envZ (fun N β => ?_)
 refine AD ?_
 refine AA ?_
 refine BC (CZ rfl rfl) rfl rfl rfl ?_
 rintro _ _ ⟨b2, rfl, rfl⟩
 refine AR (ρ := sng b2 _) takeZ ?_
 have v2 : rdc (sng b2 (.cells #[yv yl] 162 (0, 0))) b2 0 = some (yv yl) := by rw [rdc_sng]; rfl
 refine AE ?_
 refine AD ?_
 refine AD ?_
 refine AA ?_
 refine AF ?_
 refine BD ?_
 refine AG ?_
 refine AF ?_
 refine AW ?_
 refine AB ?_
 refine AE ?_
 refine AS ?_
 refine BJ [0, 1, 2, 13, 14] (X := Nat × S) (0, σ0) (fun z => z.1 ≤ (placesA d qs.length).length ∧ Inv (z.1 - z.1 / (wd d).toNat) z.2) (fun z => [(15, int z.1)]) (fun z => Own z.2) (fun z => (placesA d qs.length).length - z.1) pickZ ⟨by dsimp only; omega, by dsimp only; rw [Nat.zero_sub]; exact hI0⟩ covZ Sel.refl ?_
 rintro ⟨k, σ'⟩ ⟨hk, hI⟩
 dsimp only at hk hI ⊢
 by_cases hlt : k < (placesA d qs.length).length
 ·obtain ⟨n, t, hn, ht1, ht2, hkv, hkn⟩ := place_of (d := d) (by omega) (k := k) (N := qs.length) (by omega)
  have hx := placesA_get (d := d) (by omega) ht1 ht2 hn
  rw [← hkv, Int.toNat_natCast] at hx
  have hdiv : k / (wd d).toNat = n := by
   rw [hkn, Nat.mul_comm, Nat.mul_add_div (by omega), Nat.div_eq_of_lt (by omega), Nat.add_zero]
  obtain ⟨b6, o6, rfl, hRd6, y0, y1⟩ := spRow hrp hx
  have hl1 := numAt_get hM (n := n) (t := t) (by omega) (by omega) ht1 ht2
  have hroom := exRoom_spec hT bw bm (.slice (some ⟨b6, o6, none⟩) (placesA d qs.length).length kp) d h n t hn
  rw [hdiv] at hI
  by_cases hte : t = d.e
  ·have hnext : (k + 1) - (k + 1) / (wd d).toNat = k - n := by
    have e : k + 1 = (n + 1) * (wd d).toNat := by rw [Nat.add_mul, Nat.one_mul]; omega
    rw [e, Nat.mul_div_cancel _ (by omega)]
    omega
   refine AD ?_
   refine AA ?_
   refine BI ?_
   refine AE ?_
   refine AD ?_
   refine AO rfl ?_
   refine AM ?_
   refine AD ?_
   refine AS ?_
   refine AD ?_
   refine AA ?_
   refine BL ?_
   refine AT ?_
   refine AY ?_; rintro _ _ ⟨b, rfl, rfl⟩
   refine AX ?_; rintro _ _ ⟨rfl, rfl⟩
   refine AE ?_
   refine AD ?_
   refine AD ?_
   revert b; intro b4
   refine A3 (.q 0 (.q 1 (.q 2 (.q 3 (.q 4 (.q 5 (.q 6 (.q 7 .nil)))))))) [] rfl (by kernel_rfl) Sel.nil ?_
   refine AU ?_
   refine AP ?_
   refine AP ?_
   refine AV ?_
   refine AU ?_
   refine CL ?_
   refine AP ?_
   refine D8 ?_
   refine A4 ?_
   refine AO rfl ?_
   refine BB rfl ?_
   refine AA ?_
   refine BA ?_
   refine AB ?_
   refine AE ?_
   exact A0 (k + 1, σ') ⟨by dsimp only; omega, by dsimp only; rw [hnext]; exact hI⟩ (by dsimp only; omega) covZ (Sel.skip Sel.refl)
  have hl2 := numAt_get hM (n := n) (t := t + 1) (by omega) (by omega) (by omega) (by omega)
  have hnm : k - n = n * (d.e - d.r).toNat + (t - d.r).toNat := by
   rw [hkn, hW.2, Nat.mul_add, Nat.mul_one]
   omega
  have hnext : (k + 1) - (k + 1) / (wd d).toNat = k - n + 1 := by
   have e : (k + 1) / (wd d).toNat = n := by
    rw [show k + 1 = (wd d).toNat * n + ((t - d.r).toNat + 1) by rw [Nat.mul_comm]; omega, Nat.mul_add_div (by omega), Nat.div_eq_of_lt (by omega), Nat.add_zero]
   have : n ≤ k := by
    have := Nat.le_mul_of_pos_right n (show 0 < (wd d).toNat by omega)
    omega
   rw [e]
   omega
  have hat := arcs_wait (qs := qs) (cs := cs) (bs := bs) (hs := hs) hn ht1 (show t < d.e by omega)
  rw [← hnm] at hat
  have hya := hy _ σ' (encEA ⟨⟨vtx d n t, vtx d n (t + 1), roomT qs hs d n t⟩, -1, t⟩) (by rw [List.getElem?_map, hat]; rfl) hI
  refine AD ?_
  refine AA ?_
  refine BI ?_
  refine AE ?_
  refine AD ?_
  refine AO rfl ?_
  refine AM ?_
  refine AD ?_
  refine AS ?_
  refine AD ?_
  refine AA ?_
  refine BL ?_
  refine AT ?_
  refine AY ?_; rintro _ _ ⟨b, rfl, rfl⟩
  refine AX ?_; rintro _ _ ⟨rfl, rfl⟩
  refine AE ?_
  refine AD ?_
  refine AD ?_
  revert b; intro b4
  refine A3 (.q 0 (.q 1 (.q 2 (.q 3 (.q 4 (.q 5 (.q 6 (.q 7 .nil)))))))) [] rfl (by kernel_rfl) Sel.nil ?_
  refine AU ?_
  refine AP ?_
  refine AP ?_
  refine AV ?_
  refine AU ?_
  refine CL ?_
  refine AP ?_
  refine DA ?_
  refine A4 ?_
  refine AN rfl ?_
  refine AM ?_
  refine AD ?_
  refine EW (X := Nat) [0, 1, 2, 4, 13, 14, 15] (fun _ => True) (fun x => [(5, .pointer (some ⟨x, 0, none⟩))]) (fun x => sng x (.cells #[int (vtx d n t), int (vtx d n (t + 1)), int (roomT qs hs d n t)] 66 (0, 0)) :: sng b4 (.cells #[int (n : Int), int t] 99 (0, 0)) :: Own σ') pickZ ?_ ?_
  ·refine A3 (.q 0 (.q 1 (.q 2 (.q 3 (.q 4 (.q 5 (.q 6 (.q 7 (.q 8 (.q 9 (.q 10 (.q 11 (.q 12 (.q 13 (.q 14 (.q 15 (.q 16 (.q 17 (.q 18 (.l2 19 .e (.q 20 (.l 21 .e (.l 22 .b .nil))) 21 .e (.l 19 .e (.q 20 (.l 22 .b .nil))))))))))))))))))))))) [] rfl (by kernel_rfl) Sel.nil ?_
   repeat' (first
    | (refine AP ?_)
    | (refine AU ?_)
    | (refine AV ?_)
    | (refine DB ?_)
    | (refine BN ?_)
    | (refine CJ ?_)
    | (focus ((refine' CS rfl _ rfl rfl rfl rfl _; rotate_left; (focus (first | exact CG 2 [(n : Int), t] rfl rfl rfl ⟨by kernel_rfl, by kernel_rfl⟩ rfl hMl rfl hl1 (mapAtS_rd memZ) | exact CG 2 [(n : Int), t + 1] rfl rfl rfl ⟨by kernel_rfl, by kernel_rfl⟩ rfl hMl rfl hl2 (mapAtS_rd memZ))))))
    | (focus ((refine CD rfl hroom rfl rfl rdZ rfl rfl ?_; rintro _ rfl)))
    | (refine A4 ?_)
    | (refine EP ?_ ?_)
    | (focus ((refine CE (CD rfl hroom rfl rfl rdZ rfl rfl ?_); rintro _ rfl)))
    | (focus ((refine CE ?_; refine' FY rfl _ rfl rfl _ _; rotate_left; (focus (apply C6; exact rfl; exact rfl; exact takeZ; exact (by (repeat (first | exact (fun v hv => absurd hv List.not_mem_nil) | (refine List.forall_mem_cons.2 ⟨?_, ?_⟩; (focus (first | exact rfl | assumption))))); first | done | fail); exact rfl; exact rfl)); (focus (rintro _ _ ⟨_, rfl⟩ w hw; exact hw.sel Sel.nil)); rintro _ _ ⟨rfl, rfl⟩)))
    | (refine C4 ?_; rintro _ _ ⟨b, rfl, rfl⟩)
    | (refine EK ?_; rintro _ _ ⟨b, rfl, rfl⟩)
    | fail)
   all_goals (refine DQ _ trivial covZ Sel.refl)
  rintro b5 _
  refine AD ?_
  refine AA ?_
  refine AF ?_
  refine AT ?_
  refine AG ?_
  refine AF ?_
  refine B0 (DP (out := [int (vtx d n t), int (vtx d n (t + 1)), int (roomT qs hs d n t), int (-1), int t]) rfl rfl rfl rfl rfl) rfl rfl rfl ?_
  refine BE hya rfl rfl (Takes.skip (Takes.skip Takes.all)) (fun τ hτ => .inl (by simp [hτ])) rfl rfl ?_
  rintro _ H' ⟨σ3, rfl, ⟨rfl, hI3⟩ | ⟨rfl, hSt⟩⟩
  ·refine CH (H' := _ :: _ :: Own σ3) (List.perm_append_comm (l₂ := [_, _])) ?_
   refine A7 ?_
   refine AE ?_
   refine AN rfl ?_
   refine AM ?_
   refine A6 ?_
   refine AA ?_
   refine BA ?_
   refine AB ?_
   refine AE ?_
   exact A0 (k + 1, σ3) ⟨by dsimp only; omega, by dsimp only; rw [hnext]; exact hI3⟩ (by dsimp only; omega) covZ (Sel.skip (Sel.skip Sel.refl))
  ·refine A7 ?_
   refine AE ?_
   refine AO rfl ?_
   exact AI (res0 rfl) (fun _ h => List.mem_cons_of_mem _ h) Sel.left ⟨σ3, rfl, .inr hSt⟩
 have hke : k = (placesA d qs.length).length := by omega
 subst hke
 have hcnt : (placesA d qs.length).length - (placesA d qs.length).length / (wd d).toNat = (waitA qs hs d qs.length).length := by
  have e : (placesA d qs.length).length = qs.length * (wd d).toNat := by
   have hw : (((wd d).toNat : Nat) : Int) = wd d := by unfold wd; omega
   have : (((placesA d qs.length).length : Nat) : Int) = ((qs.length * (wd d).toNat : Nat) : Int) := by rw [hplen, Int.natCast_mul, hw]
   omega
  rw [e, Nat.mul_div_cancel _ (by omega), waitA_len, hW.2, Nat.mul_add, Nat.mul_one]
  omega
 rw [hcnt] at hI
 refine B5 ?_
 refine AD ?_
 refine AA ?_
 refine AZ ?_
 refine AE ?_
 refine AD ?_
 refine AN rfl ?_
 refine BB rfl ?_
 refine AD ?_
 refine AA ?_
 refine AF ?_
 refine BD ?_
 refine AG ?_
 refine AG ?_
 refine AG ?_
 refine AF ?_
 refine AW ?_
 refine AB ?_
 refine AE ?_
 refine AS ?_
 refine D7 [0, 1, 2, 61, 62] (X := Nat × S × (List Nat × PH)) (0, σ', ([], emp)) (fun x => x.2.2.1.map mk) (fun x => x.1 ≤ cs.length ∧ Inv ((waitA qs hs d qs.length).length + (conA cs bs d x.1).length) x.2.1 ∧ MkIn x.2.2.2 x.2.2.1) (fun x => [(63, int x.1)]) (fun x => x.2.2.2 :: Own x.2.1) (fun x => cs.length - x.1) pickZ rfl ⟨by dsimp only; omega, hI, MkIn.nil⟩ covZ Sel.refl ?_
 rintro ⟨i, σ4, ms, μ⟩ ⟨hi, hI4, hMk⟩
 dsimp only at hi hI4 hMk ⊢
 by_cases hlt2 : i < cs.length
 rotate_left
 ·have hie : i = cs.length := by omega
  subst hie
  refine AD ?_
  refine AA ?_
  refine AZ ?_
  refine AE ?_
  refine AD ?_
  refine AN rfl ?_
  refine BB rfl ?_
  refine GB hMk Take.here (res0 rfl) (fun _ h => List.mem_cons_of_mem _ h) Sel.refl ⟨σ4, rfl, .inl ?_⟩
  rw [List.length_map]
  unfold arcsE
  rw [List.length_append]
  exact hI4
 have hc := List.getElem?_eq_getElem hlt2
 have hct := h.ct _ (List.getElem_mem hlt2)
 have hcn := conA_next cs bs d hc
 obtain ⟨b8, o8, rfl, hRd8⟩ := ctRow hT.rc hc
 have hticks := fun c1' c2' => ticks_iter hT bw bm c1' c2' (.slice pl (placesA d qs.length).length kp) d h h0 i _ hc
 have hat := fun (j : Nat) (t : Int) (ht : (tickL d.r d.e cs[i].g (freeC cs bs i))[j]? = some t) => arcs_con (qs := qs) (hs := hs) hc ht
 have hfree := (h.free hc).2.2
 generalize cs[i] = x at hc hct hcn hRd8 hticks hat hfree
 refine AD ?_
 refine AA ?_
 refine BI ?_
 refine AE ?_
 refine AD ?_
 refine AO rfl ?_
 refine AM ?_
 refine AD ?_
 refine AS ?_
 refine AD ?_
 refine AA ?_
 refine AB ?_
 refine BL ?_
 refine AT ?_
 refine BT ?_; rintro _ _ ⟨b, rfl, rfl⟩
 refine AY ?_; rintro _ _ ⟨b, rfl, rfl⟩
 refine A9 ?_; rintro _ _ ⟨rfl, rfl⟩
 refine AX ?_; rintro _ _ ⟨rfl, rfl⟩
 refine AE ?_
 refine AD ?_
 refine AA ?_
 refine AF ?_
 refine AF ?_
 revert b; intro b7
 revert b; intro b6
 refine BE (ticks_spec bw i) rfl rfl Takes.nil (fun τ hτ => by simp at hτ) rfl rfl ?_
 rintro _ _ ⟨c3, c4, rfl, rfl⟩
 refine AR (ρ := sng c3 _) takeZ ?_
 refine AR (ρ := sng c4 _) takeZ ?_
 refine AR (ρ := sng b6 _) takeZ ?_
 refine AR (ρ := sng b7 _) takeZ ?_
 have g6 : rdc (sng b6 (.cells #[int (i : Int)] 3 (0, 0))) b6 0 = some (int (i : Int)) := by rw [rdc_sng]; rfl
 have f0 : rdc (sng b7 (.cells #[int x.f, int x.t, int x.s, int x.e, int x.r, int x.g, int x.l] 70 (0, 0))) b7 0 = some (int x.f) := by rw [rdc_sng]; rfl
 have f1 : rdc (sng b7 (.cells #[int x.f, int x.t, int x.s, int x.e, int x.r, int x.g, int x.l] 70 (0, 0))) b7 1 = some (int x.t) := by rw [rdc_sng]; rfl
 have f4 : rdc (sng b7 (.cells #[int x.f, int x.t, int x.s, int x.e, int x.r, int x.g, int x.l] 70 (0, 0))) b7 4 = some (int x.r) := by rw [rdc_sng]; rfl
 have f5 : rdc (sng b7 (.cells #[int x.f, int x.t, int x.s, int x.e, int x.r, int x.g, int x.l] 70 (0, 0))) b7 5 = some (int x.g) := by rw [rdc_sng]; rfl
 refine AE ?_
 refine AS ?_
 refine C8 (gf := 120) (cap := [.pointer (some ⟨c3, 0, none⟩), .pointer (some ⟨c4, 0, none⟩)]) (ps := [71]) (X := S) rfl Tryz.func120 rfl rfl
  (hticks c3 c4) ?_ (fun j σ => Inv ((waitA qs hs d qs.length).length + (conA cs bs d i).length + j) σ) (fun σ => Own σ) (fun c σ => c = .ret ∧ Stop σ) σ4 rfl (Takes.skip Takes.all) hI4 ?_ ?_ ?_
 ·intro σ' hσ
  simp only [List.mem_cons, List.not_mem_nil, or_false] at hσ ⊢
  rcases hσ with h | h | h | h | h | h | h <;> simp [h]
 ·rintro lo r j σ5 vs hvs hI5 hps has hbd hst hpe hfr
  obtain ⟨st, pe, fnn, tm, prm, asg, bdy, df⟩ := r
  simp only at hps has hbd hst hpe hfr
  subst hps has hbd hst hpe
  rw [List.getElem?_map] at hvs
  obtain ⟨t, ht, rfl⟩ := Option.map_eq_some_iff.1 hvs
  obtain ⟨_, ht1, ht2⟩ := mem_tickL.1 (List.mem_of_getElem? ht)
  have hl1 := numAt_get hM (n := x.f) (t := t) hct.1.1 hct.1.2 ht1 (by omega)
  have hl2 := numAt_get hM (n := x.t) (t := t + 1 + x.g) hct.2.1.1 hct.2.1.2 (by omega) (by omega)
  have hya := hy _ σ5 (encEA (conE d x i t)) (by rw [List.getElem?_map, hat j t ht]; rfl) hI5
  refine yield_spec hfr rfl (by intro p hp; simp at hp; omega) putiZ (fun N' β' => ?_)
  dsimp only
  refine AA ?_
  refine AC ?_
  refine AE ?_
  refine CU rfl rfl ?_
  refine C7 takeZ rfl ?_
  refine AS ?_
  refine AD ?_
  refine A3 (.q 0 (.q 1 (.q 2 (.q 3 (.q 4 (.q 5 (.q 6 (.q 7 (.q 8 (.q 9 (.q 10 (.q 11 (.q 12 (.q 13 (.q 14 (.q 15 (.q 16 (.q 17 (.q 18 (.q 19 (.q 20 (.q 21 (.q 22 (.q 23 (.q 24 (.l 25 .e (.l 26 .b .nil))))))))))))))))))))))))))) [] rfl (by kernel_rfl) Sel.nil ?_
  refine AP ?_
  refine AV ?_
  refine AU ?_
  refine AP ?_
  refine AU ?_
  refine AP ?_
  refine AQ ?_
  refine CJ ?_
  focus ((refine' CS rfl _ rfl rfl rfl rfl _; rotate_left; (focus (first | exact CG 2 [x.f, t] rfl rfl rfl ⟨by kernel_rfl, by kernel_rfl⟩ rfl hMl rfl hl1 (mapAtS_rd memZ) | exact CG 2 [x.t, t + 1 + x.g] rfl rfl rfl ⟨by kernel_rfl, by kernel_rfl⟩ rfl hMl rfl hl2 (mapAtS_rd memZ)))))
  refine AP ?_
  refine AV ?_
  refine AU ?_
  refine AP ?_
  refine AU ?_
  refine AP ?_
  refine AQ ?_
  refine DB ?_
  refine AU ?_
  refine AP ?_
  refine DB ?_
  refine CJ ?_
  focus ((refine' CS rfl _ rfl rfl rfl rfl _; rotate_left; (focus (first | exact CG 2 [x.f, t] rfl rfl rfl ⟨by kernel_rfl, by kernel_rfl⟩ rfl hMl rfl hl1 (mapAtS_rd memZ) | exact CG 2 [x.t, t + 1 + x.g] rfl rfl rfl ⟨by kernel_rfl, by kernel_rfl⟩ rfl hMl rfl hl2 (mapAtS_rd memZ)))))
  refine AU ?_
  refine AP ?_
  refine CJ ?_
  refine C4 ?_; rintro _ _ ⟨b, rfl, rfl⟩
  focus ((refine CE ?_; refine' FY rfl _ rfl rfl _ _; rotate_left; (focus (apply C6; exact rfl; exact rfl; exact takeZ; exact (by (repeat (first | exact (fun v hv => absurd hv List.not_mem_nil) | (refine List.forall_mem_cons.2 ⟨?_, ?_⟩; (focus (first | exact rfl | assumption))))); first | done | fail); exact rfl; exact rfl)); (focus (rintro _ _ ⟨_, rfl⟩ w hw; exact hw.sel Sel.nil)); rintro _ _ ⟨rfl, rfl⟩))
  refine A4 ?_
  revert b; intro b9
  refine AD ?_
  refine AA ?_
  refine AF ?_
  refine AT ?_
  refine AF ?_
  refine AB ?_
  refine B0 (DP (out := [int (vtx d x.f t), int (vtx d x.t (t + 1 + x.g)), int x.r, int (i : Int), int t]) rfl rfl rfl rfl rfl) rfl rfl rfl ?_
  refine BE hya rfl rfl (Takes.skip (Takes.skip Takes.all)) (fun τ hτ => .inl (by simp [hτ])) rfl rfl ?_
  rintro _ H' ⟨σ6, rfl, ⟨rfl, hI6⟩ | ⟨rfl, hSt⟩⟩
  ·refine CH (H' := _ :: _ :: Own σ6) (List.perm_append_comm (l₂ := [_, _])) ?_
   refine A7 ?_
   refine AE ?_
   refine AN rfl ?_
   refine AM ?_
   refine A6 ?_
   exact BR (Take.there Take.here) rsubZ (Sel.cons Take.here (Sel.skip Sel.refl)) ⟨σ6, .inl ⟨rfl, hI6, rfl⟩⟩
  ·refine CH (H' := _ :: _ :: Own σ6) (List.perm_append_comm (l₂ := [_, _])) ?_
   refine A7 ?_
   refine AE ?_
   refine AO rfl ?_
   exact ER (Take.there Take.here) rsubZ (Sel.cons Take.here (Sel.skip Sel.refl)) ⟨σ6, .inr ⟨rfl, .ret, ⟨rfl, hSt⟩, rfl⟩⟩
 ·rintro b9 σ5 hI5
  rw [List.length_map] at hI5
  refine CH (H' := sng b9 defO :: μ :: Own σ5) (List.Perm.cons _ (List.perm_append_comm (l₂ := [_]))) ?_
  refine D6 (R' := _) (fun _ h => List.mem_cons_of_mem _ (List.mem_cons_of_mem _ (List.mem_cons_of_mem _ (List.mem_cons_of_mem _ (h))))) ?_
  refine CW (b := b9) Take.here (μ := μ) Take.here hMk ?_
  intro μ2 hM2
  refine A6 ?_
  refine A6 ?_
  refine AA ?_
  refine BA ?_
  refine AB ?_
  refine AE ?_
  refine DS (i + 1, σ5, (b9 :: ms, μ2)) rfl ⟨by dsimp only; omega, ?_, hM2⟩ (by dsimp only; omega) covZ Sel.refl
  dsimp only
  rw [hcn, ← Nat.add_assoc]
  exact hI5
 ·rintro b9 c σ5 ⟨rfl, hSt⟩
  refine CH (H' := sng b9 defO :: μ :: Own σ5) (List.Perm.cons _ (List.perm_append_comm (l₂ := [_]))) ?_
  refine CW (b := b9) Take.here (μ := μ) Take.here hMk ?_
  intro μ2 hM2
  exact D5 (ms := b9 :: ms) hM2 Take.here (res0 rfl) (fun _ h => List.mem_cons_of_mem _ (List.mem_cons_of_mem _ (List.mem_cons_of_mem _ (List.mem_cons_of_mem _ (List.mem_cons_of_mem _ (h)))))) Sel.refl ⟨σ5, rfl, .inr hSt⟩
end Go.Proofs.YthdoegkjifgegaaGreat
/- Check, ends and the like: what they answer. -/
namespace Go.Proofs.YthdoegkjifgegaaGreat
open Go.Eng Go.Flow
set_option maxRecDepth 100000
set_option maxHeartbeats 4000000

def encA (a : Arc) : List Value := [int a.f, int a.t, int a.c]
theorem encA_len (a : Arc) : (encA a).length = 3 := rfl
abbrev ArcsAt (ρ : PH) (v : Value) (l : List Arc) : Prop := SlE encA 3 ρ v l
theorem arcRow {ρ : PH} {p : Option Addr} {l : List Arc} (h : RowsE encA 3 ρ p l) {i : Nat} {x : Arc} (hx : l[i]? = some x) :
  ∃ b o, p = some ⟨b, o, none⟩ ∧ RdN ρ b (o + i * 3) [int x.f, int x.t, int x.c] ∧ rdc ρ b (o + i * 3) = some (int x.f) ∧ rdc ρ b (o + i * 3 + 1) = some (int x.t) ∧ rdc ρ b (o + i * 3 + 2) = some (int x.c) := by
 obtain ⟨b, o, e, hr⟩ := h i x hx
 exact ⟨b, o, e, hr, hr.get0, hr.get (j := 1) rfl, hr.get (j := 2) rfl⟩

theorem inside_spec (k n : Int) : Ans Tryz.prog (fv 64) [int k, int n] [] (fun v => (v = .bool true ∧ 0 ≤ k ∧ k < n) ∨ (v = .bool false ∧ (k < 0 ∨ n ≤ k))) := by
 refine spec_in (cap := []) Tryz.func64 rfl rfl Tryz.ntmps64 rfl envZ (fun N β => ?_)
 repeat' (first
  | (refine AB ?_)
  | (refine AC ?_)
  | (refine AK ?_)
  | (refine AJ ?_)
  | (refine AD ?_)
  | (refine AA ?_)
  | (refine AE ?_)
  | (refine AH rfl rfl rfl ?_)
  | (focus ((refine CI rfl rfl (cmp_lt _ _) rfl rfl (fun h => ?_) (fun h => ?_))))
  | (focus ((refine CI rfl rfl (cmp_le _ _) rfl rfl (fun h => ?_) (fun h => ?_))))
  | fail)
 all_goals refine AI (res1 rfl rfl) rsubZ selZ ⟨rfl, ?_⟩
 ·exact .inl ⟨rfl, by omega⟩
 ·exact .inr ⟨rfl, by omega⟩
 ·exact .inr ⟨rfl, by omega⟩

theorem ends_spec (n s t : Int) : Ans Tryz.prog (fv 54) [int n, int s, int t] [] (fun v => v = int (if okEnds n s t then 0 else 2)) := by
 refine spec_in (cap := []) Tryz.func54 rfl rfl Tryz.ntmps54 rfl envZ (fun N β => ?_)
 repeat' (first
  | (refine AB ?_)
  | (refine AC ?_)
  | (refine AK ?_)
  | (refine AJ ?_)
  | (refine A7 ?_)
  | (refine AD ?_)
  | (refine AA ?_)
  | (refine AE ?_)
  | (refine AM ?_)
  | (refine AO rfl ?_)
  | (refine AN rfl ?_)
  | (refine AH rfl rfl rfl ?_)
  | (focus ((refine A2 (inside_spec _ _) rfl rfl rdZ rfl rfl ?_; rintro v (⟨rfl, h⟩ | ⟨rfl, h⟩))))
  | (focus ((refine CI rfl rfl (cmp_eq _ _) rfl rfl (fun h => ?_) (fun h => ?_))))
  | fail)
 all_goals refine AI (res1 rfl rfl) rsubZ selZ ⟨rfl, ?_⟩
 all_goals first | rw [if_pos (by unfold okEnds; rw [decide_eq_true_eq]; omega)] | rw [if_neg (by unfold okEnds; rw [decide_eq_true_eq]; omega)]

theorem check1_spec (b : Nat) (T : TypeId) (n : Int) (a : Arc) : Ans Tryz.prog (.func (.func 63) #[] #[.pointer (some ⟨b, 0, none⟩)]) [.agg (encA a).toArray] [sng b (.cells #[int n] T (0, 0))] (fun v => v = .bool (!okArc n a)) := by
 refine spec_in (cap := [.pointer (some ⟨b, 0, none⟩)]) Tryz.func63 rfl rfl Tryz.ntmps63 rfl envZ (fun N β => ?_)
 have hb : rdc (sng b (.cells #[int n] T (0, 0))) b 0 = some (int n) := by rw [rdc_sng]; rfl
 unfold encA
 repeat' (first
  | (refine AB ?_)
  | (refine AC ?_)
  | (refine AF ?_)
  | (refine AG ?_)
  | (refine AK ?_)
  | (refine AJ ?_)
  | (refine A7 ?_)
  | (refine AD ?_)
  | (refine AA ?_)
  | (refine AE ?_)
  | (refine AH rfl rfl rfl ?_)
  | (focus ((refine A2 (inside_spec _ _) rfl rfl rdZ rfl rfl ?_; rintro v (⟨rfl, h⟩ | ⟨rfl, h⟩))))
  | (refine B9 ?_; rintro _ _ ⟨b, rfl, rfl⟩)
  | (focus ((refine CI rfl rfl (cmp_eq _ _) rfl rfl (fun h => ?_) (fun h => ?_))))
  | (focus ((refine CI rfl rfl (cmp_lt _ _) rfl rfl (fun h => ?_) (fun h => ?_))))
  | fail)
 all_goals refine AI (res1 rfl rfl) rsubZ selZ ⟨rfl, ?_⟩
 all_goals first
  | (rw [show okArc n a = true from by unfold okArc; rw [decide_eq_true_eq]; omega]; rfl)
  | (rw [show okArc n a = false from by unfold okArc; rw [decide_eq_false_iff_not]; omega]; rfl)

/-- the first place at which a condition holds; -1: none -/
def idxOf {α : Type} (p : α → Bool) (l : List α) : Int := match l.findIdx? p with
 | some i => i
 | none => -1
theorem idxOf_ge {α : Type} (p : α → Bool) (l : List α) : (0 ≤ idxOf p l ↔ l.any p = true) := by
 unfold idxOf
 cases h : l.findIdx? p with
 | none =>
  rw [List.findIdx?_eq_none_iff] at h
  simp; exact h
 | some i =>
  have := List.findIdx?_isSome (xs := l) (p := p)
  rw [h] at this
  simp at this ⊢
  exact this
theorem indexArc_spec (ρ : PH) (v f : Value) (R1 : List PH) (l : List Arc) (p : Arc → Bool) (hv : ArcsAt ρ v l) (hl : l.length ≤ 1000000) (hf : ∀ a ∈ l, Ans Tryz.prog f [.agg (encA a).toArray] R1 (fun u => u = .bool (p a))) :
  Ans Tryz.prog (fv 103) [v, f] (ρ :: R1) (fun u => u = int (idxOf p l)) := by
 obtain ⟨q, c, rfl, hr⟩ := hv.val encA_len
 refine spec_in (cap := []) Tryz.func103 rfl rfl Tryz.ntmps103 rfl envZ (fun N β => ?_)
 refine AD ?_
 refine AA ?_
 refine AC ?_
 refine AE ?_
 refine AD ?_
 refine AD ?_
 refine AA ?_
 refine AB ?_
 refine AW ?_
 refine AB ?_
 refine AE ?_
 refine AS ?_
 refine BJ [0, 1, 6, 7] (0 : Nat) (fun k => k ≤ l.length ∧ ∀ x ∈ l.take k, p x = false) (fun k => [(8, int k)]) (fun _ => []) (fun k => l.length - k) pickZ ⟨by omega, by simp⟩ covZ selZ ?_
 rintro k ⟨hk, hno⟩
 by_cases hlt : k < l.length
 ·have hx := List.getElem?_eq_getElem hlt
  obtain ⟨b, o, rfl, hA, h0, h1, h2⟩ := arcRow hr hx
  have hfa := hf l[k] (List.getElem_mem hlt)
  unfold encA at hfa
  refine AD ?_
  refine AA ?_
  refine BI ?_
  refine AE ?_
  refine AD ?_
  refine AO rfl ?_
  refine AM ?_
  refine AD ?_
  refine AS ?_
  refine AD ?_
  refine AA ?_
  refine AB ?_
  refine AC ?_
  refine AE ?_
  refine AD ?_
  refine AA ?_
  refine AB ?_
  refine AB ?_
  refine AB ?_
  refine BL ?_
  refine AT ?_
  refine A2 (hfa.rsub (R' := R1) (fun _ h => h)) rfl rfl ?_ rfl rfl ?_
  ·intro σ hσ; left; simp [hσ]
  rintro u rfl
  refine AE ?_
  refine jk_if rfl (fun hp => ?_) (fun hp => ?_)
  ·refine AD ?_
   refine AA ?_
   refine AB ?_
   refine AC ?_
   refine AE ?_
   refine AI (res1 rfl rfl) ?_ selZ ⟨rfl, ?_⟩
   ·intro σ hσ; exact hσ
   ·have : l.findIdx? p = some k := by
     rw [List.findIdx?_eq_some_iff_getElem]
     refine ⟨hlt, hp, fun j hj => ?_⟩
     have := hno l[j] (List.mem_take_iff_getElem.2 ⟨j, by omega, rfl⟩)
     simp [this]
    unfold idxOf; rw [this]
  ·refine AM ?_
   refine A6 ?_
   refine AA ?_
   refine BA ?_
   refine AB ?_
   refine AE ?_
   refine A0 (k + 1) ⟨by omega, fun x hx' => ?_⟩ (by omega) covZ selZ
   rw [List.take_succ_eq_append_getElem hlt] at hx'
   rcases List.mem_append.1 hx' with hx' | hx'
   ·exact hno x hx'
   ·rw [List.mem_singleton.1 hx']; exact hp
 ·refine AD ?_
  refine AA ?_
  refine AZ ?_
  refine AE ?_
  refine AD ?_
  refine AN rfl ?_
  refine BB rfl ?_
  refine AD ?_
  refine AA ?_
  refine AC ?_
  refine AE ?_
  refine AI (res1 rfl rfl) ?_ selZ ⟨rfl, ?_⟩
  ·intro σ hσ; exact hσ
  ·have hkl : k = l.length := by omega
   subst hkl
   rw [List.take_length] at hno
   have : l.findIdx? p = none := by rw [List.findIdx?_eq_none_iff]; exact hno
   unfold idxOf; rw [this]
theorem containsArc_spec (ρ : PH) (v f : Value) (R1 : List PH) (l : List Arc) (p : Arc → Bool) (hv : ArcsAt ρ v l) (hl : l.length ≤ 1000000) (hf : ∀ a ∈ l, Ans Tryz.prog f [.agg (encA a).toArray] R1 (fun u => u = .bool (p a))) :
  Ans Tryz.prog (fv 62) [v, f] (ρ :: R1) (fun u => u = .bool (l.any p)) := by
 refine spec_in (cap := []) Tryz.func62 rfl rfl Tryz.ntmps62 rfl envZ (fun N β => ?_)
 refine AD ?_
 refine AA ?_
 refine AC ?_
 refine AE ?_
 refine AD ?_
 refine AA ?_
 refine AB ?_
 refine AB ?_
 refine A2 (indexArc_spec ρ v f R1 l p hv hl hf) rfl rfl ?_ rfl rfl ?_
 ·intro σ hσ; left; simp at hσ ⊢; right; exact hσ
 rintro u rfl
 have hi := idxOf_ge p l
 by_cases hc : 0 ≤ idxOf p l
 all_goals
  repeat' (first
   | (refine AC ?_)
   | (refine CB ?_)
   | (refine BH ?_)
   | (refine AE ?_)
   | fail)
  refine AI (res1 rfl rfl) (by intro σ hσ; exact hσ) selZ ⟨rfl, ?_⟩
 ·rw [hi.1 hc]
 ·have : l.any p = false := by
   cases h : l.any p with
   | false => rfl
   | true => exact absurd (hi.2 h) hc
  rw [this]

theorem check_spec (ρ : PH) (v : Value) (n : Int) (l : List Arc) (hv : ArcsAt ρ v l) (hl : l.length ≤ 1000000) :
  Ans Tryz.prog (fv 29) [int n, v] [ρ] (fun u => u = int (chk n l)) := by
 obtain ⟨q, c, rfl, hr⟩ := hv.val encA_len
 refine spec_in (cap := []) Tryz.func29 rfl rfl Tryz.ntmps29 rfl envZ (fun N β => ?_)
 repeat' (first
  | (refine AB ?_)
  | (refine AC ?_)
  | (refine AF ?_)
  | (refine AK ?_)
  | (refine AJ ?_)
  | (refine AW ?_)
  | (refine BU ?_)
  | (refine AD ?_)
  | (refine AA ?_)
  | (refine AE ?_)
  | (refine AM ?_)
  | (refine AO rfl ?_)
  | (refine AN rfl ?_)
  | (refine AH rfl rfl rfl ?_)
  | (focus ((refine A2 (containsArc_spec ρ _ _ [_] l (fun a => !okArc n a) hv hl (fun a _ => check1_spec _ _ n a)) rfl rfl rdZ rfl rfl ?_; rintro u rfl)))
  | (refine FW ?_; rintro _ _ ⟨b, rfl, rfl⟩)
  | (focus ((refine CI rfl rfl (cmp_lt _ _) rfl rfl (fun h => ?_) (fun h => ?_))))
  | (focus ((refine jk_if rfl (fun h => ?_) (fun h => ?_))))
  | fail)
 all_goals refine AI (res1 rfl rfl) rsubZ selZ ⟨rfl, ?_⟩
 all_goals unfold chk
 ·rw [if_pos (by omega)]
 ·rw [if_neg (by omega), if_pos (by omega)]
 ·rw [if_neg (by omega), if_pos (by omega)]
 ·rename_i h
  rw [if_neg (by omega), if_neg (by omega), if_neg (fun h2 => ?_)]
  simp only [List.all_eq_true, List.any_eq_true, Bool.not_eq_true'] at h h2
  obtain ⟨x, hx, e⟩ := h
  rw [h2 x hx] at e
  simp at e
 ·rename_i h
  rw [if_neg (by omega), if_neg (by omega), if_pos ?_]
  rw [List.all_eq_true]
  rw [List.any_eq_false] at h
  intro x hx
  simpa using h x hx

end Go.Proofs.YthdoegkjifgegaaGreat
/- Answers checked; results that are structs in memory; sums that wrap. No program in sight. No conditions. -/
namespace Go.Step
end Go.Step
namespace Go.Eng
open Go.IntWalk
variable {R H : List PH} {L : Env}
theorem resS2 {fn : Func} {N : Bs} {M : Nat} {P : Program} {t u b1 b2 : Nat} {T U : TypeId} {v1 v2 : List Value} (hr : fn.results = #[.cell t T, .cell u U]) (ht : look L t = some (.pointer (some ⟨b1, 0, none⟩))) (hu : look L u = some (.pointer (some ⟨b2, 0, none⟩))) (a1 : aggP P T = some true) (a2 : aggP P U = some true)
    (n1 : szP P T = some v1.length) (n2 : szP P U = some v2.length) (c1 : Cells N R H b1 0 v1) (c2 : Cells N R H b2 0 v2) : ∀ a w, Frm M L a → Sat N R H w → (results fn a.tmps).run P w = .ok (.tuple #[.agg v1.toArray, .agg v2.toArray]) w := by
  intro a w hf hs
  have e1 : a.tmps[t]?.getD undef = .pointer (some ⟨b1, 0, none⟩) := by simpa using hf.get t _ ht
  have e2 : a.tmps[u]?.getD undef = .pointer (some ⟨b2, 0, none⟩) := by simpa using hf.get u _ hu
  have l1 := run_loadCells_list (P := P) (w := w) ⟨b1, 0, none⟩ v1 (fun j v hv => by rw [Addr.add_lit]; exact c1 w hs j v hv)
  have l2 := run_loadCells_list (P := P) (w := w) ⟨b2, 0, none⟩ v2 (fun j v hv => by rw [Addr.add_lit]; exact c2 w hs j v hv)
  simp [results, hr, e1, e2, loadVar, run_isAgg a1, run_isAgg a2, run_sizeOf n1, run_sizeOf n2, l1, l2, asAddr]
theorem Flat.agg7 {a b c d e f g : Value} {vs cs : List Value} (h : Flat vs cs) : Flat (.agg #[a, b, c, d, e, f, g] :: vs) (a :: b :: c :: d :: e :: f :: g :: cs) := Flat.agg (ws := [a, b, c, d, e, f, g]) h
theorem EN {C : Cx} {x y : Operand} {dst : Option Tmp} {ty : TypeId} {pos : String} {aft : Array Edge} {g : Option (Nat × Bool)} {xT yT : TypeId} {m n : Int} (h1 : evalE L x = some (.int .i64 m)) (h2 : evalE L y = some (.int .i64 n)) : Quiet C R H L ⟨dst, .binOp .add xT x y yT, ty, pos, aft, g⟩ (.int .i64 (IntKind.i64.wrap (m + n))) :=
  D0 (C := C) (R := R) (H := H) (dst := dst) (ty := ty) (pos := pos) (aft := aft) (g := g) (xT := xT) (yT := yT) (.inl ⟨rfl, rfl⟩) h1 h2
end Go.Eng
/- Results that lie in memory: one struct, or a struct and an error. -/
namespace Go.Eng
variable {L : Env} {R H : List PH}
theorem resS1 {fn : Func} {N : Bs} {M : Nat} {P : Program} {t b1 : Nat} {T : TypeId} {v1 : List Value} (hr : fn.results = #[.cell t T]) (ht : look L t = some (.pointer (some ⟨b1, 0, none⟩))) (a1 : aggP P T = some true)
    (n1 : szP P T = some v1.length) (c1 : Cells N R H b1 0 v1) : ∀ a w, Frm M L a → Sat N R H w → (results fn a.tmps).run P w = .ok (.agg v1.toArray) w := by
  intro a w hf hs
  have e1 : a.tmps[t]?.getD undef = .pointer (some ⟨b1, 0, none⟩) := by simpa using hf.get t _ ht
  have l1 := run_loadCells_list (P := P) (w := w) ⟨b1, 0, none⟩ v1 (fun j v hv => by rw [Addr.add_lit]; exact c1 w hs j v hv)
  simp [results, hr, e1, loadVar, run_isAgg a1, run_sizeOf n1, l1, asAddr]
theorem resSE {fn : Func} {N : Bs} {M : Nat} {P : Program} {t u b1 : Nat} {T : TypeId} {v1 : List Value} {v2 : Value} (hr : fn.results = #[.cell t T, .tmp u]) (ht : look L t = some (.pointer (some ⟨b1, 0, none⟩))) (hu : look L u = some v2) (a1 : aggP P T = some true)
    (n1 : szP P T = some v1.length) (c1 : Cells N R H b1 0 v1) : ∀ a w, Frm M L a → Sat N R H w → (results fn a.tmps).run P w = .ok (.tuple #[.agg v1.toArray, v2]) w := by
  intro a w hf hs
  have e1 : a.tmps[t]?.getD undef = .pointer (some ⟨b1, 0, none⟩) := by simpa using hf.get t _ ht
  have e2 : a.tmps[u]?.getD undef = v2 := by simpa using hf.get u _ hu
  have l1 := run_loadCells_list (P := P) (w := w) ⟨b1, 0, none⟩ v1 (fun j v hv => by rw [Addr.add_lit]; exact c1 w hs j v hv)
  simp [results, hr, e1, e2, loadVar, run_isAgg a1, run_sizeOf n1, l1, asAddr]
end Go.Eng
/- The graph, and the numbers of its places. -/
namespace Go.Proofs.YthdoegkjifgegaaGreat
open Go.Eng Go.Step
set_option maxRecDepth 100000
set_option maxHeartbeats 4000000

theorem ea_len (qs : List Int) (cs : List Ct) (bs : List Bk) (hs : List Hd) (d : Dm) (h : VOk qs cs bs hs d) : (arcsE qs cs bs hs d).length ≤ 1000000 := by
 have := h.len
 omega
set_option maxHeartbeats 32000000 in
theorem graph_spec {ρ τ σ υ : PH} {pq pc pb ph : Option Addr} {kq kc kb kh : Nat} {qs : List Int} {cs : List Ct} {bs : List Bk} {hs : List Hd} (hT : TbAt ρ τ σ υ pq pc pb ph kq kc kb kh qs cs bs hs) (bw bm kp : Nat) (pl : Option Addr) (χ : PH) (M : List (List Int × Value)) (d : Dm) (h : VOk qs cs bs hs d) (h0 : chkB qs cs bs = 0) (hpl : SlE encS 2 χ (.slice pl (placesA d qs.length).length kp) (placesA d qs.length)) (hM : NumAt d qs.length d.r M) :
  Makes Tryz.prog (fv 40) [.pointer (some ⟨bw, 0, none⟩)] [sng bw (.cells #[.slice pq qs.length kq, .slice pc cs.length kc, .slice pb bs.length kb, .slice ph hs.length kh, int d.s, int d.d, int d.v, int d.r, int d.e, .slice pl (placesA d qs.length).length kp, .map (some bm)] 97 (0, 0)), sng bm (mapS M), χ, ρ, τ, σ, υ] (fun r χ' => ∃ u, r = .agg #[int (vsN qs d), u, int (vtx d d.s d.r), int (vtx d d.d d.e)] ∧ OwnS 66 3 u (arcsG qs cs bs hs d).length ((arcsG qs cs bs hs d).flatMap encA) χ') := by
 have hdm := h.dm
 unfold okDm at hdm
 have hnq := h.nq
 have hMl := hM.1
 have hl1 := numAt_get hM (n := d.s) (t := d.r) (by omega) (by omega) (by omega) (by omega)
 have hl2 := numAt_get hM (n := d.d) (t := d.e) (by omega) (by omega) (by omega) (by omega)
 have hit := fun c1 => arcs_iter hT bw bm c1 kp pl χ M d h h0 hpl hM
 have hEl := ea_len qs cs bs hs d h
 have hplen : (((placesA d qs.length).length : Nat) : Int) = vsN qs d := placesA_len (d := d) (by omega) qs.length
 have hone : ∀ z n (xs : List Value) (χ : PH), OwnS 66 3 z n xs χ → z.oneCell' = true := fun z n xs χ h => by obtain ⟨_, _, rfl⟩ := h.form; rfl
 have w0 : rdc (sng bw (.cells #[.slice pq qs.length kq, .slice pc cs.length kc, .slice pb bs.length kb, .slice ph hs.length kh, int d.s, int d.d, int d.v, int d.r, int d.e, .slice pl (placesA d qs.length).length kp, .map (some bm)] 97 (0, 0))) bw 0 = some (.slice pq qs.length kq) := by rw [rdc_sng]; rfl
 have w1 : rdc (sng bw (.cells #[.slice pq qs.length kq, .slice pc cs.length kc, .slice pb bs.length kb, .slice ph hs.length kh, int d.s, int d.d, int d.v, int d.r, int d.e, .slice pl (placesA d qs.length).length kp, .map (some bm)] 97 (0, 0))) bw 1 = some (.slice pc cs.length kc) := by rw [rdc_sng]; rfl
 have w2 : rdc (sng bw (.cells #[.slice pq qs.length kq, .slice pc cs.length kc, .slice pb bs.length kb, .slice ph hs.length kh, int d.s, int d.d, int d.v, int d.r, int d.e, .slice pl (placesA d qs.length).length kp, .map (some bm)] 97 (0, 0))) bw 2 = some (.slice pb bs.length kb) := by rw [rdc_sng]; rfl
 have w3 : rdc (sng bw (.cells #[.slice pq qs.length kq, .slice pc cs.length kc, .slice pb bs.length kb, .slice ph hs.length kh, int d.s, int d.d, int d.v, int d.r, int d.e, .slice pl (placesA d qs.length).length kp, .map (some bm)] 97 (0, 0))) bw 3 = some (.slice ph hs.length kh) := by rw [rdc_sng]; rfl
 have w4 : rdc (sng bw (.cells #[.slice pq qs.length kq, .slice pc cs.length kc, .slice pb bs.length kb, .slice ph hs.length kh, int d.s, int d.d, int d.v, int d.r, int d.e, .slice pl (placesA d qs.length).length kp, .map (some bm)] 97 (0, 0))) bw 4 = some (int d.s) := by rw [rdc_sng]; rfl
 have w5 : rdc (sng bw (.cells #[.slice pq qs.length kq, .slice pc cs.length kc, .slice pb bs.length kb, .slice ph hs.length kh, int d.s, int d.d, int d.v, int d.r, int d.e, .slice pl (placesA d qs.length).length kp, .map (some bm)] 97 (0, 0))) bw 5 = some (int d.d) := by rw [rdc_sng]; rfl
 have w6 : rdc (sng bw (.cells #[.slice pq qs.length kq, .slice pc cs.length kc, .slice pb bs.length kb, .slice ph hs.length kh, int d.s, int d.d, int d.v, int d.r, int d.e, .slice pl (placesA d qs.length).length kp, .map (some bm)] 97 (0, 0))) bw 6 = some (int d.v) := by rw [rdc_sng]; rfl
 have w7 : rdc (sng bw (.cells #[.slice pq qs.length kq, .slice pc cs.length kc, .slice pb bs.length kb, .slice ph hs.length kh, int d.s, int d.d, int d.v, int d.r, int d.e, .slice pl (placesA d qs.length).length kp, .map (some bm)] 97 (0, 0))) bw 7 = some (int d.r) := by rw [rdc_sng]; rfl
 have w8 : rdc (sng bw (.cells #[.slice pq qs.length kq, .slice pc cs.length kc, .slice pb bs.length kb, .slice ph hs.length kh, int d.s, int d.d, int d.v, int d.r, int d.e, .slice pl (placesA d qs.length).length kp, .map (some bm)] 97 (0, 0))) bw 8 = some (int d.e) := by rw [rdc_sng]; rfl
 have w9 : rdc (sng bw (.cells #[.slice pq qs.length kq, .slice pc cs.length kc, .slice pb bs.length kb, .slice ph hs.length kh, int d.s, int d.d, int d.v, int d.r, int d.e, .slice pl (placesA d qs.length).length kp, .map (some bm)] 97 (0, 0))) bw 9 = some (.slice pl (placesA d qs.length).length kp) := by rw [rdc_sng]; rfl
 have w10 : rdc (sng bw (.cells #[.slice pq qs.length kq, .slice pc cs.length kc, .slice pb bs.length kb, .slice ph hs.length kh, int d.s, int d.d, int d.v, int d.r, int d.e, .slice pl (placesA d qs.length).length kp, .map (some bm)] 97 (0, 0))) bw 10 = some (.map (some bm)) := by rw [rdc_sng]; rfl
 have wp : RdP (sng bw (.cells #[.slice pq qs.length kq, .slice pc cs.length kc, .slice pb bs.length kb, .slice ph hs.length kh, int d.s, int d.d, int d.v, int d.r, int d.e, .slice pl (placesA d qs.length).length kp, .map (some bm)] 97 (0, 0))) bw 0 [.slice pq qs.length kq, .slice pc cs.length kc] := rdP_sng (xs := [.slice pq qs.length kq, .slice pc cs.length kc, .slice pb bs.length kb, .slice ph hs.length kh, int d.s, int d.d, int d.v, int d.r, int d.e, .slice pl (placesA d qs.length).length kp, .map (some bm)]) rfl
 refine spec_in (cap := []) Tryz.func40 rfl rfl Tryz.ntmps40 rfl envZ (fun N β => ?_)
 refine B5 ?_
 refine AD ?_
 refine AA ?_
 refine AY ?_; rintro _ _ ⟨b, rfl, rfl⟩
 refine AE ?_
 refine AD ?_
 revert b; intro b2
 refine EW (X := Nat) [0, 2] (fun _ => True) (fun x => [(3, .pointer (some ⟨x, 0, none⟩))]) (fun x => [sng x (.cells #[int (vsN qs d), .slice none 0 0, int (vtx d d.s d.r), int (vtx d d.d d.e)] 36 (0, 0)), sng b2 (.cells #[int 0, .slice none 0 0, int 0, int 0] 36 (0, 0)), emp]) pickZ ?_ ?_
 ·refine A3 (.q 0 (.q 1 (.q 2 (.q 3 (.q 4 (.q 5 (.q 6 (.q 7 (.q 8 (.q 9 (.q 10 (.q 11 (.q 12 (.q 13 (.q 14 (.q 15 (.q 16 (.q 17 (.q 18 (.q 19 (.q 20 (.q 21 (.q 22 (.q 23 (.q 24 (.q 25 (.q 26 (.q 27 (.q 28 (.q 29 (.q 30 (.q 31 (.q 32 (.q 33 (.q 34 (.q 35 (.q 36 (.q 37 (.l 38 .e (.l 39 .b .nil)))))))))))))))))))))))))))))))))))))))) [] rfl (by kernel_rfl) Sel.nil ?_
  repeat' (first
   | (refine AQ ?_)
   | (refine AP ?_)
   | (refine AU ?_)
   | (refine C1 ?_)
   | (refine CL ?_)
   | (refine EH ?_)
   | (refine AV ?_)
   | (refine CJ ?_)
   | (focus ((refine' CS rfl _ rfl rfl rfl rfl _; rotate_left; (focus (first | exact CG 2 [d.s, d.r] rfl rfl rfl ⟨by kernel_rfl, by kernel_rfl⟩ rfl hMl rfl hl1 (mapAtS_rd memZ) | exact CG 2 [d.d, d.e] rfl rfl rfl ⟨by kernel_rfl, by kernel_rfl⟩ rfl hMl rfl hl2 (mapAtS_rd memZ))))))
   | (focus ((refine CE ?_; refine' FY rfl _ rfl rfl _ _; rotate_left; (focus (apply C6; exact rfl; exact rfl; exact takeZ; exact (by (repeat (first | exact (fun v hv => absurd hv List.not_mem_nil) | (refine List.forall_mem_cons.2 ⟨?_, ?_⟩; (focus (first | exact rfl | assumption))))); first | done | fail); exact rfl; exact rfl)); (focus (rintro _ _ ⟨_, rfl⟩ w hw; exact hw.sel Sel.nil)); rintro _ _ ⟨rfl, rfl⟩)))
   | (refine A4 ?_)
   | (refine C4 ?_; rintro _ _ ⟨b, rfl, rfl⟩)
   | fail)
  all_goals (rw [hplen]; refine DQ _ trivial covZ selZ)
 rintro b3 _
 refine AD ?_
 refine AD ?_
 refine AA ?_
 refine AB ?_
 refine BE (arcs_spec bw) rfl rfl Takes.nil (fun τ hτ => by simp at hτ) rfl rfl ?_
 rintro _ _ ⟨c1, rfl, rfl⟩
 refine AR (ρ := sng c1 _) takeZ ?_
 refine AE ?_
 refine AS ?_
 refine C8 (gf := 89) (cap := [.pointer (some ⟨c1, 0, none⟩)]) (ps := [45]) (X := Value × PH) rfl Tryz.func89 rfl rfl
  (hit c1) ?_
  (fun i x => OwnS 66 3 x.1 ((arcsE qs cs bs hs d).take i).length (((arcsE qs cs bs hs d).take i).flatMap (fun e => encA e.a)) x.2)
  (fun x => [sng b3 (.cells #[int (vsN qs d), x.1, int (vtx d d.s d.r), int (vtx d d.d d.e)] 36 (0, 0)), sng b2 (.cells #[int 0, .slice none 0 0, int 0, int 0] 36 (0, 0)), x.2]) (fun _ _ => False) (.slice none 0 0, emp) rfl takesZ (OwnS.nil _ _) ?_ ?_ ?_
 ·intro σ' hσ
  simp only [List.mem_cons, List.not_mem_nil, or_false] at hσ ⊢
  rcases hσ with h | h | h | h | h | h | h | h <;> simp [h]
 ·rintro lo r i ⟨u, σ1⟩ vs hvs hO hps has hbd hst hpe hfr
  obtain ⟨st, pe, fnn, tm, prm, asg, bdy, df⟩ := r
  simp only at hps has hbd hst hpe hfr
  subst hps has hbd hst hpe
  rw [List.getElem?_map] at hvs
  obtain ⟨x, hx, rfl⟩ := Option.map_eq_some_iff.1 hvs
  dsimp only at hO
  have hti : ((arcsE qs cs bs hs d).take (i + 1)) = (arcsE qs cs bs hs d).take i ++ [x] := by
   rw [List.take_add_one, hx]; rfl
  have hil : ((arcsE qs cs bs hs d).take i).length ≤ 1000000 := by rw [List.length_take]; omega
  simp only [hti]
  generalize (arcsE qs cs bs hs d).take i = O at hO hil
  have hu1 := hone _ _ _ _ hO
  refine yield_spec hfr rfl (by intro p hp; simp at hp; omega) putiZ (fun N' β' => ?_)
  dsimp only
  refine AA ?_
  refine AY ?_; rintro _ _ ⟨b, rfl, rfl⟩
  refine AX ?_; rintro _ _ ⟨rfl, rfl⟩
  refine AE ?_
  refine CU rfl rfl ?_
  refine C7 takeZ rfl ?_
  revert b; intro bx
  refine AR (ρ := sng bx _) takeZ ?_
  have px : RdP (sng bx (.cells #[int x.a.f, int x.a.t, int x.a.c, int x.c, int x.t] 105 (0, 0))) bx 0 [int x.a.f, int x.a.t, int x.a.c] := rdP_sng (xs := [int x.a.f, int x.a.t, int x.a.c, int x.c, int x.t]) rfl
  refine AS ?_
  refine AA ?_
  refine AG ?_
  refine AF ?_
  refine AG ?_
  refine AT ?_
  refine BF ?_; rintro _ _ ⟨b, rfl, rfl⟩
  refine BC (BW (by_ := 24) (s := 3) (news := [int x.a.f, int x.a.t, int x.a.c]) rfl rfl rfl rfl rfl rfl rfl hO takeZ (cells_own memZ) rfl (by (repeat (first | exact (fun v hv => absurd hv List.not_mem_nil) | (refine List.forall_mem_cons.2 ⟨?_, ?_⟩; (focus (first | exact rfl | assumption))))); first | done | fail) (by omega) (by simp only [maxLen]; omega) (by omega)) rfl rfl rfl ?_
  rintro u1 _ ⟨σ2, hO1, rfl⟩
  have hu2 := hone _ _ _ _ hO1
  refine AG ?_
  refine A9 ?_; rintro _ _ ⟨rfl, rfl⟩
  refine AE ?_
  refine A6 ?_
  refine BR takeZ rsubZ selZ ⟨(u1, σ2), .inl ⟨rfl, ?_, rfl⟩⟩
  dsimp only
  rw [List.length_append, List.flatMap_append]
  exact hO1
 ·rintro b9 ⟨u, σ1⟩ hO
  rw [List.length_map, List.take_length] at hO
  dsimp only at hO
  have hO2 : OwnS 66 3 u (arcsG qs cs bs hs d).length ((arcsG qs cs bs hs d).flatMap encA) σ1 := by
   unfold arcsG
   rw [List.length_map, List.flatMap_map]
   exact hO
  have hu1 := hone _ _ _ _ hO2
  refine A6 ?_
  refine AD ?_
  refine AA ?_
  refine AT ?_
  refine AX ?_; rintro _ _ ⟨rfl, rfl⟩
  refine AE ?_
  refine ES (v := .agg #[int (vsN qs d), u, int (vtx d d.s d.r), int (vtx d d.d d.e)]) (Marks.cons (.there .here) .nil) ?_ rsubZ ?_ ⟨σ1, ⟨u, rfl, hO2⟩, rfl⟩
  ·exact resS1 (b1 := b2) (T := 36) (v1 := [int (vsN qs d), u, int (vtx d d.s d.r), int (vtx d d.d d.e)]) rfl rfl rfl rfl (cells_own memZ)
  ·exact selZ
 ·rintro _ _ _ h; exact h.elim
set_option maxHeartbeats 16000000 in
theorem Graph_spec {ρ τ σ υ : PH} {pq pc pb ph : Option Addr} {kq kc kb kh : Nat} {qs : List Int} {cs : List Ct} {bs : List Bk} {hs : List Hd} (hT : TbAt ρ τ σ υ pq pc pb ph kq kc kb kh qs cs bs hs) (d : Dm) :
  Makes Tryz.prog (fv 10) [.agg #[.slice pq qs.length kq, .slice pc cs.length kc, .slice pb bs.length kb, .slice ph hs.length kh], .agg #[int d.s, int d.d, int d.v, int d.r, int d.e]] [ρ, τ, σ, υ] (fun r χ' => if validT qs cs bs hs d = true then ∃ u, r = .tuple #[.agg #[int (vsN qs d), u, int (vtx d d.s d.r), int (vtx d d.d d.e)], int 0] ∧ OwnS 66 3 u (arcsG qs cs bs hs d).length ((arcsG qs cs bs hs d).flatMap encA) χ' else r = .tuple #[.agg #[int 0, .slice none 0 0, int 0, int 0], int 1] ∧ χ' = emp) := by
 refine spec_in (cap := []) Tryz.func10 rfl rfl Tryz.ntmps10 rfl envZ (fun N β => ?_)
 refine AD ?_
 refine AA ?_
 refine BC (BK rfl) rfl rfl rfl ?_
 rintro _ _ ⟨b1, rfl, rfl⟩
 refine AR (ρ := sng b1 _) takeZ ?_
 have ct : RdN (sng b1 (.cells #[.slice pq qs.length kq, .slice pc cs.length kc, .slice pb bs.length kb, .slice ph hs.length kh] 29 (0, 0))) b1 0 [.slice pq qs.length kq, .slice pc cs.length kc, .slice pb bs.length kb, .slice ph hs.length kh] := rdN_sng (vs := [.slice pq qs.length kq, .slice pc cs.length kc, .slice pb bs.length kb, .slice ph hs.length kh])
 have ct0 : rdc (sng b1 (.cells #[.slice pq qs.length kq, .slice pc cs.length kc, .slice pb bs.length kb, .slice ph hs.length kh] 29 (0, 0))) b1 0 = some (.slice pq qs.length kq) := by rw [rdc_sng]; rfl
 have ct1 : rdc (sng b1 (.cells #[.slice pq qs.length kq, .slice pc cs.length kc, .slice pb bs.length kb, .slice ph hs.length kh] 29 (0, 0))) b1 1 = some (.slice pc cs.length kc) := by rw [rdc_sng]; rfl
 have ct2 : rdc (sng b1 (.cells #[.slice pq qs.length kq, .slice pc cs.length kc, .slice pb bs.length kb, .slice ph hs.length kh] 29 (0, 0))) b1 2 = some (.slice pb bs.length kb) := by rw [rdc_sng]; rfl
 have ct3 : rdc (sng b1 (.cells #[.slice pq qs.length kq, .slice pc cs.length kc, .slice pb bs.length kb, .slice ph hs.length kh] 29 (0, 0))) b1 3 = some (.slice ph hs.length kh) := by rw [rdc_sng]; rfl
 have ctp : RdP (sng b1 (.cells #[.slice pq qs.length kq, .slice pc cs.length kc, .slice pb bs.length kb, .slice ph hs.length kh] 29 (0, 0))) b1 0 [.slice pq qs.length kq, .slice pc cs.length kc] := rdP_sng (xs := [.slice pq qs.length kq, .slice pc cs.length kc, .slice pb bs.length kb, .slice ph hs.length kh]) rfl
 refine BC (BK rfl) rfl rfl rfl ?_
 rintro _ _ ⟨b2, rfl, rfl⟩
 refine AR (ρ := sng b2 _) takeZ ?_
 have cd : RdN (sng b2 (.cells #[int d.s, int d.d, int d.v, int d.r, int d.e] 31 (0, 0))) b2 0 [int d.s, int d.d, int d.v, int d.r, int d.e] := rdN_sng (vs := [int d.s, int d.d, int d.v, int d.r, int d.e])
 have cd0 : rdc (sng b2 (.cells #[int d.s, int d.d, int d.v, int d.r, int d.e] 31 (0, 0))) b2 0 = some (int d.s) := by rw [rdc_sng]; rfl
 have cd1 : rdc (sng b2 (.cells #[int d.s, int d.d, int d.v, int d.r, int d.e] 31 (0, 0))) b2 1 = some (int d.d) := by rw [rdc_sng]; rfl
 have cd2 : rdc (sng b2 (.cells #[int d.s, int d.d, int d.v, int d.r, int d.e] 31 (0, 0))) b2 2 = some (int d.v) := by rw [rdc_sng]; rfl
 have cd3 : rdc (sng b2 (.cells #[int d.s, int d.d, int d.v, int d.r, int d.e] 31 (0, 0))) b2 3 = some (int d.r) := by rw [rdc_sng]; rfl
 have cd4 : rdc (sng b2 (.cells #[int d.s, int d.d, int d.v, int d.r, int d.e] 31 (0, 0))) b2 4 = some (int d.e) := by rw [rdc_sng]; rfl
 refine B5 ?_
 refine AY ?_; rintro _ _ ⟨b, rfl, rfl⟩
 refine AC ?_
 refine AE ?_
 refine AD ?_
 refine AA ?_
 refine AT ?_
 refine AT ?_
 revert b; intro b4
 refine BE (build_spec hT d) rfl rfl Takes.nil rdZ rfl rfl ?_
 rintro _ H' (⟨hv, rfl, rfl⟩ | ⟨hv, bw, bm, pl0, χ, M, rfl, rfl, hO, hM⟩)
 ·refine AB ?_
  refine AL ?_
  refine AL ?_
  refine AC ?_
  refine AC ?_
  refine AE ?_
  refine AD ?_
  refine AD ?_
  refine AA ?_
  refine AB ?_
  refine A7 ?_
  refine AE ?_
  refine AO rfl ?_
  refine AD ?_
  refine AA ?_
  refine BZ ?_
  refine AX ?_; rintro _ _ ⟨rfl, rfl⟩
  refine AC ?_
  refine AE ?_
  exact AI (resSE (b1 := b4) (T := 36) (v1 := [int 0, .slice none 0 0, int 0, int 0]) rfl rfl rfl rfl rfl (cells_own memZ)) rsubZ selZ ⟨emp, by dsimp only; rw [if_neg (by simp [hv])]; exact ⟨rfl, rfl⟩, rfl⟩
 have h := vok hv
 have h0 := vokB hv
 have hdm := h.dm
 unfold okDm at hdm
 have hnq := h.nq
 obtain ⟨pl, kp, rfl⟩ := hO.form
 have hpl : SlE encS 2 χ (.slice pl (placesA d qs.length).length kp) (placesA d qs.length) := hO.at
 refine AR (ρ := sng bw _) takeZ ?_
 refine AR (ρ := sng bm _) takeZ ?_
 refine AR (ρ := χ) takeZ ?_
 have w0 : rdc (sng bw (.cells #[.slice pq qs.length kq, .slice pc cs.length kc, .slice pb bs.length kb, .slice ph hs.length kh, int d.s, int d.d, int d.v, int d.r, int d.e, .slice pl (placesA d qs.length).length kp, .map (some bm)] 97 (0, 0))) bw 0 = some (.slice pq qs.length kq) := by rw [rdc_sng]; rfl
 have w1 : rdc (sng bw (.cells #[.slice pq qs.length kq, .slice pc cs.length kc, .slice pb bs.length kb, .slice ph hs.length kh, int d.s, int d.d, int d.v, int d.r, int d.e, .slice pl (placesA d qs.length).length kp, .map (some bm)] 97 (0, 0))) bw 1 = some (.slice pc cs.length kc) := by rw [rdc_sng]; rfl
 have w2 : rdc (sng bw (.cells #[.slice pq qs.length kq, .slice pc cs.length kc, .slice pb bs.length kb, .slice ph hs.length kh, int d.s, int d.d, int d.v, int d.r, int d.e, .slice pl (placesA d qs.length).length kp, .map (some bm)] 97 (0, 0))) bw 2 = some (.slice pb bs.length kb) := by rw [rdc_sng]; rfl
 have w3 : rdc (sng bw (.cells #[.slice pq qs.length kq, .slice pc cs.length kc, .slice pb bs.length kb, .slice ph hs.length kh, int d.s, int d.d, int d.v, int d.r, int d.e, .slice pl (placesA d qs.length).length kp, .map (some bm)] 97 (0, 0))) bw 3 = some (.slice ph hs.length kh) := by rw [rdc_sng]; rfl
 have w4 : rdc (sng bw (.cells #[.slice pq qs.length kq, .slice pc cs.length kc, .slice pb bs.length kb, .slice ph hs.length kh, int d.s, int d.d, int d.v, int d.r, int d.e, .slice pl (placesA d qs.length).length kp, .map (some bm)] 97 (0, 0))) bw 4 = some (int d.s) := by rw [rdc_sng]; rfl
 have w5 : rdc (sng bw (.cells #[.slice pq qs.length kq, .slice pc cs.length kc, .slice pb bs.length kb, .slice ph hs.length kh, int d.s, int d.d, int d.v, int d.r, int d.e, .slice pl (placesA d qs.length).length kp, .map (some bm)] 97 (0, 0))) bw 5 = some (int d.d) := by rw [rdc_sng]; rfl
 have w6 : rdc (sng bw (.cells #[.slice pq qs.length kq, .slice pc cs.length kc, .slice pb bs.length kb, .slice ph hs.length kh, int d.s, int d.d, int d.v, int d.r, int d.e, .slice pl (placesA d qs.length).length kp, .map (some bm)] 97 (0, 0))) bw 6 = some (int d.v) := by rw [rdc_sng]; rfl
 have w7 : rdc (sng bw (.cells #[.slice pq qs.length kq, .slice pc cs.length kc, .slice pb bs.length kb, .slice ph hs.length kh, int d.s, int d.d, int d.v, int d.r, int d.e, .slice pl (placesA d qs.length).length kp, .map (some bm)] 97 (0, 0))) bw 7 = some (int d.r) := by rw [rdc_sng]; rfl
 have w8 : rdc (sng bw (.cells #[.slice pq qs.length kq, .slice pc cs.length kc, .slice pb bs.length kb, .slice ph hs.length kh, int d.s, int d.d, int d.v, int d.r, int d.e, .slice pl (placesA d qs.length).length kp, .map (some bm)] 97 (0, 0))) bw 8 = some (int d.e) := by rw [rdc_sng]; rfl
 have w9 : rdc (sng bw (.cells #[.slice pq qs.length kq, .slice pc cs.length kc, .slice pb bs.length kb, .slice ph hs.length kh, int d.s, int d.d, int d.v, int d.r, int d.e, .slice pl (placesA d qs.length).length kp, .map (some bm)] 97 (0, 0))) bw 9 = some (.slice pl (placesA d qs.length).length kp) := by rw [rdc_sng]; rfl
 have w10 : rdc (sng bw (.cells #[.slice pq qs.length kq, .slice pc cs.length kc, .slice pb bs.length kb, .slice ph hs.length kh, int d.s, int d.d, int d.v, int d.r, int d.e, .slice pl (placesA d qs.length).length kp, .map (some bm)] 97 (0, 0))) bw 10 = some (.map (some bm)) := by rw [rdc_sng]; rfl
 have hg := graph_spec hT bw bm kp pl χ M d h h0 hpl hM
 refine AB ?_
 refine AL ?_
 refine AL ?_
 refine AC ?_
 refine AC ?_
 refine AE ?_
 refine AD ?_
 refine AD ?_
 refine AA ?_
 refine AB ?_
 refine A7 ?_
 refine AE ?_
 refine AN rfl ?_
 refine AM ?_
 refine AD ?_
 refine AA ?_
 refine AB ?_
 refine BG hg rfl rfl rdZ rfl rfl ?_
 rintro _ σ1 ⟨u, rfl, hO1⟩
 have hu1 : u.oneCell' = true := by obtain ⟨_, _, rfl⟩ := hO1.form; rfl
 refine AX ?_; rintro _ _ ⟨rfl, rfl⟩
 refine AC ?_
 refine AE ?_
 exact AI (resSE (b1 := b4) (T := 36) (v1 := [int (vsN qs d), u, int (vtx d d.s d.r), int (vtx d d.d d.e)]) rfl rfl rfl rfl rfl (cells_own memZ)) rsubZ selZ ⟨σ1, by dsimp only; rw [if_pos hv]; exact ⟨u, rfl, hO1⟩, rfl⟩
def vertexR (qs : List Int) (cs : List Ct) (bs : List Bk) (hs : List Hd) (d : Dm) (n t : Int) : Int × Int :=
 if validT qs cs bs hs d = true then (if (0 ≤ n ∧ n < qs.length) ∧ d.r ≤ t ∧ t ≤ d.e then (vtx d n t, 0) else (0, 2)) else (0, 1)
def placeR (qs : List Int) (cs : List Ct) (bs : List Bk) (hs : List Hd) (d : Dm) (v : Int) : Int × Int × Int :=
 if validT qs cs bs hs d = true then (if 0 ≤ v ∧ v < vsN qs d then (v / wd d, d.r + v % wd d, 0) else (0, 0, 2)) else (0, 0, 1)
set_option maxHeartbeats 16000000 in
theorem Vertex_spec {ρ τ σ υ : PH} {pq pc pb ph : Option Addr} {kq kc kb kh : Nat} {qs : List Int} {cs : List Ct} {bs : List Bk} {hs : List Hd} (hT : TbAt ρ τ σ υ pq pc pb ph kq kc kb kh qs cs bs hs) (d : Dm) (n t : Int) :
  Ans Tryz.prog (fv 12) [.agg #[.slice pq qs.length kq, .slice pc cs.length kc, .slice pb bs.length kb, .slice ph hs.length kh], .agg #[int d.s, int d.d, int d.v, int d.r, int d.e], int n, int t] [ρ, τ, σ, υ] (fun r => r = .tuple #[int (vertexR qs cs bs hs d n t).1, int (vertexR qs cs bs hs d n t).2]) := by
 unfold vertexR
 refine spec_in (cap := []) Tryz.func12 rfl rfl Tryz.ntmps12 rfl envZ (fun N β => ?_)
 refine AD ?_
 refine AA ?_
 refine BC (BK rfl) rfl rfl rfl ?_
 rintro _ _ ⟨b1, rfl, rfl⟩
 refine AR (ρ := sng b1 _) takeZ ?_
 have ct : RdN (sng b1 (.cells #[.slice pq qs.length kq, .slice pc cs.length kc, .slice pb bs.length kb, .slice ph hs.length kh] 29 (0, 0))) b1 0 [.slice pq qs.length kq, .slice pc cs.length kc, .slice pb bs.length kb, .slice ph hs.length kh] := rdN_sng (vs := [.slice pq qs.length kq, .slice pc cs.length kc, .slice pb bs.length kb, .slice ph hs.length kh])
 have ct0 : rdc (sng b1 (.cells #[.slice pq qs.length kq, .slice pc cs.length kc, .slice pb bs.length kb, .slice ph hs.length kh] 29 (0, 0))) b1 0 = some (.slice pq qs.length kq) := by rw [rdc_sng]; rfl
 have ct1 : rdc (sng b1 (.cells #[.slice pq qs.length kq, .slice pc cs.length kc, .slice pb bs.length kb, .slice ph hs.length kh] 29 (0, 0))) b1 1 = some (.slice pc cs.length kc) := by rw [rdc_sng]; rfl
 have ct2 : rdc (sng b1 (.cells #[.slice pq qs.length kq, .slice pc cs.length kc, .slice pb bs.length kb, .slice ph hs.length kh] 29 (0, 0))) b1 2 = some (.slice pb bs.length kb) := by rw [rdc_sng]; rfl
 have ct3 : rdc (sng b1 (.cells #[.slice pq qs.length kq, .slice pc cs.length kc, .slice pb bs.length kb, .slice ph hs.length kh] 29 (0, 0))) b1 3 = some (.slice ph hs.length kh) := by rw [rdc_sng]; rfl
 have ctp : RdP (sng b1 (.cells #[.slice pq qs.length kq, .slice pc cs.length kc, .slice pb bs.length kb, .slice ph hs.length kh] 29 (0, 0))) b1 0 [.slice pq qs.length kq, .slice pc cs.length kc] := rdP_sng (xs := [.slice pq qs.length kq, .slice pc cs.length kc, .slice pb bs.length kb, .slice ph hs.length kh]) rfl
 refine BC (BK rfl) rfl rfl rfl ?_
 rintro _ _ ⟨b2, rfl, rfl⟩
 refine AR (ρ := sng b2 _) takeZ ?_
 have cd : RdN (sng b2 (.cells #[int d.s, int d.d, int d.v, int d.r, int d.e] 31 (0, 0))) b2 0 [int d.s, int d.d, int d.v, int d.r, int d.e] := rdN_sng (vs := [int d.s, int d.d, int d.v, int d.r, int d.e])
 have cd0 : rdc (sng b2 (.cells #[int d.s, int d.d, int d.v, int d.r, int d.e] 31 (0, 0))) b2 0 = some (int d.s) := by rw [rdc_sng]; rfl
 have cd1 : rdc (sng b2 (.cells #[int d.s, int d.d, int d.v, int d.r, int d.e] 31 (0, 0))) b2 1 = some (int d.d) := by rw [rdc_sng]; rfl
 have cd2 : rdc (sng b2 (.cells #[int d.s, int d.d, int d.v, int d.r, int d.e] 31 (0, 0))) b2 2 = some (int d.v) := by rw [rdc_sng]; rfl
 have cd3 : rdc (sng b2 (.cells #[int d.s, int d.d, int d.v, int d.r, int d.e] 31 (0, 0))) b2 3 = some (int d.r) := by rw [rdc_sng]; rfl
 have cd4 : rdc (sng b2 (.cells #[int d.s, int d.d, int d.v, int d.r, int d.e] 31 (0, 0))) b2 4 = some (int d.e) := by rw [rdc_sng]; rfl
 refine AC ?_
 refine AC ?_
 refine AE ?_
 refine AD ?_
 refine AA ?_
 refine AT ?_
 refine AT ?_
 refine BE (build_spec hT d) rfl rfl Takes.nil rdZ rfl rfl ?_
 rintro _ H' (⟨hv, rfl, rfl⟩ | ⟨hv, bw, bm, pl0, χ, M, rfl, rfl, hO, hM⟩)
 ·rw [if_neg (by simp [hv])]
  refine AB ?_
  refine AL ?_
  refine AL ?_
  refine AC ?_
  refine AC ?_
  refine AE ?_
  refine AD ?_
  refine AD ?_
  refine AA ?_
  refine AB ?_
  refine A7 ?_
  refine AE ?_
  refine AO rfl ?_
  refine AD ?_
  refine AA ?_
  refine AC ?_
  refine AC ?_
  refine AE ?_
  exact AI (res2 rfl rfl rfl) rsubZ selZ ⟨rfl, rfl⟩
 rw [if_pos hv]
 have h := vok hv
 have h0 := vokB hv
 have hdm := h.dm
 unfold okDm at hdm
 have hnq := h.nq
 obtain ⟨pl, kp, rfl⟩ := hO.form
 have hpl : SlE encS 2 χ (.slice pl (placesA d qs.length).length kp) (placesA d qs.length) := hO.at
 refine AR (ρ := sng bw _) takeZ ?_
 refine AR (ρ := sng bm _) takeZ ?_
 refine AR (ρ := χ) takeZ ?_
 have w0 : rdc (sng bw (.cells #[.slice pq qs.length kq, .slice pc cs.length kc, .slice pb bs.length kb, .slice ph hs.length kh, int d.s, int d.d, int d.v, int d.r, int d.e, .slice pl (placesA d qs.length).length kp, .map (some bm)] 97 (0, 0))) bw 0 = some (.slice pq qs.length kq) := by rw [rdc_sng]; rfl
 have w1 : rdc (sng bw (.cells #[.slice pq qs.length kq, .slice pc cs.length kc, .slice pb bs.length kb, .slice ph hs.length kh, int d.s, int d.d, int d.v, int d.r, int d.e, .slice pl (placesA d qs.length).length kp, .map (some bm)] 97 (0, 0))) bw 1 = some (.slice pc cs.length kc) := by rw [rdc_sng]; rfl
 have w2 : rdc (sng bw (.cells #[.slice pq qs.length kq, .slice pc cs.length kc, .slice pb bs.length kb, .slice ph hs.length kh, int d.s, int d.d, int d.v, int d.r, int d.e, .slice pl (placesA d qs.length).length kp, .map (some bm)] 97 (0, 0))) bw 2 = some (.slice pb bs.length kb) := by rw [rdc_sng]; rfl
 have w3 : rdc (sng bw (.cells #[.slice pq qs.length kq, .slice pc cs.length kc, .slice pb bs.length kb, .slice ph hs.length kh, int d.s, int d.d, int d.v, int d.r, int d.e, .slice pl (placesA d qs.length).length kp, .map (some bm)] 97 (0, 0))) bw 3 = some (.slice ph hs.length kh) := by rw [rdc_sng]; rfl
 have w4 : rdc (sng bw (.cells #[.slice pq qs.length kq, .slice pc cs.length kc, .slice pb bs.length kb, .slice ph hs.length kh, int d.s, int d.d, int d.v, int d.r, int d.e, .slice pl (placesA d qs.length).length kp, .map (some bm)] 97 (0, 0))) bw 4 = some (int d.s) := by rw [rdc_sng]; rfl
 have w5 : rdc (sng bw (.cells #[.slice pq qs.length kq, .slice pc cs.length kc, .slice pb bs.length kb, .slice ph hs.length kh, int d.s, int d.d, int d.v, int d.r, int d.e, .slice pl (placesA d qs.length).length kp, .map (some bm)] 97 (0, 0))) bw 5 = some (int d.d) := by rw [rdc_sng]; rfl
 have w6 : rdc (sng bw (.cells #[.slice pq qs.length kq, .slice pc cs.length kc, .slice pb bs.length kb, .slice ph hs.length kh, int d.s, int d.d, int d.v, int d.r, int d.e, .slice pl (placesA d qs.length).length kp, .map (some bm)] 97 (0, 0))) bw 6 = some (int d.v) := by rw [rdc_sng]; rfl
 have w7 : rdc (sng bw (.cells #[.slice pq qs.length kq, .slice pc cs.length kc, .slice pb bs.length kb, .slice ph hs.length kh, int d.s, int d.d, int d.v, int d.r, int d.e, .slice pl (placesA d qs.length).length kp, .map (some bm)] 97 (0, 0))) bw 7 = some (int d.r) := by rw [rdc_sng]; rfl
 have w8 : rdc (sng bw (.cells #[.slice pq qs.length kq, .slice pc cs.length kc, .slice pb bs.length kb, .slice ph hs.length kh, int d.s, int d.d, int d.v, int d.r, int d.e, .slice pl (placesA d qs.length).length kp, .map (some bm)] 97 (0, 0))) bw 8 = some (int d.e) := by rw [rdc_sng]; rfl
 have w9 : rdc (sng bw (.cells #[.slice pq qs.length kq, .slice pc cs.length kc, .slice pb bs.length kb, .slice ph hs.length kh, int d.s, int d.d, int d.v, int d.r, int d.e, .slice pl (placesA d qs.length).length kp, .map (some bm)] 97 (0, 0))) bw 9 = some (.slice pl (placesA d qs.length).length kp) := by rw [rdc_sng]; rfl
 have w10 : rdc (sng bw (.cells #[.slice pq qs.length kq, .slice pc cs.length kc, .slice pb bs.length kb, .slice ph hs.length kh, int d.s, int d.d, int d.v, int d.r, int d.e, .slice pl (placesA d qs.length).length kp, .map (some bm)] 97 (0, 0))) bw 10 = some (.map (some bm)) := by rw [rdc_sng]; rfl
 have hMl := hM.1
 have hMg := hM.2 n t
 by_cases hc : (0 ≤ n ∧ n < qs.length) ∧ d.r ≤ t ∧ t ≤ d.e
 ·rw [if_pos (by omega)] at hMg
  rw [if_pos hc]
  refine AB ?_
  refine AL ?_
  refine AL ?_
  refine AC ?_
  refine AC ?_
  refine AE ?_
  refine AD ?_
  refine AD ?_
  refine AA ?_
  refine AB ?_
  refine A7 ?_
  refine AE ?_
  refine AN rfl ?_
  refine AM ?_
  refine AD ?_
  refine AA ?_
  refine AB ?_
  refine BD ?_
  refine AG ?_
  refine AF ?_
  refine AB ?_
  refine AB ?_
  refine BZ ?_
  focus ((refine B0 (DZ 2 [n, t] rfl rfl rfl ⟨by kernel_rfl, by kernel_rfl⟩ rfl hMl rfl (mapAtS_rd memZ)) rfl rfl rfl ?_; rw [hMg]))
  refine AB ?_
  refine AL ?_
  refine AL ?_
  refine AC ?_
  refine AC ?_
  refine AE ?_
  refine AD ?_
  refine AD ?_
  refine AA ?_
  refine AB ?_
  refine A7 ?_
  refine AE ?_
  refine AN rfl ?_
  refine AM ?_
  refine AD ?_
  refine AA ?_
  refine AB ?_
  refine AC ?_
  refine AC ?_
  refine AE ?_
  exact AI (res2 rfl rfl rfl) rsubZ selZ ⟨rfl, rfl⟩
 ·rw [if_neg (by omega)] at hMg
  rw [if_neg hc]
  refine AB ?_
  refine AL ?_
  refine AL ?_
  refine AC ?_
  refine AC ?_
  refine AE ?_
  refine AD ?_
  refine AD ?_
  refine AA ?_
  refine AB ?_
  refine A7 ?_
  refine AE ?_
  refine AN rfl ?_
  refine AM ?_
  refine AD ?_
  refine AA ?_
  refine AB ?_
  refine BD ?_
  refine AG ?_
  refine AF ?_
  refine AB ?_
  refine AB ?_
  refine BZ ?_
  focus ((refine B0 (DZ 2 [n, t] rfl rfl rfl ⟨by kernel_rfl, by kernel_rfl⟩ rfl hMl rfl (mapAtS_rd memZ)) rfl rfl rfl ?_; rw [hMg]))
  refine AB ?_
  refine AL ?_
  refine AL ?_
  refine AC ?_
  refine AC ?_
  refine AE ?_
  refine AD ?_
  refine AD ?_
  refine AA ?_
  refine AB ?_
  refine A7 ?_
  refine AE ?_
  refine AO rfl ?_
  refine AD ?_
  refine AA ?_
  refine AC ?_
  refine AC ?_
  refine AE ?_
  exact AI (res2 rfl rfl rfl) rsubZ selZ ⟨rfl, rfl⟩
set_option maxHeartbeats 16000000 in
theorem Place_spec {ρ τ σ υ : PH} {pq pc pb ph : Option Addr} {kq kc kb kh : Nat} {qs : List Int} {cs : List Ct} {bs : List Bk} {hs : List Hd} (hT : TbAt ρ τ σ υ pq pc pb ph kq kc kb kh qs cs bs hs) (d : Dm) (v : Int) :
  Ans Tryz.prog (fv 14) [.agg #[.slice pq qs.length kq, .slice pc cs.length kc, .slice pb bs.length kb, .slice ph hs.length kh], .agg #[int d.s, int d.d, int d.v, int d.r, int d.e], int v] [ρ, τ, σ, υ] (fun r => r = .tuple #[int (placeR qs cs bs hs d v).1, int (placeR qs cs bs hs d v).2.1, int (placeR qs cs bs hs d v).2.2]) := by
 unfold placeR
 refine spec_in (cap := []) Tryz.func14 rfl rfl Tryz.ntmps14 rfl envZ (fun N β => ?_)
 refine AD ?_
 refine AA ?_
 refine BC (BK rfl) rfl rfl rfl ?_
 rintro _ _ ⟨b1, rfl, rfl⟩
 refine AR (ρ := sng b1 _) takeZ ?_
 have ct : RdN (sng b1 (.cells #[.slice pq qs.length kq, .slice pc cs.length kc, .slice pb bs.length kb, .slice ph hs.length kh] 29 (0, 0))) b1 0 [.slice pq qs.length kq, .slice pc cs.length kc, .slice pb bs.length kb, .slice ph hs.length kh] := rdN_sng (vs := [.slice pq qs.length kq, .slice pc cs.length kc, .slice pb bs.length kb, .slice ph hs.length kh])
 have ct0 : rdc (sng b1 (.cells #[.slice pq qs.length kq, .slice pc cs.length kc, .slice pb bs.length kb, .slice ph hs.length kh] 29 (0, 0))) b1 0 = some (.slice pq qs.length kq) := by rw [rdc_sng]; rfl
 have ct1 : rdc (sng b1 (.cells #[.slice pq qs.length kq, .slice pc cs.length kc, .slice pb bs.length kb, .slice ph hs.length kh] 29 (0, 0))) b1 1 = some (.slice pc cs.length kc) := by rw [rdc_sng]; rfl
 have ct2 : rdc (sng b1 (.cells #[.slice pq qs.length kq, .slice pc cs.length kc, .slice pb bs.length kb, .slice ph hs.length kh] 29 (0, 0))) b1 2 = some (.slice pb bs.length kb) := by rw [rdc_sng]; rfl
 have ct3 : rdc (sng b1 (.cells #[.slice pq qs.length kq, .slice pc cs.length kc, .slice pb bs.length kb, .slice ph hs.length kh] 29 (0, 0))) b1 3 = some (.slice ph hs.length kh) := by rw [rdc_sng]; rfl
 have ctp : RdP (sng b1 (.cells #[.slice pq qs.length kq, .slice pc cs.length kc, .slice pb bs.length kb, .slice ph hs.length kh] 29 (0, 0))) b1 0 [.slice pq qs.length kq, .slice pc cs.length kc] := rdP_sng (xs := [.slice pq qs.length kq, .slice pc cs.length kc, .slice pb bs.length kb, .slice ph hs.length kh]) rfl
 refine BC (BK rfl) rfl rfl rfl ?_
 rintro _ _ ⟨b2, rfl, rfl⟩
 refine AR (ρ := sng b2 _) takeZ ?_
 have cd : RdN (sng b2 (.cells #[int d.s, int d.d, int d.v, int d.r, int d.e] 31 (0, 0))) b2 0 [int d.s, int d.d, int d.v, int d.r, int d.e] := rdN_sng (vs := [int d.s, int d.d, int d.v, int d.r, int d.e])
 have cd0 : rdc (sng b2 (.cells #[int d.s, int d.d, int d.v, int d.r, int d.e] 31 (0, 0))) b2 0 = some (int d.s) := by rw [rdc_sng]; rfl
 have cd1 : rdc (sng b2 (.cells #[int d.s, int d.d, int d.v, int d.r, int d.e] 31 (0, 0))) b2 1 = some (int d.d) := by rw [rdc_sng]; rfl
 have cd2 : rdc (sng b2 (.cells #[int d.s, int d.d, int d.v, int d.r, int d.e] 31 (0, 0))) b2 2 = some (int d.v) := by rw [rdc_sng]; rfl
 have cd3 : rdc (sng b2 (.cells #[int d.s, int d.d, int d.v, int d.r, int d.e] 31 (0, 0))) b2 3 = some (int d.r) := by rw [rdc_sng]; rfl
 have cd4 : rdc (sng b2 (.cells #[int d.s, int d.d, int d.v, int d.r, int d.e] 31 (0, 0))) b2 4 = some (int d.e) := by rw [rdc_sng]; rfl
 refine AC ?_
 refine AC ?_
 refine AC ?_
 refine AE ?_
 refine AD ?_
 refine AA ?_
 refine AT ?_
 refine AT ?_
 refine BE (build_spec hT d) rfl rfl Takes.nil rdZ rfl rfl ?_
 rintro _ H' (⟨hv, rfl, rfl⟩ | ⟨hv, bw, bm, pl0, χ, M, rfl, rfl, hO, hM⟩)
 ·rw [if_neg (by simp [hv])]
  refine AB ?_
  refine AL ?_
  refine AL ?_
  refine AC ?_
  refine AC ?_
  refine AE ?_
  refine AD ?_
  refine AD ?_
  refine AA ?_
  refine AB ?_
  refine A7 ?_
  refine AE ?_
  refine AO rfl ?_
  refine AD ?_
  refine AA ?_
  refine AC ?_
  refine AC ?_
  refine AC ?_
  refine AE ?_
  exact AI (res3 rfl rfl rfl rfl) rsubZ selZ ⟨rfl, rfl⟩
 rw [if_pos hv]
 have h := vok hv
 have h0 := vokB hv
 have hdm := h.dm
 unfold okDm at hdm
 have hnq := h.nq
 obtain ⟨pl, kp, rfl⟩ := hO.form
 have hpl : SlE encS 2 χ (.slice pl (placesA d qs.length).length kp) (placesA d qs.length) := hO.at
 refine AR (ρ := sng bw _) takeZ ?_
 refine AR (ρ := sng bm _) takeZ ?_
 refine AR (ρ := χ) takeZ ?_
 have w0 : rdc (sng bw (.cells #[.slice pq qs.length kq, .slice pc cs.length kc, .slice pb bs.length kb, .slice ph hs.length kh, int d.s, int d.d, int d.v, int d.r, int d.e, .slice pl (placesA d qs.length).length kp, .map (some bm)] 97 (0, 0))) bw 0 = some (.slice pq qs.length kq) := by rw [rdc_sng]; rfl
 have w1 : rdc (sng bw (.cells #[.slice pq qs.length kq, .slice pc cs.length kc, .slice pb bs.length kb, .slice ph hs.length kh, int d.s, int d.d, int d.v, int d.r, int d.e, .slice pl (placesA d qs.length).length kp, .map (some bm)] 97 (0, 0))) bw 1 = some (.slice pc cs.length kc) := by rw [rdc_sng]; rfl
 have w2 : rdc (sng bw (.cells #[.slice pq qs.length kq, .slice pc cs.length kc, .slice pb bs.length kb, .slice ph hs.length kh, int d.s, int d.d, int d.v, int d.r, int d.e, .slice pl (placesA d qs.length).length kp, .map (some bm)] 97 (0, 0))) bw 2 = some (.slice pb bs.length kb) := by rw [rdc_sng]; rfl
 have w3 : rdc (sng bw (.cells #[.slice pq qs.length kq, .slice pc cs.length kc, .slice pb bs.length kb, .slice ph hs.length kh, int d.s, int d.d, int d.v, int d.r, int d.e, .slice pl (placesA d qs.length).length kp, .map (some bm)] 97 (0, 0))) bw 3 = some (.slice ph hs.length kh) := by rw [rdc_sng]; rfl
 have w4 : rdc (sng bw (.cells #[.slice pq qs.length kq, .slice pc cs.length kc, .slice pb bs.length kb, .slice ph hs.length kh, int d.s, int d.d, int d.v, int d.r, int d.e, .slice pl (placesA d qs.length).length kp, .map (some bm)] 97 (0, 0))) bw 4 = some (int d.s) := by rw [rdc_sng]; rfl
 have w5 : rdc (sng bw (.cells #[.slice pq qs.length kq, .slice pc cs.length kc, .slice pb bs.length kb, .slice ph hs.length kh, int d.s, int d.d, int d.v, int d.r, int d.e, .slice pl (placesA d qs.length).length kp, .map (some bm)] 97 (0, 0))) bw 5 = some (int d.d) := by rw [rdc_sng]; rfl
 have w6 : rdc (sng bw (.cells #[.slice pq qs.length kq, .slice pc cs.length kc, .slice pb bs.length kb, .slice ph hs.length kh, int d.s, int d.d, int d.v, int d.r, int d.e, .slice pl (placesA d qs.length).length kp, .map (some bm)] 97 (0, 0))) bw 6 = some (int d.v) := by rw [rdc_sng]; rfl
 have w7 : rdc (sng bw (.cells #[.slice pq qs.length kq, .slice pc cs.length kc, .slice pb bs.length kb, .slice ph hs.length kh, int d.s, int d.d, int d.v, int d.r, int d.e, .slice pl (placesA d qs.length).length kp, .map (some bm)] 97 (0, 0))) bw 7 = some (int d.r) := by rw [rdc_sng]; rfl
 have w8 : rdc (sng bw (.cells #[.slice pq qs.length kq, .slice pc cs.length kc, .slice pb bs.length kb, .slice ph hs.length kh, int d.s, int d.d, int d.v, int d.r, int d.e, .slice pl (placesA d qs.length).length kp, .map (some bm)] 97 (0, 0))) bw 8 = some (int d.e) := by rw [rdc_sng]; rfl
 have w9 : rdc (sng bw (.cells #[.slice pq qs.length kq, .slice pc cs.length kc, .slice pb bs.length kb, .slice ph hs.length kh, int d.s, int d.d, int d.v, int d.r, int d.e, .slice pl (placesA d qs.length).length kp, .map (some bm)] 97 (0, 0))) bw 9 = some (.slice pl (placesA d qs.length).length kp) := by rw [rdc_sng]; rfl
 have w10 : rdc (sng bw (.cells #[.slice pq qs.length kq, .slice pc cs.length kc, .slice pb bs.length kb, .slice ph hs.length kh, int d.s, int d.d, int d.v, int d.r, int d.e, .slice pl (placesA d qs.length).length kp, .map (some bm)] 97 (0, 0))) bw 10 = some (.map (some bm)) := by rw [rdc_sng]; rfl
 have hplen : (((placesA d qs.length).length : Nat) : Int) = vsN qs d := placesA_len (d := d) (by omega) qs.length
 by_cases hc : 0 ≤ v ∧ v < vsN qs d
 rotate_left
 ·rw [if_neg hc]
  by_cases hn : v < 0
  ·refine AB ?_
   refine AL ?_
   refine AL ?_
   refine AC ?_
   refine AC ?_
   refine AE ?_
   refine AD ?_
   refine AD ?_
   refine AA ?_
   refine AB ?_
   refine A7 ?_
   refine AE ?_
   refine AN rfl ?_
   refine AM ?_
   refine AD ?_
   refine AD ?_
   refine AA ?_
   refine AB ?_
   refine BI ?_
   refine AB ?_
   refine AH rfl rfl rfl ?_
   refine AH rfl rfl rfl ?_
   refine AH rfl rfl rfl ?_
   refine AH rfl rfl rfl ?_
   refine AH rfl rfl rfl ?_
   refine AH rfl rfl rfl ?_
   refine AH rfl rfl rfl ?_
   refine AK ?_
   refine AE ?_
   refine AO rfl ?_
   refine AD ?_
   refine AA ?_
   refine AC ?_
   refine AC ?_
   refine AC ?_
   refine AE ?_
   exact AI (res3 rfl rfl rfl rfl) rsubZ selZ ⟨rfl, rfl⟩
  ·refine AB ?_
   refine AL ?_
   refine AL ?_
   refine AC ?_
   refine AC ?_
   refine AE ?_
   refine AD ?_
   refine AD ?_
   refine AA ?_
   refine AB ?_
   refine A7 ?_
   refine AE ?_
   refine AN rfl ?_
   refine AM ?_
   refine AD ?_
   refine AD ?_
   refine AA ?_
   refine AB ?_
   refine AZ ?_
   refine AB ?_
   refine AB ?_
   refine AB ?_
   refine BD ?_
   refine AG ?_
   refine AF ?_
   refine AW ?_
   refine CB ?_
   refine AJ ?_
   refine AE ?_
   refine AO rfl ?_
   refine AD ?_
   refine AA ?_
   refine AC ?_
   refine AC ?_
   refine AC ?_
   refine AE ?_
   exact AI (res3 rfl rfl rfl rfl) rsubZ selZ ⟨rfl, rfl⟩
 rw [if_pos hc]
 obtain ⟨n, t, hn, ht1, ht2, hkv, hkn⟩ := place_of (d := d) (by omega) (k := v.toNat) (N := qs.length) (by rw [Int.toNat_of_nonneg hc.1]; exact hc.2)
 rw [Int.toNat_of_nonneg hc.1] at hkv
 have hx := placesA_get (d := d) (by omega) ht1 ht2 hn
 obtain ⟨_, _, ep, hrp⟩ := hpl.val encS_len
 simp only [Value.slice.injEq] at ep
 obtain ⟨rfl, _, rfl⟩ := ep
 rw [← hkv] at hx
 obtain ⟨b6, o6, rfl, hRd6, y0, y1⟩ := spRow hrp hx
 have hdv := vtx_div (d := d) (n := n) (t := t) ht1 ht2
 have hdm2 := vtx_mod (d := d) (n := n) (t := t) ht1 ht2
 rw [← hkv] at hdv hdm2
 rw [hdv, hdm2, show d.r + (t - d.r) = t by omega]
 obtain ⟨k, rfl⟩ := Int.eq_ofNat_of_zero_le hc.1
 refine AB ?_
 refine AL ?_
 refine AL ?_
 refine AC ?_
 refine AC ?_
 refine AE ?_
 refine AD ?_
 refine AD ?_
 refine AA ?_
 refine AB ?_
 refine A7 ?_
 refine AE ?_
 refine AN rfl ?_
 refine AM ?_
 refine AD ?_
 refine AD ?_
 refine AA ?_
 refine AB ?_
 refine AZ ?_
 refine AB ?_
 refine AB ?_
 refine AB ?_
 refine BD ?_
 refine AG ?_
 refine AF ?_
 refine AW ?_
 refine BH ?_
 refine AJ ?_
 refine AE ?_
 refine AN rfl ?_
 refine AM ?_
 refine AD ?_
 refine AA ?_
 refine AB ?_
 refine BD ?_
 refine AG ?_
 refine AF ?_
 refine AB ?_
 refine BL ?_
 refine AT ?_
 refine AY ?_; rintro _ _ ⟨b, rfl, rfl⟩
 refine AX ?_; rintro _ _ ⟨rfl, rfl⟩
 refine AE ?_
 refine AD ?_
 refine A3 (.q 0 (.q 1 (.q 2 (.q 3 (.q 4 (.q 5 (.q 6 .nil))))))) [] rfl (by kernel_rfl) Sel.nil ?_
 refine AU ?_
 refine AP ?_
 refine AU ?_
 refine AP ?_
 refine A8 ?_
 refine A8 ?_
 refine A8 ?_
 refine A4 ?_
 skip
 exact AI (res3 rfl rfl rfl rfl) rsubZ selZ ⟨rfl, rfl⟩
end Go.Proofs.YthdoegkjifgegaaGreat
/- Values of flows, capacities of cuts, equal lists: what the functions answer. -/
namespace Go.Proofs.YthdoegkjifgegaaGreat
open Go.Eng Go.Flow
set_option maxRecDepth 100000
set_option maxHeartbeats 4000000

theorem value_spec (ρ σ : PH) (v u : Value) (s : Int) (l : List Arc) (fl : List Int) (hv : ArcsAt ρ v l) (hu : IntsAt σ u fl) (hl : l.length ≤ 20000) (hfl : fl.length = l.length) (hs : small fl) :
  Ans Tryz.prog (fv 82) [v, u, int s] [ρ, σ] (fun r => r = int (fval s l fl)) := by
 obtain ⟨q, c, rfl, hr⟩ := hv.val encA_len
 obtain ⟨q2, c2, rfl, hr2⟩ := hu.val Eng.encI_len
 refine spec_in (cap := []) Tryz.func82 rfl rfl Tryz.ntmps82 rfl envZ (fun N β => ?_)
 refine AD ?_
 refine AA ?_
 refine AC ?_
 refine AE ?_
 refine AD ?_
 refine AA ?_
 refine AC ?_
 refine AE ?_
 refine AD ?_
 refine AD ?_
 refine AA ?_
 refine AB ?_
 refine AW ?_
 refine AB ?_
 refine AE ?_
 refine AS ?_
 refine BJ [0, 1, 2, 10, 11] ((0, 0) : Nat × Int) (fun x => x.1 ≤ l.length ∧ x.2 = fval s (l.take x.1) (fl.take x.1)) (fun x => [(7, int x.2), (12, int x.1)]) (fun _ => []) (fun x => l.length - x.1) pickZ ⟨by simp, by simp [fval]⟩ covZ selZ ?_
 rintro ⟨k, y⟩ ⟨hk, hy⟩
 simp only at hk hy
 by_cases hlt : k < l.length
 ·have hx := List.getElem?_eq_getElem hlt
  obtain ⟨b, o, rfl, hA, h0, h1, h2⟩ := arcRow hr hx
  have hx2 := List.getElem?_eq_getElem (show k < fl.length by omega)
  obtain ⟨b2, o2, rfl, g0⟩ := hr2.int hx2
  have hbd := fval_bd s (l.take k) (fl.take k) (small_take hs k)
  have hlen : (fl.take k).length = k := by simp; omega
  rw [← hy, hlen] at hbd
  have hx3 := hs fl[k] (List.getElem_mem _)
  have hstep : fval s (l.take (k + 1)) (fl.take (k + 1)) = y + ((if l[k].f = s then fl[k] else 0) - (if l[k].t = s then fl[k] else 0)) := by
   rw [take_snoc' hlt, take_snoc' (show k < fl.length by omega), fval_snoc _ _ _ _ _ (by simp; omega), hy]
  repeat' (first
   | (refine AB ?_)
   | (refine AC ?_)
   | (refine AF ?_)
   | (refine AG ?_)
   | (refine BV ?_)
   | (refine BL ?_)
   | (refine BA ?_)
   | (refine BI ?_)
   | (refine CO ?_)
   | (refine CQ ?_)
   | (refine AT ?_)
   | (refine AD ?_)
   | (refine AA ?_)
   | (refine AE ?_)
   | (refine AS ?_)
   | (refine A6 ?_)
   | (refine AM ?_)
   | (refine AO rfl ?_)
   | (refine AN rfl ?_)
   | (refine AY ?_; rintro _ _ ⟨b, rfl, rfl⟩)
   | (refine AX ?_; rintro _ _ ⟨rfl, rfl⟩)
   | (focus ((refine CI rfl rfl (cmp_eq _ _) rfl rfl (fun h => ?_) (fun h => ?_))))
   | fail)
  all_goals refine A0 (k + 1, _) ⟨by simp only; omega, ?_⟩ (by simp only; omega) covZ selZ
  all_goals simp only
  all_goals rw [hstep]
  all_goals (repeat (first | rw [if_pos (by assumption)] | rw [if_neg (by assumption)]))
  all_goals omega
 ·refine AD ?_
  refine AA ?_
  refine AZ ?_
  refine AE ?_
  refine AD ?_
  refine AN rfl ?_
  refine BB rfl ?_
  refine AD ?_
  refine AA ?_
  refine AB ?_
  refine AC ?_
  refine AE ?_
  refine AI (res1 rfl rfl) rsubZ selZ ⟨rfl, ?_⟩
  rw [hy, List.take_of_length_le (by omega), List.take_of_length_le (by omega)]

/-- a slice of truth values in a block of its own -/
theorem capacity_spec (ρ : PH) (v : Value) (n b cp : Nat) (T : TypeId) (l : List Arc) (m : List Bool) (hv : ArcsAt ρ v l) (hl : l.length ≤ 20000) (hok : ∀ a ∈ l, okArc n a = true) (hm : m.length = n) :
  Ans Tryz.prog (fv 57) [v, .slice (some ⟨b, 0, none⟩) n cp] [ρ, sng b (.cells (bools m) T (0, 0))] (fun r => r = int (capOf (fun j => m.getD j false) l)) := by
 obtain ⟨q, c, rfl, hr⟩ := hv.val encA_len
 refine spec_in (cap := []) Tryz.func57 rfl rfl Tryz.ntmps57 rfl envZ (fun N β => ?_)
 refine AD ?_
 refine AA ?_
 refine AC ?_
 refine AE ?_
 refine AD ?_
 refine AA ?_
 refine AC ?_
 refine AE ?_
 refine AD ?_
 refine AD ?_
 refine AA ?_
 refine AB ?_
 refine AW ?_
 refine AB ?_
 refine AE ?_
 refine AS ?_
 refine BJ [0, 1, 8, 9] ((0, 0) : Nat × Int) (fun x => x.1 ≤ l.length ∧ x.2 = capOf (fun j => m.getD j false) (l.take x.1)) (fun x => [(5, int x.2), (10, int x.1)]) (fun _ => []) (fun x => l.length - x.1) pickZ ⟨by simp, by simp [capOf]⟩ covZ selZ ?_
 rintro ⟨k, y⟩ ⟨hk, hy⟩
 simp only at hk hy
 by_cases hlt : k < l.length
 ·have hx := List.getElem?_eq_getElem hlt
  obtain ⟨b', o, rfl, hA, h0, h1, h2⟩ := arcRow hr hx
  have hbd := capOf_bd n (fun j => m.getD j false) (l.take k) (fun a ha => hok a (List.mem_of_mem_take ha))
  have hlen : (l.take k).length = k := by simp; omega
  rw [← hy, hlen] at hbd
  obtain ⟨g1, g2, g3, g4, g5, g6, g7⟩ := okArc_iff.1 (hok l[k] (List.getElem_mem hlt))
  have hstep : capOf (fun j => m.getD j false) (l.take (k + 1)) = y + (if m.getD l[k].f.toNat false = true ∧ m.getD l[k].t.toNat false = false then l[k].c else 0) := by
   rw [take_snoc' hlt, capOf_snoc, hy]
  obtain ⟨f, hf⟩ := Int.eq_ofNat_of_zero_le g1
  obtain ⟨t, ht⟩ := Int.eq_ofNat_of_zero_le g3
  rw [hf, ht] at hA hstep
  rw [hf] at g2
  rw [ht] at g4
  have e1 : m[f]? = some (m.getD f false) := by
   have : f < m.length := by omega
   simp [this]
  have e2 : m[t]? = some (m.getD t false) := by
   have : t < m.length := by omega
   simp [this]
  simp only [Int.toNat_natCast] at hstep
  cases c1 : m.getD f false with
  | false =>
   rw [c1] at e1
   rw [if_neg (by rw [c1]; simp), Int.add_zero] at hstep
   refine AD ?_
   refine AA ?_
   refine BI ?_
   refine AE ?_
   refine AD ?_
   refine AO rfl ?_
   refine AM ?_
   refine AD ?_
   refine AS ?_
   refine AD ?_
   refine AA ?_
   refine BL ?_
   refine AT ?_
   refine AY ?_; rintro _ _ ⟨b, rfl, rfl⟩
   refine AX ?_; rintro _ _ ⟨rfl, rfl⟩
   refine AE ?_
   refine AD ?_
   refine AA ?_
   refine AB ?_
   refine AG ?_
   refine AF ?_
   refine B4 ?_
   refine AF ?_
   refine AB ?_
   refine AH rfl rfl rfl ?_
   refine AH rfl rfl rfl ?_
   refine AH rfl rfl rfl ?_
   refine AH rfl rfl rfl ?_
   refine AH rfl rfl rfl ?_
   refine AH rfl rfl rfl ?_
   refine AJ ?_
   refine AE ?_
   refine AN rfl ?_
   refine AM ?_
   refine A6 ?_
   refine AA ?_
   refine BA ?_
   refine AB ?_
   refine AE ?_
   exact A0 (k + 1, _) ⟨by simp only; omega, hstep.symm⟩ (by simp only; omega) covZ selZ
  | true =>
   rw [c1] at e1
   cases c2 : m.getD t false with
   | false =>
    rw [c2] at e2
    rw [if_pos ⟨c1, c2⟩] at hstep
    refine AD ?_
    refine AA ?_
    refine BI ?_
    refine AE ?_
    refine AD ?_
    refine AO rfl ?_
    refine AM ?_
    refine AD ?_
    refine AS ?_
    refine AD ?_
    refine AA ?_
    refine BL ?_
    refine AT ?_
    refine AY ?_; rintro _ _ ⟨b, rfl, rfl⟩
    refine AX ?_; rintro _ _ ⟨rfl, rfl⟩
    refine AE ?_
    refine AD ?_
    refine AA ?_
    refine AB ?_
    refine AG ?_
    refine AF ?_
    refine B4 ?_
    refine AF ?_
    refine AB ?_
    refine AB ?_
    refine AG ?_
    refine AF ?_
    refine B4 ?_
    refine AF ?_
    refine A7 ?_
    refine AK ?_
    refine AE ?_
    refine AO rfl ?_
    refine AA ?_
    refine AB ?_
    refine AG ?_
    refine AF ?_
    refine CO ?_
    refine AC ?_
    refine AE ?_
    refine A6 ?_
    refine AA ?_
    refine BA ?_
    refine AB ?_
    refine AE ?_
    exact A0 (k + 1, _) ⟨by simp only; omega, hstep.symm⟩ (by simp only; omega) covZ selZ
   | true =>
    rw [c2] at e2
    rw [if_neg (by rw [c2]; simp), Int.add_zero] at hstep
    refine AD ?_
    refine AA ?_
    refine BI ?_
    refine AE ?_
    refine AD ?_
    refine AO rfl ?_
    refine AM ?_
    refine AD ?_
    refine AS ?_
    refine AD ?_
    refine AA ?_
    refine BL ?_
    refine AT ?_
    refine AY ?_; rintro _ _ ⟨b, rfl, rfl⟩
    refine AX ?_; rintro _ _ ⟨rfl, rfl⟩
    refine AE ?_
    refine AD ?_
    refine AA ?_
    refine AB ?_
    refine AG ?_
    refine AF ?_
    refine B4 ?_
    refine AF ?_
    refine AB ?_
    refine AB ?_
    refine AG ?_
    refine AF ?_
    refine B4 ?_
    refine AF ?_
    refine A7 ?_
    refine AK ?_
    refine AE ?_
    refine AN rfl ?_
    refine AM ?_
    refine A6 ?_
    refine AA ?_
    refine BA ?_
    refine AB ?_
    refine AE ?_
    exact A0 (k + 1, _) ⟨by simp only; omega, hstep.symm⟩ (by simp only; omega) covZ selZ
 ·refine AD ?_
  refine AA ?_
  refine AZ ?_
  refine AE ?_
  refine AD ?_
  refine AN rfl ?_
  refine BB rfl ?_
  refine AD ?_
  refine AA ?_
  refine AB ?_
  refine AC ?_
  refine AE ?_
  refine AI (res1 rfl rfl) rsubZ selZ ⟨rfl, ?_⟩
  rw [hy, List.take_of_length_le (by omega)]

end Go.Proofs.YthdoegkjifgegaaGreat
/- Capacity and Value, of the program and of the reference. -/
namespace Go.Proofs.YthdoegkjifgegaaGreat
open Go.Eng Go.Flow
set_option maxRecDepth 100000
set_option maxHeartbeats 4000000

theorem capFun_eq (n : Nat) (side : List Int) (l : List Arc) (hok : ∀ a ∈ l, okArc n a = true) : capOf (fun j => (marksOf n side).getD j false) l = capOf (fun j => decide ((j : Int) ∈ side)) l := by
 induction l with
 | nil => rfl
 | cons a l ih =>
  obtain ⟨g1, g2, g3, g4, g5, g6, g7⟩ := okArc_iff.1 (hok a (by simp))
  simp only [capOf]
  rw [ih (fun b hb => hok b (by simp [hb]))]
  have e1 : (marksOf n side).getD a.f.toNat false = decide ((a.f.toNat : Int) ∈ side) := by
   rw [List.getD_eq_getElem?_getD, marksOf_get (by omega)]; rfl
  have e2 : (marksOf n side).getD a.t.toNat false = decide ((a.t.toNat : Int) ∈ side) := by
   rw [List.getD_eq_getElem?_getD, marksOf_get (by omega)]; rfl
  simp only [e1, e2]

theorem flowCapacity_spec (ρ σ : PH) (v u : Value) (n : Int) (l : List Arc) (side : List Int) (hv : ArcsAt ρ v l) (hu : IntsAt σ u side) (hl : l.length ≤ 1000000) (hm : side.length ≤ 1000000) :
  Ans Tryz.prog (fv 47) [int n, v, u] [ρ, σ] (fun r => r = .tuple #[int (capacitySpec n l side).1, int (capacitySpec n l side).2]) := by
 obtain ⟨q2, c2, rfl, hr2⟩ := hu.val Eng.encI_len
 refine spec_in (cap := []) Tryz.func47 rfl rfl Tryz.ntmps47 rfl envZ (fun N β => ?_)
 refine AD ?_
 refine AA ?_
 refine AC ?_
 refine AC ?_
 refine AE ?_
 refine AD ?_
 refine AD ?_
 refine AA ?_
 refine AB ?_
 refine AB ?_
 focus ((refine A2 (check_spec ρ v n l hv hl) rfl rfl rdZ rfl rfl ?_; rintro _ rfl))
 refine AC ?_
 refine AE ?_
 refine AD ?_
 refine AA ?_
 refine AB ?_
 by_cases hc : chk n l = 0
 rotate_left
 ·refine CX ?_
  refine AE ?_
  refine AO rfl ?_
  refine AD ?_
  refine AA ?_
  refine AB ?_
  refine AC ?_
  refine AC ?_
  refine AE ?_
  refine AI (res2 rfl rfl rfl) rsubZ selZ ⟨rfl, ?_⟩
  unfold capacitySpec; rw [if_pos hc]
 obtain ⟨a1, a2, a3, hok⟩ := chk_ok hc
 obtain ⟨n, rfl⟩ := Int.eq_ofNat_of_zero_le a1
 refine BM ?_
 refine AE ?_
 refine AN rfl ?_
 refine AM ?_
 refine AD ?_
 refine AA ?_
 refine AB ?_
 refine F9 ?_; rintro _ _ ⟨b, rfl, rfl⟩
 refine AC ?_
 refine AE ?_
 refine AD ?_
 refine AD ?_
 refine AA ?_
 refine AB ?_
 refine AW ?_
 refine AB ?_
 refine AE ?_
 refine AS ?_
 rw [← marksOf_nil]
 refine BJ [0, 1, 2, 9, 20, 21] (0 : Nat) (fun k => k ≤ side.length ∧ sideChk n none side = sideChk n (prevAt side k) (side.drop k)) (fun k => [(22, int k)]) (fun k => [sng b (.cells (bools (marksOf n (side.take k))) 4 (0, 0))]) (fun k => side.length - k) pickZ ⟨by omega, by simp [prevAt]⟩ covZ selZ ?_
 rintro k ⟨hk, hy⟩
 have hml := marksOf_len n (side.take k)
 by_cases hlt : k < side.length
 ·obtain ⟨b2, o2, rfl, g1⟩ := hr2.int (List.getElem?_eq_getElem hlt)
  have g2 : 1 ≤ k → rdc σ b2 (o2 + (k - 1)) = some (int side[k - 1]) := fun h => by
   obtain ⟨b3, o3, e, g⟩ := hr2.int (List.getElem?_eq_getElem (show k - 1 < side.length by omega))
   simp only [Option.some.injEq, Addr.mk.injEq, and_true] at e
   rw [e.1, e.2]; exact g
  have hin : 0 ≤ side[k] ∧ side[k] < (n : Int) ∨ side[k] < 0 ∨ (n : Int) ≤ side[k] := by omega
  rcases hin with hin | hin
  ·have hpv : k = 0 ∨ (1 ≤ k ∧ side[k] ≤ side[k - 1]) ∨ (1 ≤ k ∧ side[k - 1] < side[k]) := by omega
   have hpa : 1 ≤ k → prevAt side k = some side[k - 1] := fun h => by
    obtain ⟨j, rfl⟩ : ∃ j, k = j + 1 := ⟨k - 1, by omega⟩
    simp [prevAt]
   obtain ⟨x, hx⟩ := Int.eq_ofNat_of_zero_le hin.1
   rcases hpv with rfl | ⟨h1, h2⟩ | ⟨h1, h2⟩
   ·have hst := sideChk_step (n := n) hlt hin.1 hin.2 (by simp [prevAt])
    rw [hx] at g1 hin
    refine AD ?_
    refine AA ?_
    refine BI ?_
    refine AE ?_
    refine AD ?_
    refine AO rfl ?_
    refine AM ?_
    refine AD ?_
    refine AS ?_
    refine AD ?_
    refine AA ?_
    refine AB ?_
    refine BV ?_
    refine AF ?_
    refine AC ?_
    refine AC ?_
    refine AE ?_
    refine AD ?_
    refine AD ?_
    refine AA ?_
    refine AB ?_
    refine AB ?_
    focus ((refine A2 (inside_spec _ _) rfl rfl rdZ rfl rfl ?_; rintro v (⟨rfl, h⟩ | ⟨rfl, h⟩); rotate_left; (focus (exfalso; omega))))
    refine A7 ?_
    refine AE ?_
    refine AN rfl ?_
    refine AM ?_
    refine AD ?_
    refine AD ?_
    refine AA ?_
    refine AB ?_
    refine BY ?_
    refine AB ?_
    refine AH rfl rfl rfl ?_
    refine AH rfl rfl rfl ?_
    refine AH rfl rfl rfl ?_
    refine AH rfl rfl rfl ?_
    refine AH rfl rfl rfl ?_
    refine AH rfl rfl rfl ?_
    refine AH rfl rfl rfl ?_
    refine AJ ?_
    refine AE ?_
    refine AN rfl ?_
    refine AM ?_
    refine AA ?_
    refine AB ?_
    refine AB ?_
    refine B4 ?_
    refine EL ?_; rintro _ _ ⟨rfl, rfl⟩
    refine AE ?_
    refine A6 ?_
    refine AA ?_
    refine BA ?_
    refine AB ?_
    refine AE ?_
    refine A0 1 ⟨by omega, by rw [hy, hst]⟩ (by omega) covZ ?_
    rw [take_snoc' hlt, hx, marksOf_snoc]
    exact selZ
   ·have hst := sideChk_nine (n := n) hlt hin.1 hin.2 (hpa h1) h2
    have hcs : capacitySpec n l side = (0, 9) := by
     unfold capacitySpec
     rw [if_neg (by rw [hc]; simp), hy, hst, if_pos (by simp)]
    have g3 := g2 h1
    rw [hx] at g1 hin h2
    refine AD ?_
    refine AA ?_
    refine BI ?_
    refine AE ?_
    refine AD ?_
    refine AO rfl ?_
    refine AM ?_
    refine AD ?_
    refine AS ?_
    refine AD ?_
    refine AA ?_
    refine AB ?_
    refine BV ?_
    refine AF ?_
    refine AC ?_
    refine AC ?_
    refine AE ?_
    refine AD ?_
    refine AD ?_
    refine AA ?_
    refine AB ?_
    refine AB ?_
    focus ((refine A2 (inside_spec _ _) rfl rfl rdZ rfl rfl ?_; rintro v (⟨rfl, h⟩ | ⟨rfl, h⟩); rotate_left; (focus (exfalso; omega))))
    refine A7 ?_
    refine AE ?_
    refine AN rfl ?_
    refine AM ?_
    refine AD ?_
    refine AD ?_
    refine AA ?_
    refine AB ?_
    refine CT ?_
    refine AB ?_
    refine AB ?_
    refine AB ?_
    refine AB ?_
    refine DM ?_
    refine BV ?_
    refine AF ?_
    refine CN ?_
    refine AK ?_
    refine AE ?_
    refine AO rfl ?_
    refine AD ?_
    refine AA ?_
    refine AC ?_
    refine AC ?_
    refine AE ?_
    exact AI (res2 rfl rfl rfl) rsubZ selZ ⟨rfl, by rw [hcs]⟩
   ·have hst := sideChk_step (n := n) hlt hin.1 hin.2 (fun p hp => by rw [hpa h1] at hp; simp at hp; omega)
    have g3 := g2 h1
    rw [hx] at g1 hin h2
    refine AD ?_
    refine AA ?_
    refine BI ?_
    refine AE ?_
    refine AD ?_
    refine AO rfl ?_
    refine AM ?_
    refine AD ?_
    refine AS ?_
    refine AD ?_
    refine AA ?_
    refine AB ?_
    refine BV ?_
    refine AF ?_
    refine AC ?_
    refine AC ?_
    refine AE ?_
    refine AD ?_
    refine AD ?_
    refine AA ?_
    refine AB ?_
    refine AB ?_
    focus ((refine A2 (inside_spec _ _) rfl rfl rdZ rfl rfl ?_; rintro v (⟨rfl, h⟩ | ⟨rfl, h⟩); rotate_left; (focus (exfalso; omega))))
    refine A7 ?_
    refine AE ?_
    refine AN rfl ?_
    refine AM ?_
    refine AD ?_
    refine AD ?_
    refine AA ?_
    refine AB ?_
    refine CT ?_
    refine AB ?_
    refine AB ?_
    refine AB ?_
    refine AB ?_
    refine DM ?_
    refine BV ?_
    refine AF ?_
    refine C0 ?_
    refine AK ?_
    refine AE ?_
    refine AN rfl ?_
    refine AM ?_
    refine AA ?_
    refine AB ?_
    refine AB ?_
    refine B4 ?_
    refine EL ?_; rintro _ _ ⟨rfl, rfl⟩
    refine AE ?_
    refine A6 ?_
    refine AA ?_
    refine BA ?_
    refine AB ?_
    refine AE ?_
    refine A0 (k + 1) ⟨by omega, by rw [hy, hst]⟩ (by omega) covZ ?_
    rw [take_snoc' hlt, hx, marksOf_snoc]
    exact selZ
  ·have hst := sideChk_two (n := n) (prevAt side k) hlt hin
   have hcs : capacitySpec n l side = (0, 2) := by
    unfold capacitySpec
    rw [if_neg (by rw [hc]; simp), hy, hst, if_pos (by simp)]
   refine AD ?_
   refine AA ?_
   refine BI ?_
   refine AE ?_
   refine AD ?_
   refine AO rfl ?_
   refine AM ?_
   refine AD ?_
   refine AS ?_
   refine AD ?_
   refine AA ?_
   refine AB ?_
   refine BV ?_
   refine AF ?_
   refine AC ?_
   refine AC ?_
   refine AE ?_
   refine AD ?_
   refine AD ?_
   refine AA ?_
   refine AB ?_
   refine AB ?_
   focus ((refine A2 (inside_spec _ _) rfl rfl rdZ rfl rfl ?_; rintro v (⟨rfl, h⟩ | ⟨rfl, h⟩); (focus (exfalso; omega))))
   refine A7 ?_
   refine AE ?_
   refine AO rfl ?_
   refine AD ?_
   refine AA ?_
   refine AC ?_
   refine AC ?_
   refine AE ?_
   exact AI (res2 rfl rfl rfl) rsubZ selZ ⟨rfl, by rw [hcs]⟩
 ·obtain rfl : k = side.length := by omega
  rw [List.take_length] at hml
  rw [List.take_length]
  refine AD ?_
  refine AA ?_
  refine AZ ?_
  refine AE ?_
  refine AD ?_
  refine AN rfl ?_
  refine BB rfl ?_
  refine AD ?_
  refine AA ?_
  refine AB ?_
  refine AB ?_
  focus ((refine A2 (capacity_spec ρ v n b n 4 l (marksOf n side) hv (by omega) hok hml) rfl rfl rdZ rfl rfl ?_; rintro _ rfl))
  refine AC ?_
  refine AC ?_
  refine AE ?_
  refine AI (res2 rfl rfl rfl) rsubZ selZ ⟨rfl, ?_⟩
  unfold capacitySpec
  rw [if_neg (by rw [hc]; simp), hy, List.drop_length]
  rw [if_neg (by simp [sideChk]), capFun_eq n side l hok]

end Go.Proofs.YthdoegkjifgegaaGreat
/- Value, of the program and of the reference. -/
namespace Go.Proofs.YthdoegkjifgegaaGreat
open Go.Eng Go.Flow
set_option maxRecDepth 100000
set_option maxHeartbeats 4000000

theorem balanced_of {n : Nat} {l : List Arc} {fl : List Int} {s t : Int} (h : ∀ v : Nat, v < n → (v : Int) = s ∨ (v : Int) = t ∨ fval v l fl = 0) : balanced n l fl s t = true := by
 unfold balanced
 rw [List.all_eq_true]
 intro v hv
 rw [decide_eq_true_eq]
 exact h v (by simpa using hv)
theorem balanced_not {n : Nat} {l : List Arc} {fl : List Int} {s t : Int} {v : Nat} (hv : v < n) (h1 : (v : Int) ≠ s) (h2 : (v : Int) ≠ t) (h3 : fval v l fl ≠ 0) : balanced n l fl s t = false := by
 cases h : balanced n l fl s t with
 | false => rfl
 | true =>
  unfold balanced at h
  rw [List.all_eq_true] at h
  have := h v (by simpa using hv)
  rw [decide_eq_true_eq] at this
  exact absurd this (by simp [h1, h2, h3])
theorem inCap_take_false {l : List Arc} {fl : List Int} {k : Nat} (hk : k < l.length) (hfl : fl.length = l.length) (h : ¬ (0 ≤ fl[k] ∧ fl[k] ≤ l[k].c)) : inCap l fl = false := by
 cases hc : inCap l fl with
 | false => rfl
 | true => exact absurd (inCap_get l fl hc k l[k] fl[k] (List.getElem?_eq_getElem hk) (List.getElem?_eq_getElem (by omega))) h

theorem flowValue_spec (ρ σ : PH) (v u : Value) (n s t : Int) (l : List Arc) (fl : List Int) (hv : ArcsAt ρ v l) (hu : IntsAt σ u fl) (hl : l.length ≤ 1000000) :
    Ans Tryz.prog (fv 44) [int n, v, u, int s, int t] [ρ, σ] (fun r => r = .tuple #[int (valueSpec n l fl s t).1, int (valueSpec n l fl s t).2]) := by
  obtain ⟨q, c, rfl, hr⟩ := hv.val encA_len
  obtain ⟨q2, c2, rfl, hr2⟩ := hu.val Eng.encI_len
  refine spec_in (cap := []) Tryz.func44 rfl rfl Tryz.ntmps44 rfl envZ (fun N β => ?_)
  refine AD ?_
  refine AA ?_
  refine AC ?_
  refine AC ?_
  refine AE ?_
  refine AD ?_
  refine AD ?_
  refine AA ?_
  refine AB ?_
  refine AB ?_
  focus ((refine A2 (check_spec ρ _ n l hv hl) rfl rfl rdZ rfl rfl ?_; rintro _ rfl))
  refine AC ?_
  refine AE ?_
  refine AD ?_
  refine AA ?_
  refine AB ?_
  by_cases hc : chk n l = 0
  rotate_left
  · refine CX ?_
    refine AE ?_
    refine AO rfl ?_
    refine AD ?_
    refine AA ?_
    refine AB ?_
    refine AC ?_
    refine AC ?_
    refine AE ?_
    refine AI (res2 rfl rfl rfl) rsubZ selZ ⟨rfl, ?_⟩
    unfold valueSpec; rw [if_pos hc]
  obtain ⟨a1, a2, a3, hok⟩ := chk_ok hc
  obtain ⟨n, rfl⟩ := Int.eq_ofNat_of_zero_le a1
  by_cases he : okEnds n s t = true
  rotate_left
  · have he' : okEnds n s t = false := by simpa using he
    refine BM ?_
    refine AE ?_
    refine AN rfl ?_
    refine AM ?_
    refine AD ?_
    refine AD ?_
    refine AA ?_
    refine AB ?_
    refine AB ?_
    refine AB ?_
    focus ((refine A2 (ends_spec n s t) rfl rfl rdZ rfl rfl ?_; rintro _ rfl; rw [he', if_neg (by simp)]))
    refine AC ?_
    refine AE ?_
    refine AD ?_
    refine AA ?_
    refine AB ?_
    refine CX ?_
    refine AE ?_
    refine AO rfl ?_
    refine AD ?_
    refine AA ?_
    refine AB ?_
    refine AC ?_
    refine AC ?_
    refine AE ?_
    refine AI (res2 rfl rfl rfl) rsubZ selZ ⟨rfl, ?_⟩
    unfold valueSpec; rw [if_neg (by rw [hc]; simp), if_pos he']
  obtain ⟨s1, s2, t1, t2, st⟩ := okEnds_iff.1 he
  refine BM ?_
  refine AE ?_
  refine AN rfl ?_
  refine AM ?_
  refine AD ?_
  refine AD ?_
  refine AA ?_
  refine AB ?_
  refine AB ?_
  refine AB ?_
  focus ((refine A2 (ends_spec n s t) rfl rfl rdZ rfl rfl ?_; rintro _ rfl; rw [he, if_pos rfl]))
  refine AC ?_
  refine AE ?_
  refine AD ?_
  refine AA ?_
  refine AB ?_
  refine BM ?_
  refine AE ?_
  refine AN rfl ?_
  refine AM ?_
  refine AD ?_
  refine AD ?_
  refine AA ?_
  refine AB ?_
  refine AW ?_
  refine AB ?_
  refine AW ?_
  by_cases hfl : fl.length = l.length
  rotate_left
  · refine CX ?_
    refine AE ?_
    refine AO rfl ?_
    refine AD ?_
    refine AA ?_
    refine AC ?_
    refine AC ?_
    refine AE ?_
    refine AI (res2 rfl rfl rfl) rsubZ selZ ⟨rfl, ?_⟩
    unfold valueSpec; rw [if_neg (by rw [hc]; simp), if_neg (by rw [he]; simp), if_pos hfl]
  refine BM ?_
  refine AE ?_
  refine AN rfl ?_
  refine AM ?_
  refine AD ?_
  refine AA ?_
  refine AB ?_
  refine D9 ?_; rintro _ _ ⟨b, rfl, rfl⟩
  refine AC ?_
  refine AE ?_
  refine AD ?_
  refine AD ?_
  refine AA ?_
  refine AB ?_
  refine AW ?_
  refine AB ?_
  refine AE ?_
  refine AS ?_
  rw [show List.replicate n (0 : Int) = negL (netL n [] []) from by rw [netL_nil]; simp [negL]]
  refine BJ [0, 1, 2, 3, 4, 14, 39, 40] (0 : Nat) (fun k => k ≤ l.length ∧ inCap (l.take k) (fl.take k) = true) (fun k => [(41, int k)]) (fun k => [sng b (.cells (ints (negL (netL n (l.take k) (fl.take k)))) 3 (0, 0))]) (fun k => l.length - k) pickZ ⟨by omega, by simp [inCap]⟩ covZ selZ ?_
  rintro k ⟨hk, hy⟩
  by_cases hlt : k < l.length
  · have hltf : k < fl.length := by omega
    obtain ⟨b', o, rfl, hA, h0, h1, h2⟩ := arcRow hr (List.getElem?_eq_getElem hlt)
    obtain ⟨b2, o2, rfl, f0⟩ := hr2.int (List.getElem?_eq_getElem hltf)
    obtain ⟨g1, g2, g3, g4, g5, g6, g7⟩ := okArc_iff.1 (hok l[k] (List.getElem_mem hlt))
    by_cases hin : 0 ≤ fl[k] ∧ fl[k] ≤ l[k].c
    rotate_left
    · have hvs : valueSpec n l fl s t = (0, 2) := by
        unfold valueSpec
        rw [if_neg (by rw [hc]; simp), if_neg (by rw [he]; simp), if_neg (by simpa using hfl), if_pos (inCap_take_false hlt hfl hin)]
      rcases (show fl[k] < 0 ∨ (0 ≤ fl[k] ∧ l[k].c < fl[k]) by omega) with hin' | hin'
      all_goals
        refine AD ?_
        refine AA ?_
        refine BI ?_
        refine AE ?_
        refine AD ?_
        refine AO rfl ?_
        refine AM ?_
        refine AD ?_
        refine AS ?_
        refine AD ?_
        refine AA ?_
        refine AB ?_
        refine BL ?_
        refine AT ?_
        refine AY ?_; rintro _ _ ⟨b, rfl, rfl⟩
        refine AC ?_
        refine AX ?_; rintro _ _ ⟨rfl, rfl⟩
        refine AE ?_
        refine AD ?_
        refine AD ?_
        refine A3 (.q 0 (.q 1 (.q 2 (.q 3 (.q 4 (.q 5 (.q 6 (.q 7 (.q 8 (.q 9 (.q 10 (.q 11 (.q 12 (.q 13 .nil)))))))))))))) [] rfl (by kernel_rfl) selZ ?_
        repeat' (first
          | (refine AQ ?_)
          | (refine AP ?_)
          | (refine AU ?_)
          | (refine CM ?_)
          | (refine BS ?_)
          | (refine B8 ?_)
          | (refine EI ?_)
          | (refine DN ?_)
          | (refine EJ ?_)
          | (refine A5 rfl rfl rfl rfl rfl ?_)
          | (refine A4 ?_)
          | fail)
        refine AO rfl ?_
        refine AD ?_
        refine AA ?_
        refine AC ?_
        refine AC ?_
        refine AE ?_
        exact AI (res2 rfl rfl rfl) rsubZ selZ ⟨rfl, by rw [hvs]⟩
    obtain ⟨f, hf⟩ := Int.eq_ofNat_of_zero_le g1
    obtain ⟨t', ht⟩ := Int.eq_ofNat_of_zero_le g3
    rw [hf, ht] at hA g5
    rw [hf] at g2
    rw [ht] at g4
    have hst : (l.take k).length = (fl.take k).length := by simp; omega
    have hlen : (fl.take k).length = k := by simp; omega
    have hnet := netL_snoc (n := n) (l := l.take k) (fl := fl.take k) (a := l[k]) (x := fl[k]) hst hf ht (by omega)
    rw [← take_snoc' hlt, ← take_snoc' hltf] at hnet
    have hsm : small (fl.take k) := inCap_small _ _ hst hy (fun a ha => hok a (List.mem_of_mem_take ha))
    have b1 := fval_bd f (l.take k) (fl.take k) hsm
    have b2' := fval_bd t' (l.take k) (fl.take k) hsm
    rw [hlen] at b1 b2'
    generalize hE : negL (netL n (l.take k) (fl.take k)) = E
    have hEl : E.length = n := by rw [← hE, negL_len, netL_len]
    have e1 : E.getD f 0 = -(fval f (l.take k) (fl.take k)) := by rw [← hE, negL_get (by rw [netL_len]; omega), netL_get (by omega)]
    have e2 : E.getD t' 0 = -(fval t' (l.take k) (fl.take k)) := by rw [← hE, negL_get (by rw [netL_len]; omega), netL_get (by omega)]
    have e3 : (E.set f (E.getD f 0 - fl[k])).getD t' 0 = E.getD t' 0 := by
      rw [List.getD_eq_getElem?_getD, List.getElem?_set_ne (by omega), ← List.getD_eq_getElem?_getD]
    have e4 : (E.set f (E.getD f 0 - fl[k])).length = n := by simp [hEl]
    refine AD ?_
    refine AA ?_
    refine BI ?_
    refine AE ?_
    refine AD ?_
    refine AO rfl ?_
    refine AM ?_
    refine AD ?_
    refine AS ?_
    refine AD ?_
    refine AA ?_
    refine AB ?_
    refine BL ?_
    refine AT ?_
    refine AY ?_; rintro _ _ ⟨b, rfl, rfl⟩
    refine AC ?_
    refine AX ?_; rintro _ _ ⟨rfl, rfl⟩
    refine AE ?_
    refine AD ?_
    refine AD ?_
    refine A3 (.q 0 (.q 1 (.q 2 (.q 3 (.q 4 (.q 5 (.q 6 (.q 7 (.q 8 (.q 9 (.q 10 (.q 11 (.q 12 (.q 13 .nil)))))))))))))) [] rfl (by kernel_rfl) selZ ?_
    refine AQ ?_
    refine AQ ?_
    refine CM ?_
    refine AP ?_
    refine DN ?_
    refine AQ ?_
    refine AQ ?_
    refine AQ ?_
    refine CM ?_
    refine AP ?_
    refine AU ?_
    refine AP ?_
    refine DU ?_
    refine B8 ?_
    refine A4 ?_
    refine AN rfl ?_
    refine AM ?_
    refine AD ?_
    refine A3 (.q 0 (.q 1 (.q 2 (.q 3 (.q 4 (.q 5 (.q 6 (.q 7 (.q 8 (.q 9 (.q 10 (.l 11 .b .nil)))))))))))) [] rfl (by kernel_rfl) selZ ?_
    refine AQ ?_
    refine AU ?_
    refine AP ?_
    refine B7 ?_
    refine AP ?_
    refine AQ ?_
    refine AQ ?_
    refine CM ?_
    refine AP ?_
    refine E3 ?_
    refine B7 ?_
    refine DV ?_; rintro _ _ ⟨rfl, rfl⟩
    refine A4 ?_
    skip
    refine A3 (.q 0 (.q 1 (.q 2 (.q 3 (.q 4 (.q 5 (.q 6 (.q 7 (.q 8 (.q 9 (.q 10 (.l 11 .b .nil)))))))))))) [] rfl (by kernel_rfl) selZ ?_
    refine AQ ?_
    refine AU ?_
    refine AP ?_
    refine B7 ?_
    refine AP ?_
    refine AQ ?_
    refine AQ ?_
    refine CM ?_
    refine AP ?_
    refine DB ?_
    refine B7 ?_
    refine DV ?_; rintro _ _ ⟨rfl, rfl⟩
    refine A4 ?_
    refine A6 ?_
    refine AA ?_
    refine BA ?_
    refine AB ?_
    refine AE ?_
    refine A0 (k + 1) ⟨by omega, ?_⟩ (by omega) covZ ?_
    · rw [take_snoc' hlt, take_snoc' hltf, inCap_snoc _ _ _ _ hst, hy]
      simp; omega
    · rw [hnet, negL_set, negL_set, hE]
      rw [show -(fval f (l.take k) (fl.take k) + fl[k]) = E.getD f 0 - fl[k] from by omega]
      rw [show -(fval t' (l.take k) (fl.take k) - fl[k]) = (E.set f (E.getD f 0 - fl[k])).getD t' 0 + fl[k] from by rw [e3]; omega]
      exact selZ
  obtain rfl : k = l.length := by omega
  rw [List.take_length, List.take_of_length_le (by omega)] at hy
  rw [List.take_length, List.take_of_length_le (by omega)]
  have hsm : small fl := inCap_small _ _ hfl.symm hy hok
  generalize hE : negL (netL n l fl) = E
  have hEl : E.length = n := by rw [← hE, negL_len, netL_len]
  refine AD ?_
  refine AA ?_
  refine AZ ?_
  refine AE ?_
  refine AD ?_
  refine AN rfl ?_
  refine BB rfl ?_
  refine AD ?_
  refine AD ?_
  refine AA ?_
  refine AB ?_
  refine AW ?_
  refine AB ?_
  refine AE ?_
  refine AS ?_
  refine BJ [1, 2, 3, 4, 83, 84] (0 : Nat) (fun k => k ≤ n ∧ ∀ v : Nat, v < k → (v : Int) = s ∨ (v : Int) = t ∨ fval v l fl = 0) (fun k => [(85, int k)]) (fun _ => [sng b (.cells (ints E) 3 (0, 0))]) (fun k => n - k) pickZ ⟨by omega, by simp⟩ covZ selZ ?_
  rintro k ⟨hk, hz⟩
  by_cases hlt : k < n
  · have e1 : E.getD k 0 = -(fval k l fl) := by rw [← hE, negL_get (by rw [netL_len]; omega), netL_get (by omega)]
    repeat' (first
      | (refine AB ?_)
      | (refine AC ?_)
      | (refine AF ?_)
      | (refine B4 ?_)
      | (refine AK ?_)
      | (refine AJ ?_)
      | (refine BA ?_)
      | (refine BI ?_)
      | (refine AD ?_)
      | (refine AA ?_)
      | (refine AE ?_)
      | (refine AS ?_)
      | (refine A6 ?_)
      | (refine AM ?_)
      | (refine AO rfl ?_)
      | (refine AN rfl ?_)
      | (refine AH rfl rfl rfl ?_)
      | (focus ((refine CI rfl rfl (cmp_ne _ _) rfl rfl (fun h => ?_) (fun h => ?_))))
      | fail)
    all_goals first
      | (refine A0 (k + 1) ⟨by omega, fun v hv => ?_⟩ (by omega) covZ selZ
         rcases Nat.lt_or_ge v k with hv' | hv'
         · exact hz v hv'
         · obtain rfl : v = k := by omega
           omega)
      | (refine AI (res2 rfl rfl rfl) rsubZ selZ ⟨rfl, ?_⟩
         have hb := balanced_not (l := l) (fl := fl) (s := s) (t := t) hlt (by omega) (by omega) (by omega)
         unfold valueSpec
         rw [if_neg (by rw [hc]; simp), if_neg (by rw [he]; simp), if_neg (by simpa using hfl), if_neg (by rw [hy]; simp), Int.toNat_natCast, if_pos hb])
  · refine AD ?_
    refine AA ?_
    refine AZ ?_
    refine AE ?_
    refine AD ?_
    refine AN rfl ?_
    refine BB rfl ?_
    refine AD ?_
    refine AA ?_
    refine AB ?_
    refine AB ?_
    refine AB ?_
    focus ((refine A2 (value_spec ρ σ _ _ s l fl hv hu a3 hfl hsm) rfl rfl rdZ rfl rfl ?_; rintro _ rfl))
    refine AC ?_
    refine AC ?_
    refine AE ?_
    refine AI (res2 rfl rfl rfl) rsubZ selZ ⟨rfl, ?_⟩
    have hb := balanced_of (n := n) (l := l) (fl := fl) (s := s) (t := t) (fun v hv => hz v (by omega))
    unfold valueSpec
    rw [if_neg (by rw [hc]; simp), if_neg (by rw [he]; simp), if_neg (by simpa using hfl), if_neg (by rw [hy]; simp), Int.toNat_natCast, if_neg (by rw [hb]; simp)]

end Go.Proofs.YthdoegkjifgegaaGreat
/- Flows of time-expanded networks, and stocks. No program in sight. No conditions. -/
namespace Go.Step
open Go.Flow (Flw fval netB netB_eq inCap sumTo sumTo_zero sumTo_one okArc_iff)
/-- the shipments of a flow -/
def shipsF : List EA → List Int → List Sh
  | x :: L, y :: fl => (if 0 ≤ x.c ∧ 0 < y then [⟨x.c, x.t, y⟩] else []) ++ shipsF L fl
  | _, _ => []
section
variable {qs : List Int} {cs : List Ct} {bs : List Bk} {hs : List Hd} {d : Dm}
/-- a set of nodes at times, as a set of vertices -/
def bq (d : Dm) (P : Int → Int → Bool) (v : Nat) : Bool := P ((v : Int) / wd d) (d.r + (v : Int) % wd d)
theorem bq_vtx {d : Dm} {P : Int → Int → Bool} {n t : Int} (h0 : 0 ≤ n) (h1 : d.r ≤ t) (h2 : t ≤ d.e) : bq d P (vtx d n t).toNat = P n t := by
  have hp : 0 ≤ vtx d n t := by
    unfold vtx
    have := Int.mul_nonneg h0 (show 0 ≤ wd d by unfold wd; omega)
    omega
  unfold bq
  rw [Int.toNat_of_nonneg hp, vtx_div h1 h2, vtx_mod h1 h2]
  congr 1
  omega
end
end Go.Step
