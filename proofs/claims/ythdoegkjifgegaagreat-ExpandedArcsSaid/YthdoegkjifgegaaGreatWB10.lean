/- Texts of this proof, one after the other; no conditions. -/
import Derived.Test.YthdoegkjifgegaaGreatWB9
import Derived.Test.YthdoegkjifgegaaGreatWB2
import Derived.Test.YthdoegkjifgegaaGreatWB1
import Derived.Test.YthdoegkjifgegaaGreatWB5
import Derived.Test.YthdoegkjifgegaaGreatWB8
import Derived.Test.YthdoegkjifgegaaGreatWB7
import Derived.Test.YthdoegkjifgegaaGreatWB4
import Derived.Test.YthdoegkjifgegaaGreatWB6
set_option linter.all false
/- Distances by a queue. -/
namespace Go.Proofs.YthdoegkjifgegaaGreat
open Go.Eng Go.Flow
set_option maxRecDepth 100000
set_option maxHeartbeats 4000000

theorem next_spec (bq : Nat) (qv : Value) (x : Value) (k : Nat) (xs : List Value) (ρq : PH) (hq : OwnO 3 1 qv (k + 1) (x :: xs) ρq) :
  Eng.Spec Tryz.prog (.func (.func 149) #[] #[.pointer (some ⟨bq, 0, none⟩)]) [] [] [sng bq (.cells #[qv] 22 (0, 0)), ρq]
   (fun v H' => v = x ∧ ∃ qv', OwnO 3 1 qv' k xs ρq ∧ qv'.oneCell' = true ∧ H' = [sng bq (.cells #[qv'] 22 (0, 0)), ρq]) := by
 obtain ⟨b, o, cap, rfl, h0, h1⟩ := hq.head
 refine spec_in (cap := [.pointer (some ⟨bq, 0, none⟩)]) Tryz.func149 rfl rfl Tryz.ntmps149 rfl envZ (fun N β => ?_)
 refine AD ?_
 refine AA ?_
 refine AC ?_
 refine AE ?_
 refine AD ?_
 refine AA ?_
 refine AF ?_
 refine GH ?_
 refine AF ?_
 refine AC ?_
 refine AE ?_
 refine AD ?_
 refine AA ?_
 refine AF ?_
 focus ((refine' B8 _ rfl rfl rfl _; rotate_left; (apply E8 (i := 1); exact rfl; exact rfl; exact rfl; exact rfl; omega)))
 refine A4 ?_; rintro _ _ ⟨rfl, rfl⟩
 refine AE ?_
 refine AD ?_
 refine AA ?_
 refine AB ?_
 refine AC ?_
 refine AE ?_
 exact AI (res1 rfl rfl) rsubZ selZ ⟨rfl, _, h1, rfl, rfl⟩

/-- a graph in memory -/
structure GAt (γ : PH) (gb n : Nat) (outs ins : Nat → List Lk) (room : Value) : Prop where
 o : ∃ ob c, rdc γ gb 0 = some (.slice (some ⟨ob, 0, none⟩) n c) ∧ ∀ v, v < n → ∃ lv, rdc γ ob v = some lv ∧ SlE encL 3 γ lv (outs v)
 i : ∃ ib c, rdc γ gb 1 = some (.slice (some ⟨ib, 0, none⟩) n c) ∧ ∀ v, v < n → ∃ lv, rdc γ ib v = some lv ∧ SlE encL 3 γ lv (ins v)
 r : rdc γ gb 2 = some room
/-- what is known of its lists -/
structure GOk (n : Nat) (outs ins : Nat → List Lk) : Prop where
 n1 : n ≤ 2000
 len : ∀ v, (outs v).length ≤ 40000 ∧ (ins v).length ≤ 40000
 inT : ∀ v x, v < n → x ∈ ins v → x.t = v ∧ x.f < n ∧ x.k ≤ 40000
 outF : ∀ v x, v < n → x ∈ outs v → x.f = v ∧ x.t < n ∧ x.k ≤ 40000
 same : ∀ x : Lk, x.f < n → x.t < n → (x ∈ outs x.f ↔ x ∈ ins x.t)
def opens (n : Nat) (ins : Nat → List Lk) (rm : Nat → Int) (x : Lk) : Prop := x.t < n ∧ x ∈ ins x.t ∧ 0 < rm x.k
theorem opens_lt {n : Nat} {outs ins : Nat → List Lk} {rm : Nat → Int} (h : GOk n outs ins) (x : Lk) (hx : opens n ins rm x) : x.f < n ∧ x.t < n := ⟨(h.inT x.t x hx.1 hx.2.1).2.1, hx.1⟩
def qInts (q : List Nat) : List Value := q.map (fun (v : Nat) => int (v : Int))
theorem fillL (n k : Nat) (h : k < n) : (List.replicate k (-1 : Int) ++ List.replicate (n - k) 0).set k (-1) = List.replicate (k + 1) (-1) ++ List.replicate (n - (k + 1)) 0 := by
 rw [List.set_append_right _ _ (by simp)]
 simp only [List.length_replicate, Nat.sub_self]
 obtain ⟨m, hm⟩ : ∃ m, n - k = m + 1 := ⟨n - k - 1, by omega⟩
 rw [hm, List.replicate_succ, List.set_cons_zero, show n - (k + 1) = m from by omega, List.replicate_succ', List.append_assoc]
 rfl
theorem SlE.one {α : Type} {enc : α → List Value} {s : Nat} {ρ : PH} {v : Value} {l : List α} (h : SlE enc s ρ v l) : v.oneCell' = true := by
 obtain ⟨b, c, rfl⟩ := SlAt.cap h
 rfl
set_option maxHeartbeats 2000000 in
theorem distances_spec (γ : PH) (gb n t : Nat) (outs ins : Nat → List Lk) (room : Value) (rm : Nat → Int) (Rr : List PH) (hG : GAt γ gb n outs ins room) (hO : GOk n outs ins) (ht : t < n)
  (hrm : ∀ v x, v < n → x ∈ ins v → Ans Tryz.prog room [int x.k] Rr (fun v => v = int (rm x.k))) :
  Makes Tryz.prog (fv 130) [.pointer (some ⟨gb, 0, none⟩), int t] (γ :: Rr) (fun v ρ => ∃ b D, v = .slice (some ⟨b, 0, none⟩) n n ∧ ρ = sng b (.cells (ints D) 3 (0, 0)) ∧ IsDist n t (opens n ins rm) D) := by
 have hn := hO.n1
 obtain ⟨ob, oc, ho, _⟩ := hG.o
 obtain ⟨ib, ic, hi, hil⟩ := hG.i
 refine spec_in (cap := []) Tryz.func130 rfl rfl Tryz.ntmps130 rfl envZ (fun N β => ?_)
 refine B9 ?_
 refine AD ?_
 refine AA ?_
 refine AC ?_
 refine AE ?_
 refine AD ?_
 refine AA ?_
 refine AB ?_
 refine BF ?_
 refine AH ?_
 refine AF ?_
 refine A0 ?_
 refine D0 ?_; rintro _ _ ⟨b, rfl, rfl⟩
 refine BK ?_; rintro _ _ ⟨b, rfl, rfl⟩
 refine A4 ?_; rintro _ _ ⟨rfl, rfl⟩
 refine AE ?_
 refine AD ?_
 refine AD ?_
 refine AA ?_
 refine AF ?_
 refine A0 ?_
 refine AB ?_
 refine AE ?_
 refine AQ ?_
 rename_i bd
 revert b; intro bo
 rw [show List.replicate n (0 : Int) = List.replicate 0 (-1) ++ List.replicate (n - 0) 0 from by simp]
 refine BG [0, 1, 5, 17, 18] (0 : Nat) (fun k => k ≤ n) (fun k => [(19, int k)]) (fun k => [sng bo (.cells #[.slice (some ⟨bd, 0, none⟩) n n] 22 (0, 0)), sng bd (.cells (ints (List.replicate k (-1) ++ List.replicate (n - k) 0)) 3 (0, 0)), emp]) (fun k => n - k) pickZ (by omega) covZ selZ ?_
 intro k hk
 have hfl : (List.replicate k (-1 : Int) ++ List.replicate (n - k) 0).length = n := by simp; omega
 by_cases hlt : k < n
 ·have hf := fillL n k hlt
  refine AD ?_
  refine AA ?_
  refine BD ?_
  refine AE ?_
  refine AD ?_
  refine AP rfl ?_
  refine AL ?_
  refine AD ?_
  refine AQ ?_
  refine AD ?_
  refine AA ?_
  refine AB ?_
  refine AC ?_
  refine AE ?_
  refine AA ?_
  refine AF ?_
  refine AB ?_
  refine B0 ?_
  refine C7 ?_; rintro _ _ ⟨rfl, rfl⟩
  refine AE ?_
  refine A3 ?_
  refine AA ?_
  refine BC ?_
  refine AB ?_
  refine AE ?_
  refine AX (k + 1) (by omega) (by omega) covZ ?_
  rw [← hf]
  exact selZ
 obtain rfl : k = n := by omega
 rw [Nat.sub_self, List.replicate_zero, List.append_nil] at hfl ⊢
 refine AD ?_
 refine AA ?_
 refine AW ?_
 refine AE ?_
 refine AD ?_
 refine AM rfl ?_
 refine A9 rfl ?_
 refine AD ?_
 refine AA ?_
 refine AF ?_
 refine AB ?_
 refine B0 ?_
 refine C7 ?_; rintro _ _ ⟨rfl, rfl⟩
 refine AE ?_
 refine AD ?_
 refine AA ?_
 refine AB ?_
 refine BH ?_; rintro _ _ ⟨b, rfl, rfl⟩
 refine BK ?_; rintro _ _ ⟨b, rfl, rfl⟩
 refine A4 ?_; rintro _ _ ⟨rfl, rfl⟩
 refine AE ?_
 refine AD ?_
 refine AA ?_
 refine BM ?_
 refine AC ?_
 refine AE ?_
 refine AD ?_
 refine AQ ?_
 rename_i bi
 revert b; intro bq
 have hq0 : OwnO 3 1 (.slice (some ⟨bi, 0, none⟩) 1 1) 1 [int t] (sng bi (.cells [int (t : Int)].toArray 3 (0, 0))) := OwnS.ownO (n := 1) rfl (by simp [maxLen])
 refine DZ [0, 1, 5, 7, 8] ((((List.replicate k (-1)).set t 0, [t]), (.slice (some ⟨bi, 0, none⟩) 1 1, sng bi (.cells [int (t : Int)].toArray 3 (0, 0)))), ([], emp)) (X := ((List Int × List Nat) × (Value × PH)) × (List Nat × PH))
  (fun x => x.2.1.map mk) (fun x => BInv k t (opens k ins rm) x.1.1.1 x.1.1.2 ∧ OwnO 3 1 x.1.2.1 x.1.1.2.length (qInts x.1.1.2) x.1.2.2 ∧ x.1.1.2.length + unl x.1.1.1 ≤ k ∧ (∀ u, u < k → x.1.1.1.getD u 0 + unl x.1.1.1 ≤ (k : Int)) ∧ MkIn x.2.2 x.2.1)
  (fun _ => []) (fun x => [sng bo (.cells #[.slice (some ⟨bd, 0, none⟩) k k] 22 (0, 0)), sng bd (.cells (ints x.1.1.1) 3 (0, 0)), sng bq (.cells #[x.1.2.1] 22 (0, 0)), x.1.2.2, x.2.2]) (fun x => 2 * unl x.1.1.1 + x.1.1.2.length)
  pickZ rfl ⟨BInv.start ht, hq0, by have := unl_start ht; simp only [List.length_singleton]; omega, fun u hu => by have := unl_start ht; dsimp only; rw [getD_set (by rw [List.length_replicate]; exact ht), getD_rep hu]; split <;> omega, MkIn.nil⟩ covZ selZ ?_
 rintro ⟨⟨⟨D, q⟩, ⟨qv, ρq⟩⟩, ⟨ms, μ⟩⟩ ⟨hB, hQ, hql, hub, hM⟩
 dsimp only at hB hQ hql hub hM ⊢
 cases q with
 | nil =>
  have hQ' : OwnO 3 1 qv 0 [] ρq := hQ
  obtain ⟨_, b1, o1, cap1, cur1, rfl, rfl, _⟩ := hQ'
  have hdist := hB.dist (opens_lt hO)
  refine AD ?_
  refine AD ?_
  refine AA ?_
  refine AF ?_
  refine A0 ?_
  refine BT ?_
  refine AE ?_
  refine AM rfl ?_
  refine A9 rfl ?_
  refine AD ?_
  refine AA ?_
  refine AF ?_
  refine AC ?_
  refine AE ?_
  exact DX hM takeZ (res1 rfl rfl) rsubZ selZ ⟨_, ⟨bd, D, rfl, rfl, hdist⟩, rfl⟩
 | cons v q =>
  have hQ' : OwnO 3 1 qv (q.length + 1) (int v :: qInts q) ρq := hQ
  have hV0 := hB.take
  have hvn := hV0.vn
  obtain ⟨lv, hlv, hls⟩ := hil v hvn
  have hnx := next_spec bq qv (int v) q.length (qInts q) ρq hQ'
  obtain ⟨b1, o1, cap1, rfl, _, _⟩ := hQ'.head
  simp only [List.length_cons] at hql
  refine AD ?_
  refine AD ?_
  refine AA ?_
  refine AF ?_
  refine A0 ?_
  refine CS ?_
  refine AE ?_
  refine AP rfl ?_
  refine AL ?_
  refine AQ ?_
  refine AD ?_
  refine AA ?_
  refine AB ?_
  refine BB hnx rfl rfl takesZ rdZ rfl rfl ?_
  rintro _ _ ⟨rfl, qv1, hQ1, hq1, rfl⟩
  simp only [List.cons_append, List.nil_append]
  refine BK ?_; rintro _ _ ⟨b, rfl, rfl⟩
  refine A4 ?_; rintro _ _ ⟨rfl, rfl⟩
  refine AE ?_
  refine AD ?_
  revert b; intro b9
  refine A5 (.q 0 (.q 1 (.q 2 (.q 3 (.q 4 (.q 5 (.q 6 (.q 7 (.l 8 .e .nil))))))))) [] rfl (by kernel_rfl) selZ ?_
  refine AT ?_
  refine AT ?_
  refine AV ?_
  refine AU ?_
  refine AO ?_
  refine AO ?_
  refine B5 ?_
  refine AO ?_
  refine CO (DI rfl (open_spec _ _ (SlE.one hls) rfl) rfl rfl rdZ rfl rfl ?_)
  rintro _ _ ⟨bl, bg, rfl, rfl⟩
  simp only [List.cons_append, List.nil_append]
  refine A7 ?_
  refine AR (ρ := sng bl _) takeZ ?_
  refine AR (ρ := sng bg _) takeZ ?_
  refine AR (ρ := sng b9 _) takeZ ?_
  have hvl : rdc (sng b9 (.cells #[int (v : Int)] 3 (0, 0))) b9 0 = some (int v) := by rw [rdc_sng]; rfl
  refine AQ ?_
  refine C0 (gf := 101) (cap := [.pointer (some ⟨bl, 0, none⟩), .pointer (some ⟨bg, 0, none⟩)]) (ps := [46]) (X := (List Int × List Nat) × (Value × PH)) rfl Tryz.func101 rfl rfl
   (open_iter γ gb bl bg lv room (ins v) rm Rr hls (by have := (hO.len v).2; omega) hG.r (fun x hx => hrm v x hvn hx)) ?_
   (fun i x => VInv k t (opens k ins rm) x.1.1 v x.1.2 ((openL rm (ins v)).take i) ∧ OwnO 3 1 x.2.1 x.1.2.length (qInts x.1.2) x.2.2 ∧ x.1.2.length + unl x.1.1 + 1 ≤ k ∧ (∀ u, u < k → x.1.1.getD u 0 + unl x.1.1 ≤ (k : Int)) ∧ 2 * unl x.1.1 + x.1.2.length ≤ 2 * unl D + q.length)
   (fun x => [sng bo (.cells #[.slice (some ⟨bd, 0, none⟩) k k] 22 (0, 0)), sng bd (.cells (ints x.1.1) 3 (0, 0)), sng bq (.cells #[x.2.1] 22 (0, 0)), x.2.2])
   (fun _ _ => False) ((D, q), (qv1, ρq)) rfl takesZ ⟨by simpa using hV0, hQ1, by simp only; omega, hub, by simp only; omega⟩ ?_ ?_ ?_
  ·intro σ hσ
   simp only [List.cons_append, List.nil_append, List.mem_cons] at hσ ⊢
   rcases hσ with h | h | h | h <;> simp [h]
  ·rintro l r i ⟨⟨D1, q1⟩, ⟨qv2, ρ2⟩⟩ vs hvs ⟨hV, hQ2, hlq, hub2, hms⟩ hps has hbd hst hpe hfr
   dsimp only at hV hQ2 hlq hub2 hms ⊢
   obtain ⟨st, pe, fnn, tm, prm, asg, bdy, df⟩ := r
   simp only at hps has hbd hst hpe hfr
   subst hps has hbd hst hpe
   rw [List.getElem?_map] at hvs
   obtain ⟨x, hx, rfl⟩ := Option.map_eq_some_iff.1 hvs
   have hlt : i < (openL rm (ins v)).length := (List.getElem?_eq_some_iff.1 hx).1
   have hxe : (openL rm (ins v))[i] = x := (List.getElem?_eq_some_iff.1 hx).2
   have hxm : x ∈ openL rm (ins v) := List.mem_of_getElem? hx
   have hxi : x ∈ ins v ∧ 0 < rm x.k := by unfold openL at hxm; simpa using hxm
   obtain ⟨hxt, hxf, hxk⟩ := hO.inT v x hvn hxi.1
   have htk : (openL rm (ins v)).take (i + 1) = (openL rm (ins v)).take i ++ [x] := by rw [take_snoc' hlt, hxe]
   have hDl : D1.length = k := hV.len
   have hv0 := hV.v0
   have hvub := hub2 v hvn
   refine yield_spec hfr rfl (by intro p hp; simp at hp; omega) putiZ (fun N' β' => ?_)
   unfold encL
   refine AA ?_
   refine AZ ?_; rintro _ _ ⟨b, rfl, rfl⟩
   refine AY ?_; rintro _ _ ⟨rfl, rfl⟩
   refine AE ?_
   refine CT rfl rfl ?_
   refine CZ takeZ rfl ?_
   by_cases hneg : D1.getD x.f 0 < 0
   ·have hE : opens k ins rm x := ⟨by omega, by rw [hxt]; exact hxi.1, hxi.2⟩
    have hp := hV.push hE hxf hxt hneg
    have hu := unl_set (D := D1) (i := x.f) (x := D1.getD v 0 + 1) (by omega) hneg (by omega)
    refine AQ ?_
    refine AD ?_
    refine AA ?_
    refine AF ?_
    refine AH ?_
    refine AF ?_
    refine B0 ?_
    refine AF ?_
    refine BD ?_
    refine AE ?_
    refine AP rfl ?_
    refine AD ?_
    refine A5 (.q 0 (.q 1 (.q 2 (.q 3 (.q 4 (.q 5 (.q 6 (.q 7 (.q 8 (.l 9 .b .nil)))))))))) [] rfl (by kernel_rfl) selZ ?_
    refine AO ?_
    refine AU ?_
    refine AO ?_
    refine AO ?_
    refine AO ?_
    refine B5 ?_
    refine AO ?_
    refine C1 ?_
    refine B5 ?_
    refine DN ?_; rintro _ _ ⟨rfl, rfl⟩
    refine A7 ?_
    refine AA ?_
    refine AF ?_
    refine AH ?_
    refine AF ?_
    refine BH ?_; rintro _ _ ⟨b, rfl, rfl⟩
    refine' BJ (FA (by_ := 8) (s := 1) (news := [int (x.f : Int)]) rfl rfl rfl rfl rfl rfl rfl hQ2 takeZ (cells_own memZ) rfl (by (repeat (first | exact (fun v hv => absurd hv List.not_mem_nil) | (refine List.forall_mem_cons.2 ⟨?_, ?_⟩; (focus (first | exact rfl | assumption))))); first | done | fail) (by simp only [maxLen]; omega) (by omega)) rfl rfl rfl _
    rintro q9 _ ⟨ρ3, hQ3, rfl⟩
    have hq9 : q9.oneCell' = true := by obtain ⟨_, _, _, _, _, rfl, _⟩ := hQ3; rfl
    have hQ4 : OwnO 3 1 q9 (q1 ++ [x.f]).length (qInts (q1 ++ [x.f])) ρ3 := by
     have : qInts (q1 ++ [x.f]) = qInts q1 ++ [int (x.f : Int)] := by simp [qInts]
     rw [this, List.length_append]
     exact hQ3
    refine A4 ?_; rintro _ _ ⟨rfl, rfl⟩
    refine AE ?_
    refine A3 ?_
    refine BP takeZ rsubZ selZ ⟨((D1.set x.f (D1.getD v 0 + 1), q1 ++ [x.f]), (q9, ρ3)), .inl ⟨rfl, ⟨?_, hQ4, ?_, ?_, ?_⟩, rfl⟩⟩
    ·dsimp only
     rw [htk]
     exact hp
    ·dsimp only
     rw [List.length_append, List.length_singleton]; omega
    ·intro u hu'
     dsimp only
     have := hub2 u hu'
     rw [getD_set (by omega)]
     split <;> omega
    ·dsimp only
     rw [List.length_append, List.length_singleton]; omega
   ·refine AQ ?_
    refine AD ?_
    refine AA ?_
    refine AF ?_
    refine AH ?_
    refine AF ?_
    refine B0 ?_
    refine AF ?_
    refine AW ?_
    refine AE ?_
    refine AM rfl ?_
    refine AL ?_
    refine A3 ?_
    refine BP takeZ rsubZ selZ ⟨((D1, q1), (qv2, ρ2)), .inl ⟨rfl, ⟨?_, hQ2, hlq, hub2, hms⟩, rfl⟩⟩
    simp only
    rw [htk]
    exact hV.seen (by omega)
  ·rintro b2 ⟨⟨D1, q1⟩, ⟨qv2, ρ2⟩⟩ ⟨hV, hQ2, hlq, hub2, hms⟩
   dsimp only at hV hQ2 hlq hub2 hms ⊢
   simp only [List.cons_append, List.nil_append]
   refine DY (R' := β :: γ :: Rr) (by intro σ hσ; simp at hσ ⊢; rcases hσ with h | h | h <;> simp [h]) ?_
   refine CU (b := b2) takeZ (μ := μ) takeZ hM ?_
   intro μ2 hM2
   refine A3 ?_
   refine A3 ?_
   refine DK (((D1, q1), (qv2, ρ2)), (b2 :: ms, μ2)) rfl ⟨hV.done (opens_lt hO) (fun x hx hxt => ?_), hQ2, by simp only; omega, hub2, hM2⟩ (by simp only [List.length_cons]; omega) covZ selZ
   have hmem : x ∈ openL rm (ins v) := by
    unfold openL
    rw [List.mem_filter]
    have := hx.2.1
    rw [hxt] at this
    exact ⟨this, by simpa using hx.2.2⟩
   simpa [List.length_map] using hmem
  ·rintro _ _ _ h; exact h.elim
end Go.Proofs.YthdoegkjifgegaaGreat
/- The first shortest path, and the least room on it. -/
namespace Go.Proofs.YthdoegkjifgegaaGreat
open Go.Eng Go.Flow
set_option maxRecDepth 100000
set_option maxHeartbeats 4000000

def ksOf (p : List Lk) : List Int := p.map (fun (x : Lk) => (x.k : Int))
/-- the next link in the lists of a graph -/
def nxO (outs : Nat → List Lk) (rm : Nat → Int) (D : List Int) (v : Nat) : Option Lk := (openL rm (outs v)).find? (near D v)
theorem nxO_some {n t : Nat} {outs ins : Nat → List Lk} {rm : Nat → Int} {D : List Int} (hO : GOk n outs ins) (hD : IsDist n t (opens n ins rm) D) {v : Nat} (hv : v < n) (hd : 0 < D.getD v 0) :
  ∃ x, nxO outs rm D v = some x ∧ x.f = v ∧ x.t < n ∧ x.k ≤ 40000 ∧ D.getD x.t 0 = D.getD v 0 - 1 ∧ opens n ins rm x := by
 obtain ⟨y, hy, hyf, hyt⟩ := hD.step v hv hd
 have hyn := opens_lt hO y hy
 have hyo : y ∈ outs v := by
  have := (hO.same y hyn.1 hyn.2).2 hy.2.1
  rwa [hyf] at this
 have hmem : y ∈ openL rm (outs v) := by
  unfold openL
  rw [List.mem_filter]
  exact ⟨hyo, by simpa using hy.2.2⟩
 cases e : nxO outs rm D v with
 | none =>
  unfold nxO at e
  rw [List.find?_eq_none] at e
  exact absurd (by unfold near; rw [hyt]; simp) (e y hmem)
 | some x =>
  have hm := List.mem_of_find?_eq_some e
  have hp := List.find?_some e
  unfold openL at hm
  rw [List.mem_filter] at hm
  obtain ⟨h1, h2, h3⟩ := hO.outF v x hv hm.1
  refine ⟨x, rfl, h1, h2, h3, by simpa [near] using hp, h2, (hO.same x (by omega) h2).1 (by rw [h1]; exact hm.1), by simpa using hm.2⟩
set_option maxHeartbeats 2000000 in
theorem path_spec (γ : PH) (gb n s t : Nat) (outs ins : Nat → List Lk) (room : Value) (rm : Nat → Int) (Rr : List PH) (hG : GAt γ gb n outs ins room) (hO : GOk n outs ins) (hs : s < n) (ht : t < n)
  (hrm : ∀ v x, v < n → x ∈ ins v → Ans Tryz.prog room [int x.k] Rr (fun v => v = int (rm x.k))) :
  Makes Tryz.prog (fv 99) [.pointer (some ⟨gb, 0, none⟩), int s, int t] (γ :: Rr) (fun v ρ => ∃ D pv, IsDist n t (opens n ins rm) D ∧ v = .tuple #[pv, .bool (decide (0 ≤ D.getD s 0))] ∧
   OwnS 3 1 pv (pathD (nxO outs rm D) D s).length ((ksOf (pathD (nxO outs rm D) D s)).map int) ρ) := by
 have hn := hO.n1
 obtain ⟨ob, oc, ho, hol⟩ := hG.o
 refine spec_in (cap := []) Tryz.func99 rfl rfl Tryz.ntmps99 rfl envZ (fun N β => ?_)
 refine B9 ?_
 refine AD ?_
 refine AA ?_
 refine AC ?_
 refine AC ?_
 refine AE ?_
 refine AD ?_
 refine AA ?_
 refine AB ?_
 refine AB ?_
 refine BV (distances_spec γ gb n t outs ins room rm Rr hG hO ht hrm) rfl rfl rdZ rfl rfl ?_
 rintro _ ρD ⟨bD, D, rfl, rfl, hD⟩
 have hDl := hD.len
 refine BK ?_; rintro _ _ ⟨b, rfl, rfl⟩
 refine A4 ?_; rintro _ _ ⟨rfl, rfl⟩
 refine AE ?_
 refine AD ?_
 refine AD ?_
 refine AA ?_
 refine AF ?_
 refine AB ?_
 refine B0 ?_
 refine AF ?_
 revert b; intro b8
 by_cases hneg : D.getD s 0 < 0
 ·refine BD ?_
  refine AE ?_
  refine AP rfl ?_
  refine AD ?_
  refine AA ?_
  refine AC ?_
  refine AC ?_
  refine AE ?_
  refine AI (res2 rfl rfl rfl) rsubZ selZ ⟨emp, ⟨D, .slice none 0 0, hD, ?_, ?_⟩, rfl⟩
  ·rw [show decide (0 ≤ D.getD s 0) = false from decide_eq_false (by omega)]
  ·rw [pathD_end (by omega)]
   exact OwnS.nil _ _
 refine AW ?_
 refine AE ?_
 refine AM rfl ?_
 refine AL ?_
 refine AD ?_
 refine AA ?_
 refine BK ?_; rintro _ _ ⟨b, rfl, rfl⟩
 refine AE ?_
 refine AD ?_
 refine AD ?_
 refine AA ?_
 refine AB ?_
 refine BK ?_; rintro _ _ ⟨b, rfl, rfl⟩
 refine A4 ?_; rintro _ _ ⟨rfl, rfl⟩
 refine AE ?_
 refine AQ ?_
 rename_i b9
 revert b; intro b10
 refine AR (ρ := sng b8 _) takeZ ?_
 refine AR (ρ := sng bD _) takeZ ?_
 have c8 : rdc (sng b8 (.cells #[.slice (some ⟨bD, 0, none⟩) n n] 22 (0, 0))) b8 0 = some (.slice (some ⟨bD, 0, none⟩) n n) := by rw [rdc_sng]; rfl
 have hub := hD.lt (opens_lt hO) ht hs
 refine B9 ?_
 refine DZ [0, 1, 2, 8, 9] (((([] : List Lk), s), ((.slice none 0 0, emp), b10)), ([], emp)) (X := ((List Lk × Nat) × ((Value × PH) × Nat)) × (List Nat × PH))
  (fun x => x.2.1.map mk) (fun x => x.1.1.2 < n ∧ 0 ≤ D.getD x.1.1.2 0 ∧ pathD (nxO outs rm D) D s = x.1.1.1 ++ pathD (nxO outs rm D) D x.1.1.2 ∧ OwnS 3 1 x.1.2.1.1 x.1.1.1.length ((ksOf x.1.1.1).map int) x.1.2.1.2 ∧ x.1.1.1.length + (D.getD x.1.1.2 0).toNat ≤ n ∧ MkIn x.2.2 x.2.1)
  (fun x => [(10, .pointer (some ⟨x.1.2.2, 0, none⟩))]) (fun x => [sng x.1.2.2 (.cells #[int (x.1.1.2 : Int)] 3 (0, 0)), sng b9 (.cells #[x.1.2.1.1] 22 (0, 0)), x.1.2.1.2, x.2.2]) (fun x => (D.getD x.1.1.2 0).toNat)
  pickZ rfl ⟨hs, by dsimp only; omega, rfl, OwnS.nil _ _, by dsimp only [List.length_nil]; omega, MkIn.nil⟩ covZ selZ ?_
 rintro ⟨⟨⟨pre, v⟩, ⟨⟨pv, ρp⟩, bv⟩⟩, ⟨ms, μ⟩⟩ ⟨hv, hd0, hpre, hP, hln, hM⟩
 dsimp only at hv hd0 hpre hP hln hM ⊢
 by_cases hvt : v = t
 ·refine AD ?_
  refine AD ?_
  refine AA ?_
  refine AF ?_
  refine AB ?_
  refine BA ?_
  refine AE ?_
  refine AM rfl ?_
  refine A9 rfl ?_
  refine AD ?_
  refine AA ?_
  refine AF ?_
  refine AC ?_
  refine AC ?_
  refine AE ?_
  refine DX hM takeZ (res2 rfl rfl rfl) rsubZ selZ ⟨ρp, ⟨D, pv, hD, ?_, ?_⟩, rfl⟩
  ·rw [show decide (0 ≤ D.getD s 0) = true from decide_eq_true (by omega)]
   rfl
  ·rw [hpre, pathD_end (by rw [hvt, hD.at0]; omega), List.append_nil]
   exact hP
 ·have hdv : 0 < D.getD v 0 := by
   by_cases h0 : D.getD v 0 = 0
   ·exact absurd (hD.zero v hv h0) hvt
   ·omega
  obtain ⟨x0, hx0, hx0f, hx0t, hx0k, hx0d, _⟩ := nxO_some hO hD hv hdv
  obtain ⟨lv, hlv, hls⟩ := hol v hv
  refine AD ?_
  refine AD ?_
  refine AA ?_
  refine AF ?_
  refine AB ?_
  refine CV ?_
  refine AE ?_
  refine AP rfl ?_
  refine AL ?_
  refine AD ?_
  refine AQ ?_
  refine AD ?_
  refine A5 (.q 0 (.q 1 (.q 2 (.q 3 (.q 4 (.q 5 (.q 6 (.q 7 (.l 8 .e .nil))))))))) [] rfl (by kernel_rfl) selZ ?_
  refine AT ?_
  refine AT ?_
  refine AV ?_
  refine AU ?_
  refine AO ?_
  refine AO ?_
  refine B5 ?_
  refine AO ?_
  refine CO (DI rfl (open_spec _ _ (SlE.one hls) rfl) rfl rfl rdZ rfl rfl ?_)
  rintro _ _ ⟨bl, bg, rfl, rfl⟩
  simp only [List.cons_append, List.nil_append]
  refine A7 ?_
  refine AR (ρ := sng bl _) takeZ ?_
  refine AR (ρ := sng bg _) takeZ ?_
  refine AQ ?_
  refine C0 (gf := 101) (cap := [.pointer (some ⟨bl, 0, none⟩), .pointer (some ⟨bg, 0, none⟩)]) (ps := [33]) (X := (Value × PH) × Nat) rfl Tryz.func101 rfl rfl
   (open_iter γ gb bl bg lv room (outs v) rm Rr hls (by have := (hO.len v).1; omega) hG.r (fun x hx => by
    obtain ⟨h1, h2, _⟩ := hO.outF v x hv hx
    exact hrm x.t x h2 ((hO.same x (by omega) h2).1 (by rw [h1]; exact hx)))) ?_
   (fun i x => x = ((pv, ρp), v) ∧ ∀ y ∈ (openL rm (outs v)).take i, near D v y = false)
   (fun x => [sng bv (.cells #[int (x.2 : Int)] 3 (0, 0)), sng b9 (.cells #[x.1.1] 22 (0, 0)), x.1.2])
   (fun c x => c = .exit 2 ∧ x.2 = x0.t ∧ OwnS 3 1 x.1.1 (pre ++ [x0]).length ((ksOf (pre ++ [x0])).map int) x.1.2) ((pv, ρp), v) rfl takesZ ⟨rfl, by simp⟩ ?_ ?_ ?_
  ·intro σ hσ
   simp only [List.cons_append, List.nil_append, List.mem_cons] at hσ ⊢
   rcases hσ with h | h | h | h <;> simp [h]
  ·rintro l r i x' vs hvs ⟨rfl, hno⟩ hps has hbd hst hpe hfr
   dsimp only at hno ⊢
   obtain ⟨st, pe, fnn, tm, prm, asg, bdy, df⟩ := r
   simp only at hps has hbd hst hpe hfr
   subst hps has hbd hst hpe
   rw [List.getElem?_map] at hvs
   obtain ⟨x, hx, rfl⟩ := Option.map_eq_some_iff.1 hvs
   have hlt : i < (openL rm (outs v)).length := (List.getElem?_eq_some_iff.1 hx).1
   have hxe : (openL rm (outs v))[i] = x := (List.getElem?_eq_some_iff.1 hx).2
   have hxm : x ∈ openL rm (outs v) := List.mem_of_getElem? hx
   have hxi : x ∈ outs v ∧ 0 < rm x.k := by unfold openL at hxm; simpa using hxm
   obtain ⟨hxf, hxt, hxk⟩ := hO.outF v x hv hxi.1
   have htk : (openL rm (outs v)).take (i + 1) = (openL rm (outs v)).take i ++ [x] := by rw [take_snoc' hlt, hxe]
   have hvub := hD.lt (opens_lt hO) ht hv
   have hxlo := hD.low x.t hxt
   have hxub := hD.lt (opens_lt hO) ht hxt
   refine yield_spec hfr rfl (by intro p hp; simp at hp; omega) putiZ (fun N' β' => ?_)
   unfold encL
   refine AA ?_
   refine AZ ?_; rintro _ _ ⟨b, rfl, rfl⟩
   refine AY ?_; rintro _ _ ⟨rfl, rfl⟩
   refine AE ?_
   refine CT rfl rfl ?_
   refine CZ takeZ rfl ?_
   refine AQ ?_
   refine AD ?_
   refine A5 (.q 0 (.q 1 (.q 2 (.q 3 (.q 4 (.q 5 (.q 6 (.q 7 (.q 8 (.q 9 (.q 10 .nil))))))))))) [] rfl (by kernel_rfl) selZ ?_
   by_cases hnr : D.getD x.t 0 = D.getD v 0 - 1
   ·have hfx : nxO outs rm D v = some x := find_of_take hx (by unfold near; rw [hnr]; simp) hno
    obtain rfl : x0 = x := by rw [hfx] at hx0; exact (Option.some.inj hx0).symm
    refine AO ?_
    refine AU ?_
    refine AO ?_
    refine B5 ?_
    refine AO ?_
    refine AO ?_
    refine AO ?_
    refine B5 ?_
    refine AO ?_
    refine DM ?_
    refine EL ?_
    refine A7 ?_
    refine AP rfl ?_
    refine AD ?_
    have hpv : pv.oneCell' = true := SlE.one (ownInts (e := 3) (l := ksOf pre) (ρ := ρp) (by rw [show (ksOf pre).length = pre.length from by simp [ksOf]]; exact hP))
    refine A5 (.q 0 (.q 1 (.q 2 (.p 5 (.p 6 (.l 3 .e (.l 4 .b (.l 7 .b (.l 8 .b .nil))))))))) [sng b (.cells #[int (x0.k : Int), int (x0.f : Int), int (x0.t : Int)] 128 (0, 0))] rfl (by kernel_rfl) selZ ?_
    refine AO ?_
    refine AU ?_
    refine AO ?_
    refine FF ?_
    refine FE ?_
    refine BQ ?_; rintro _ _ ⟨b, rfl, rfl⟩
    refine CO ?_
    refine' a_b rfl _ rfl rfl rfl _ _
    rotate_left
    ·exact CA (by_ := 8) (s := 1) (news := [int (x0.k : Int)]) rfl rfl rfl rfl rfl rfl rfl hP takeZ (cells_own memZ) rfl (by (repeat (first | exact (fun v hv => absurd hv List.not_mem_nil) | (refine List.forall_mem_cons.2 ⟨?_, ?_⟩; (focus (first | exact rfl | assumption))))); first | done | fail) (by omega) (by simp only [maxLen]; omega) (by omega)
    ·rintro _ _ ⟨_, _, rfl⟩ w hw; exact hw.sel selZ
    rintro q9 _ ⟨ρ3, hQ3, rfl⟩
    have hQ4 : OwnS 3 1 q9 (pre ++ [x0]).length ((ksOf (pre ++ [x0])).map int) ρ3 := by
     have : (ksOf (pre ++ [x0])).map int = (ksOf pre).map int ++ [int (x0.k : Int)] := by simp [ksOf]
     rw [this, List.length_append]
     exact hQ3
    have hq9 : q9.oneCell' = true := SlE.one (ownInts (e := 3) (l := ksOf (pre ++ [x0])) (ρ := ρ3) (by rw [show (ksOf (pre ++ [x0])).length = (pre ++ [x0]).length from by simp [ksOf]]; exact hQ4))
    refine C8 ?_; rintro _ _ ⟨rfl, rfl⟩
    refine C8 ?_; rintro _ _ ⟨rfl, rfl⟩
    refine A7 ?_
    skip
    exact D6 rfl takeZ rsubZ selZ ⟨((q9, ρ3), x0.t), .inr ⟨rfl, .exit 2, ⟨rfl, rfl, hQ4⟩, rfl⟩⟩
   ·refine AO ?_
    refine AU ?_
    refine AO ?_
    refine B5 ?_
    refine AO ?_
    refine AO ?_
    refine AO ?_
    refine B5 ?_
    refine AO ?_
    refine DM ?_
    refine DE ?_
    refine A7 ?_
    refine AM rfl ?_
    refine AL ?_
    refine A3 ?_
    refine BP takeZ rsubZ selZ ⟨((pv, ρp), v), .inl ⟨rfl, ⟨rfl, ?_⟩, rfl⟩⟩
    rw [htk]
    intro y hy
    rcases List.mem_append.1 hy with hy | hy
    ·exact hno y hy
    ·rw [List.mem_singleton.1 hy]
     exact decide_eq_false hnr
  ·rintro b2 x' ⟨rfl, hno⟩
   exfalso
   have hm := List.mem_of_find?_eq_some hx0
   have hp := List.find?_some hx0
   rw [hno x0 (by simpa [List.length_map] using hm)] at hp
   simp at hp
  ·rintro b2 c ⟨⟨pv2, ρ2⟩, v2⟩ ⟨rfl, hv2, hP2⟩
   dsimp only at hv2 hP2 ⊢
   subst hv2
   simp only [List.cons_append, List.nil_append]
   refine DY (R' := sng bD (.cells (ints D) 3 (0, 0)) :: sng b8 (.cells #[.slice (some ⟨bD, 0, none⟩) n n] 22 (0, 0)) :: β :: γ :: Rr) (by intro σ hσ; simp at hσ ⊢; rcases hσ with h | h | h | h | h <;> simp [h]) ?_
   refine CU (b := b2) takeZ (μ := μ) takeZ hM ?_
   intro μ2 hM2
   refine A9 rfl ?_
   refine A3 ?_
   refine AD ?_
   refine AA ?_
   refine AF ?_
   refine AE ?_
   refine AA ?_
   refine BK ?_; rintro _ _ ⟨b, rfl, rfl⟩
   refine A4 ?_; rintro _ _ ⟨rfl, rfl⟩
   refine AE ?_
   refine DK (((pre ++ [x0], x0.t), ((pv2, ρ2), b)), (b2 :: ms, μ2)) rfl ⟨hx0t, by dsimp only; omega, ?_, hP2, ?_, hM2⟩ (by dsimp only; omega) covZ selZ
   ·dsimp only
    rw [hpre, pathD_step hx0 hdv hx0d, List.append_assoc]; rfl
   ·dsimp only
    rw [List.length_append, List.length_singleton]; omega
end Go.Proofs.YthdoegkjifgegaaGreat
/- The least room on a path; graphs: new, a link added; the room of a residual arc. -/
namespace Go.Proofs.YthdoegkjifgegaaGreat
open Go.Eng Go.Flow
set_option maxRecDepth 100000
set_option maxHeartbeats 4000000

theorem least_spec (γ ρ : PH) (gb : Nat) (room pv : Value) (rm : Nat → Int) (Rr : List PH) (p : List Lk) (hG : rdc γ gb 2 = some room) (hp : IntsAt ρ pv (ksOf p)) (hl : p.length ≤ 100000)
  (hrm : ∀ x ∈ p, Ans Tryz.prog room [int x.k] Rr (fun v => v = int (rm x.k))) :
  Ans Tryz.prog (fv 100) [.pointer (some ⟨gb, 0, none⟩), pv] (γ :: ρ :: Rr) (fun v => v = int (leastR rm p)) := by
 obtain ⟨q, c, rfl, hr⟩ := hp.val Eng.encI_len
 have hkl : (ksOf p).length = p.length := by simp [ksOf]
 refine spec_in (cap := []) Tryz.func100 rfl rfl Tryz.ntmps100 rfl envZ (fun N β => ?_)
 refine AD ?_
 refine AA ?_
 refine AC ?_
 refine AE ?_
 refine AD ?_
 refine AA ?_
 refine AC ?_
 refine AE ?_
 refine AD ?_
 refine AD ?_
 refine AA ?_
 refine AB ?_
 refine A0 ?_
 refine AB ?_
 refine AE ?_
 refine AQ ?_
 refine BG [0, 1, 8, 9] ((0, 1099511627776) : Nat × Int) (fun x => x.1 ≤ p.length ∧ x.2 = leastR rm (p.take x.1)) (fun x => [(5, int x.2), (10, int x.1)]) (fun _ => []) (fun x => p.length - x.1) pickZ ⟨by simp, by simp [leastR]⟩ covZ selZ ?_
 rintro ⟨k, y⟩ ⟨hk, hy⟩
 simp only at hk hy
 by_cases hlt : k < p.length
 ·have hx : (ksOf p)[k]? = some (p[k].k : Int) := by simp [ksOf, hlt]
  obtain ⟨b, o, rfl, h0⟩ := hr.int hx
  have hcall := hrm p[k] (List.getElem_mem hlt)
  refine AD ?_
  refine AA ?_
  refine BD ?_
  refine AE ?_
  refine AD ?_
  refine AP rfl ?_
  refine AL ?_
  refine AD ?_
  refine AQ ?_
  refine AD ?_
  refine AA ?_
  refine BR ?_
  refine AF ?_
  refine AC ?_
  refine AE ?_
  refine AA ?_
  refine AB ?_
  refine AB ?_
  refine BF ?_
  refine AH ?_
  refine AF ?_
  refine AB ?_
  focus ((refine A2 hcall rfl rfl (fun τ hτ => .inl (by simp [hτ])) rfl rfl ?_; rintro v rfl))
  refine EB ?_
  refine AC ?_
  refine AE ?_
  refine A3 ?_
  refine AA ?_
  refine BC ?_
  refine AB ?_
  refine AE ?_
  refine AX (k + 1, _) ⟨by simp only; omega, ?_⟩ (by simp only; omega) covZ selZ
  simp only
  rw [take_snoc' hlt, leastR_snoc, ← hy]
 ·refine AD ?_
  refine AA ?_
  refine AW ?_
  refine AE ?_
  refine AD ?_
  refine AM rfl ?_
  refine A9 rfl ?_
  refine AD ?_
  refine AA ?_
  refine AB ?_
  refine AC ?_
  refine AE ?_
  refine AI (res1 rfl rfl) rsubZ selZ ⟨rfl, ?_⟩
  rw [hy, List.take_of_length_le (by omega)]

/-- a graph's head: two rows of lists, and the function that tells rooms -/
abbrev gHead (gb ob ib n : Nat) (room : Value) : PH := sng gb (.cells #[.slice (some ⟨ob, 0, none⟩) n n, .slice (some ⟨ib, 0, none⟩) n n, room] 126 (0, 0))
abbrev gRow (b : Nat) (vs : List Value) : PH := sng b (.cells vs.toArray 122 (0, 0))
theorem newGraph_spec (n : Nat) (f : Nat) (cap : List Value) (hn : n ≤ 2000) :
  Eng.Spec Tryz.prog (fv 127) [int n, .func (.func f) #[] cap.toArray] [] [] (fun v H' => ∃ gb ob ib, v = .pointer (some ⟨gb, 0, none⟩) ∧
   H' = [gHead gb ob ib n (.func (.func f) #[] cap.toArray), gRow ob (List.replicate n (.slice none 0 0)), gRow ib (List.replicate n (.slice none 0 0))]) := by
 refine spec_in (cap := []) Tryz.func127 rfl rfl Tryz.ntmps127 rfl envZ (fun N β => ?_)
 refine AD ?_
 refine AA ?_
 refine AC ?_
 refine AE ?_
 refine AD ?_
 refine A5 (.q 0 (.q 2 (.q 4 (.l2 1 .e (.l 3 .e (.q 5 (.l 6 .e (.q 7 .nil)))) 3 .e (.l 1 .e (.q 5 (.l 6 .e (.q 7 .nil)))))))) [] rfl (by kernel_rfl) selZ ?_
 repeat' (first
  | (refine AT ?_)
  | (refine BL ?_)
  | (refine CD ?_)
  | (refine A7 ?_)
  | (refine FO ?_ ?_)
  | (refine FW ?_; rintro _ _ ⟨b, rfl, rfl⟩)
  | (refine FJ ?_; rintro _ _ ⟨b, rfl, rfl⟩)
  | (refine FV ?_; rintro _ _ ⟨b, rfl, rfl⟩)
  | fail)
 repeat' (first
  | fail)
 all_goals exact AI (res1 rfl rfl) rsubZ selZ ⟨_, _, _, rfl, rfl⟩
theorem OwnS.one {e : TypeId} {size : Nat} {v : Value} {n : Nat} {xs : List Value} {ρ : PH} (h : OwnS e size v n xs ρ) : v.oneCell' = true := by
 obtain ⟨b, c, rfl⟩ := h.at.cap
 rfl
set_option maxHeartbeats 4000000 in
theorem add_spec (gb ob ib n k f t : Nat) (room : Value) (ov iv : List Value) (lo li : List Lk) (ρo ρi : PH) (hov : ov.length = n) (hiv : iv.length = n) (hf : f < n) (ht : t < n)
  (ho : ∃ u, ov[f]? = some u ∧ OwnS 128 3 u lo.length (lo.flatMap encL) ρo) (hi : ∃ u, iv[t]? = some u ∧ OwnS 128 3 u li.length (li.flatMap encL) ρi) (hlo : lo.length ≤ 40000) (hli : li.length ≤ 40000) :
  Eng.Spec Tryz.prog (fv 129) [.pointer (some ⟨gb, 0, none⟩), int k, int f, int t] [] [gHead gb ob ib n room, gRow ob ov, gRow ib iv, ρo, ρi] (fun v H' => v = .tuple #[] ∧ ∃ q1 q2 ρ1 ρ2,
   OwnS 128 3 q1 (lo ++ [(⟨k, f, t⟩ : Lk)]).length ((lo ++ [(⟨k, f, t⟩ : Lk)]).flatMap encL) ρ1 ∧ OwnS 128 3 q2 (li ++ [(⟨k, f, t⟩ : Lk)]).length ((li ++ [(⟨k, f, t⟩ : Lk)]).flatMap encL) ρ2 ∧
   H' = [gHead gb ob ib n room, gRow ob (ov.set f q1), gRow ib (iv.set t q2), ρ1, ρ2]) := by
 obtain ⟨uo, huo, hO⟩ := ho
 obtain ⟨ui, hui, hI⟩ := hi
 have co : rdc (gRow ob ov) ob f = some uo := by rw [rdc_sng]; simpa using huo
 have ci : rdc (gRow ib iv) ib t = some ui := by rw [rdc_sng]; simpa using hui
 refine spec_in (cap := []) Tryz.func129 rfl rfl Tryz.ntmps129 rfl envZ (fun N β => ?_)
 refine AD ?_
 refine AA ?_
 refine AB ?_
 refine AB ?_
 refine AB ?_
 refine BS ?_
 refine AZ ?_; rintro _ _ ⟨b, rfl, rfl⟩
 refine AY ?_; rintro _ _ ⟨rfl, rfl⟩
 refine AE ?_
 refine A5 (.p 0 (.p 1 (.p 2 (.p 3 (.p 4 (.p 5 (.p 6 (.p 7 (.p 8 (.p 9 (.q 10 (.q 11 (.q 12 (.q 13 (.q 14 (.q 15 (.q 16 (.q 17 (.p 20 (.p 21 (.p 22 (.p 23 (.p 24 (.p 25 (.p 26 (.p 27 (.l2 18 .e (.l2 19 .b (.l 28 .e (.l 29 .b (.q 30 (.l 31 .b (.q 32 (.l 33 .b .nil)))))) 28 .e (.l 19 .b (.l 29 .b (.q 30 (.l 31 .b (.q 32 (.l 33 .b .nil))))))) 28 .e (.l 18 .e (.l 19 .b (.l 29 .b (.q 30 (.l 31 .b (.q 32 (.l 33 .b .nil)))))))))))))))))))))))))))))))))) [gHead gb ob ib n room, gRow ib iv, sng b (.cells #[int (k : Int), int (f : Int), int (t : Int)] 128 (0, 0))] rfl (by kernel_rfl) selZ ?_
 repeat' (first
  | (refine AT ?_)
  | (refine AO ?_)
  | (refine AU ?_)
  | (refine B5 ?_)
  | (refine AV ?_)
  | (refine BW ?_)
  | (refine FD ?_)
  | (refine FE ?_)
  | (refine FF ?_)
  | (refine GG ?_)
  | (refine EK ?_)
  | (refine FT ?_)
  | (refine FO ?_ ?_)
  | (refine BQ ?_; rintro _ _ ⟨b, rfl, rfl⟩)
  | (refine D3 ?_; rintro _ _ ⟨b, rfl, rfl⟩)
  | fail)
 all_goals (try refine CO ?_)
 all_goals (refine' a_b rfl _ rfl rfl rfl _ _; rotate_left; (focus (exact CA (by_ := 24) (s := 3) (news := [int (k : Int), int (f : Int), int (t : Int)]) rfl rfl rfl rfl rfl rfl rfl hO takeZ (cells_own memZ) rfl (by (repeat (first | exact (fun v hv => absurd hv List.not_mem_nil) | (refine List.forall_mem_cons.2 ⟨?_, ?_⟩; (focus (first | exact rfl | assumption))))); first | done | fail) (by omega) (by simp only [maxLen]; omega) (by omega))); (focus (rintro _ _ ⟨_, _, rfl⟩ w hw; exact hw.sel selZ)); rintro q1 _ ⟨ρ1, hQ1, rfl⟩)
 repeat' (first
  | (refine BQ ?_; rintro _ _ ⟨b, rfl, rfl⟩)
  | fail)
 all_goals (refine CO ?_; refine' a_b rfl _ rfl rfl rfl _ _; rotate_left; (focus (exact CA (by_ := 24) (s := 3) (news := [int (k : Int), int (f : Int), int (t : Int)]) rfl rfl rfl rfl rfl rfl rfl hI takeZ (cells_own memZ) rfl (by (repeat (first | exact (fun v hv => absurd hv List.not_mem_nil) | (refine List.forall_mem_cons.2 ⟨?_, ?_⟩; (focus (first | exact rfl | assumption))))); first | done | fail) (by omega) (by simp only [maxLen]; omega) (by omega))); (focus (rintro _ _ ⟨_, _, rfl⟩ w hw; exact hw.sel selZ)); rintro q2 _ ⟨ρ2, hQ2, rfl⟩)
 all_goals have h1 : q1.oneCell' = true := OwnS.one hQ1
 all_goals have h2 : q2.oneCell' = true := OwnS.one hQ2
 repeat' (first
  | (refine B5 ?_)
  | (refine FY ?_; rintro _ _ ⟨rfl, rfl⟩)
  | fail)
 all_goals (refine CO ?_; refine' a_full rfl _ rfl (.inr ⟨rfl, rfl⟩) (by kernel_rfl) (Hf' := []) _ _; rotate_left; (focus (apply C3; exact rfl; exact rfl; exact h2; exact rfl; exact takeZ; (simp; omega))); (focus (rintro _ _ ⟨_, rfl⟩ w hw; exact hw.sel selZ)); rintro _ _ ⟨rfl, rfl⟩)
 repeat' (first
  | (refine A7 ?_)
  | fail)
 repeat' (first
  | fail)
 all_goals have e1 : sng ob (.cells (ov.toArray.setIfInBounds f q1) 122 (0, 0)) = gRow ob (ov.set f q1) := by simp [gRow]
 all_goals have e2 : sng ib (.cells (iv.toArray.setIfInBounds t q2) 122 (0, 0)) = gRow ib (iv.set t q2) := by simp [gRow]
 all_goals rw [e1, e2]
 all_goals refine BO (H' := [gHead gb ob ib n room, gRow ob (ov.set f q1), gRow ib (iv.set t q2), ρ1, ρ2]) (res0 rfl) rsubZ selZ ⟨rfl, q1, q2, ρ1, ρ2, ?_, ?_, rfl⟩
 all_goals first
  | (rw [List.flatMap_append, List.length_append]; exact hQ1)
  | (rw [List.flatMap_append, List.length_append]; exact hQ2)

end Go.Proofs.YthdoegkjifgegaaGreat
/- The rooms of residual arcs; residual graphs. -/
namespace Go.Proofs.YthdoegkjifgegaaGreat
open Go.Eng Go.Flow
set_option maxRecDepth 100000
set_option maxHeartbeats 4000000

theorem residual1_spec (ρ : PH) (v : Value) (b1 b2 bf m c k : Nat) (T1 T2 T3 : TypeId) (l : List Arc) (fl : List Int) (hv : ArcsAt ρ v l) (hfl : fl.length = l.length) (hm : m = l.length) (hk : k < 2 * l.length) (hl : l.length ≤ 20000)
  (hc : inCap l fl = true) (hok : ∀ a ∈ l, 0 ≤ a.c ∧ a.c ≤ 1099511627776) :
  Ans Tryz.prog (.func (.func 128) #[] #[.pointer (some ⟨b1, 0, none⟩), .pointer (some ⟨b2, 0, none⟩)]) [int k] [ρ, sng b1 (.cells #[v] T1 (0, 0)), sng b2 (.cells #[.slice (some ⟨bf, 0, none⟩) m c] T2 (0, 0)), sng bf (.cells (ints fl) T3 (0, 0))]
   (fun r => r = int (rmR l fl k)) := by
 obtain ⟨q, c', rfl, hr⟩ := hv.val encA_len
 subst hm
 have c1 : rdc (sng b1 (.cells #[.slice q l.length c'] T1 (0, 0))) b1 0 = some (.slice q l.length c') := by rw [rdc_sng]; rfl
 have c2 : rdc (sng b2 (.cells #[.slice (some ⟨bf, 0, none⟩) l.length c] T2 (0, 0))) b2 0 = some (.slice (some ⟨bf, 0, none⟩) l.length c) := by rw [rdc_sng]; rfl
 have hlt : k / 2 < l.length := by omega
 have hx := List.getElem?_eq_getElem hlt
 obtain ⟨b, o, rfl, hA, h0, h1, h2⟩ := arcRow hr hx
 have hfx : fl.getD (k / 2) 0 = fl[k / 2] := by simp [List.getD_eq_getElem?_getD, show k / 2 < fl.length by omega]
 have hfy := inCap_get l fl hc (k / 2) l[k / 2] fl[k / 2] hx (List.getElem?_eq_getElem (by omega))
 have hcy := hok l[k / 2] (List.getElem_mem hlt)
 have hdef : l.getD (k / 2) default = l[k / 2] := by simp [List.getD_eq_getElem?_getD, hlt]
 have e2 : ((k : Int) / 2) = ((k / 2 : Nat) : Int) := by omega
 have e3 : ((k : Int) % 2) = ((k % 2 : Nat) : Int) := by omega
 refine spec_in (cap := [.pointer (some ⟨b1, 0, none⟩), .pointer (some ⟨b2, 0, none⟩)]) Tryz.func128 rfl rfl Tryz.ntmps128 rfl envZ (fun N β => ?_)
 by_cases hp : k % 2 = 0
 ·refine AD ?_
  refine AA ?_
  refine AC ?_
  refine AE ?_
  refine AD ?_
  refine AD ?_
  refine AA ?_
  refine AB ?_
  refine EU ?_
  refine CB ?_
  refine AE ?_
  refine AP rfl ?_
  refine AD ?_
  refine A5 (.q 0 (.q 1 (.q 2 (.q 3 (.q 4 (.q 5 (.q 6 (.q 7 (.q 8 (.q 9 (.q 10 (.q 11 (.q 12 .nil))))))))))))) [] rfl (by kernel_rfl) selZ ?_
  refine AO ?_
  refine AT ?_
  refine FH ?_
  refine B6 ?_
  refine CK ?_
  refine AO ?_
  refine AO ?_
  refine AT ?_
  refine FH ?_
  refine B5 ?_
  refine AO ?_
  refine DM ?_
  refine BL ?_
  refine A7 ?_
  skip
  refine AI (res1 rfl rfl) rsubZ selZ ⟨rfl, ?_⟩
  unfold rmR
  rw [if_pos hp, hdef]
 ·refine AD ?_
  refine AA ?_
  refine AC ?_
  refine AE ?_
  refine AD ?_
  refine AD ?_
  refine AA ?_
  refine AB ?_
  refine EU ?_
  refine BZ ?_
  refine AE ?_
  refine AM rfl ?_
  refine AL ?_
  refine AD ?_
  refine AA ?_
  refine AF ?_
  refine AB ?_
  refine EM ?_
  refine B0 ?_
  refine AF ?_
  refine AC ?_
  refine AE ?_
  refine AI (res1 rfl rfl) rsubZ selZ ⟨rfl, ?_⟩
  unfold rmR
  rw [if_neg hp]
end Go.Proofs.YthdoegkjifgegaaGreat
/- A graph that is built link by link; the residual graph. -/
namespace Go.Proofs.YthdoegkjifgegaaGreat
open Go.Eng Go.Flow
set_option maxRecDepth 100000
set_option maxHeartbeats 4000000

/-- the lists of links in a row of slices -/
def RowOK (n : Nat) (vs : List Value) (cs : List PH) (lf : Nat → List Lk) : Prop :=
 vs.length = n ∧ cs.length = n ∧ ∀ v, v < n → ∃ u ρ, vs[v]? = some u ∧ cs[v]? = some ρ ∧ OwnS 128 3 u (lf v).length ((lf v).flatMap encL) ρ
theorem RowOK.set {n : Nat} {vs : List Value} {cs : List PH} {lf lf' : Nat → List Lk} (h : RowOK n vs cs lf) {f : Nat} {u : Value} {ρ : PH} (hu : OwnS 128 3 u (lf' f).length ((lf' f).flatMap encL) ρ) (he : ∀ v, v ≠ f → lf' v = lf v) :
  RowOK n (vs.set f u) (cs.set f ρ) lf' := by
 obtain ⟨h1, h2, h3⟩ := h
 refine ⟨by simp [h1], by simp [h2], fun v hv => ?_⟩
 by_cases e : v = f
 ·subst e
  exact ⟨u, ρ, by simp [h1, hv], by simp [h2, hv], hu⟩
 ·obtain ⟨u', ρ', g1, g2, g3⟩ := h3 v hv
  rw [← he v e] at g3
  exact ⟨u', ρ', by rw [List.getElem?_set_ne (Ne.symm e)]; exact g1, by rw [List.getElem?_set_ne (Ne.symm e)]; exact g2, g3⟩
def GBl (gb ob ib n : Nat) (room : Value) (ls : List Lk) (H : List PH) : Prop :=
 ∃ ov iv oc ic, RowOK n ov oc (outsOf ls) ∧ RowOK n iv ic (insOf ls) ∧ H = gHead gb ob ib n room :: gRow ob ov :: gRow ib iv :: (oc ++ ic)
theorem add_bl {gb ob ib n : Nat} {room : Value} {ls : List Lk} {H : List PH} (h : GBl gb ob ib n room ls H) (k f t : Nat) (hf : f < n) (ht : t < n) (hl : ls.length ≤ 40000) :
  Eng.Spec Tryz.prog (fv 129) [.pointer (some ⟨gb, 0, none⟩), int k, int f, int t] [] H (fun v H' => v = .tuple #[] ∧ GBl gb ob ib n room (ls ++ [(⟨k, f, t⟩ : Lk)]) H') := by
 obtain ⟨ov, iv, oc, ic, ho, hi, rfl⟩ := h
 obtain ⟨uo, ρo, a1, a2, a3⟩ := ho.2.2 f hf
 obtain ⟨ui, ρi, c1, c2, c3⟩ := hi.2.2 t ht
 have hs := add_spec gb ob ib n k f t room ov iv (outsOf ls f) (insOf ls t) ρo ρi ho.1 hi.1 hf ht ⟨uo, a1, a3⟩ ⟨ui, c1, c3⟩ (filter_le _ _ hl) (filter_le _ _ hl)
 refine Spec.perm ?_ (hs.frame (oc.eraseIdx f ++ ic.eraseIdx t)) ?_
 ·simp only [List.cons_append, List.nil_append]
  refine ((List.Perm.trans ?_ ((erase_get_perm a2).append (erase_get_perm c2)).symm).cons _).cons _ |>.cons _
  simp only [List.cons_append]
  exact (List.perm_middle.symm).cons _
 ·rintro v H1 ⟨H2, rfl, rfl, q1, q2, ρ1, ρ2, hq1, hq2, rfl⟩
  refine ⟨gHead gb ob ib n room :: gRow ob (ov.set f q1) :: gRow ib (iv.set t q2) :: (oc.set f ρ1 ++ ic.set t ρ2), ?_, rfl, ov.set f q1, iv.set t q2, oc.set f ρ1, ic.set t ρ2, ?_, ?_, rfl⟩
  ·simp only [List.cons_append, List.nil_append]
   refine ((List.Perm.trans ?_ ((erase_set_perm ρ1 (by rw [ho.2.1]; exact hf)).append (erase_set_perm ρ2 (by rw [hi.2.1]; exact ht))).symm).cons _).cons _ |>.cons _
   simp only [List.cons_append]
   exact (List.perm_middle.symm).cons _
  ·refine ho.set (lf' := outsOf (ls ++ [(⟨k, f, t⟩ : Lk)])) ?_ (fun v hv => by rw [outsOf_snoc, if_neg (Ne.symm hv), List.append_nil])
   rw [outsOf_snoc, if_pos rfl]; exact hq1
  ·refine hi.set (lf' := insOf (ls ++ [(⟨k, f, t⟩ : Lk)])) ?_ (fun v hv => by rw [insOf_snoc, if_neg (Ne.symm hv), List.append_nil])
   rw [insOf_snoc, if_pos rfl]; exact hq2
theorem GBl.at {gb ob ib n : Nat} {room : Value} {ls : List Lk} {H : List PH} (h : GBl gb ob ib n room ls H) {γ : PH} (hs : ∀ ρ ∈ H, PH.sub ρ γ) : GAt γ gb n (outsOf ls) (insOf ls) room := by
 obtain ⟨ov, iv, oc, ic, ho, hi, rfl⟩ := h
 have hh := hs (gHead gb ob ib n room) (by simp)
 have hr1 := hs (gRow ob ov) (by simp)
 have hr2 := hs (gRow ib iv) (by simp)
 refine ⟨⟨ob, n, hh.rdc (by rw [rdc_sng]; rfl), fun v hv => ?_⟩, ⟨ib, n, hh.rdc (by rw [rdc_sng]; rfl), fun v hv => ?_⟩, hh.rdc (by rw [rdc_sng]; rfl)⟩
 ·obtain ⟨u, ρ, g1, g2, g3⟩ := ho.2.2 v hv
  refine ⟨u, hr1.rdc (by rw [rdc_sng]; simpa using g1), (hs ρ ?_).slE g3.at⟩
  have := List.mem_of_getElem? g2
  simp [this]
 ·obtain ⟨u, ρ, g1, g2, g3⟩ := hi.2.2 v hv
  refine ⟨u, hr2.rdc (by rw [rdc_sng]; simpa using g1), (hs ρ ?_).slE g3.at⟩
  have := List.mem_of_getElem? g2
  simp [this]
theorem GOk_of {n : Nat} {ls : List Lk} (hn : n ≤ 2000) (hl : ls.length ≤ 40000) (hx : ∀ x ∈ ls, x.f < n ∧ x.t < n ∧ x.k ≤ 40000) : GOk n (outsOf ls) (insOf ls) where
 n1 := hn
 len := fun _ => ⟨filter_le _ _ hl, filter_le _ _ hl⟩
 inT := fun v x _ hm => by
  unfold insOf at hm; rw [List.mem_filter] at hm
  have := hx x hm.1
  exact ⟨by simpa using hm.2, this.1, this.2.2⟩
 outF := fun v x _ hm => by
  unfold outsOf at hm; rw [List.mem_filter] at hm
  have := hx x hm.1
  exact ⟨by simpa using hm.2, this.2.1, this.2.2⟩
 same := fun x _ _ => by unfold insOf outsOf; simp
theorem GBl_new (gb ob ib n : Nat) (room : Value) : GBl gb ob ib n room [] (gHead gb ob ib n room :: gRow ob (List.replicate n (.slice none 0 0)) :: gRow ib (List.replicate n (.slice none 0 0)) :: (List.replicate n emp ++ List.replicate n emp)) := by
 have h : ∀ lf : Nat → List Lk, (∀ v, lf v = []) → RowOK n (List.replicate n (.slice none 0 0)) (List.replicate n emp) lf := fun lf hl => by
  refine ⟨by simp, by simp, fun v hv => ⟨.slice none 0 0, emp, by simp [hv], by simp [hv], ?_⟩⟩
  rw [hl v]
  exact OwnS.nil _ _
 exact ⟨_, _, _, _, h _ (fun _ => rfl), h _ (fun _ => rfl), rfl⟩

abbrev roomR (b1 b2 : Nat) : Value := .func (.func 128) #[] #[.pointer (some ⟨b1, 0, none⟩), .pointer (some ⟨b2, 0, none⟩)]
set_option maxHeartbeats 2000000 in
theorem residual_spec (ρ : PH) (v fs : Value) (n : Nat) (l : List Arc) (hv : ArcsAt ρ v l) (hfs : fs.oneCell' = true) (hn : n ≤ 2000) (hl : l.length ≤ 20000) (hok : ∀ a ∈ l, okArc n a = true) :
  Eng.Spec Tryz.prog (fv 98) [int n, v, fs] [ρ] [] (fun r H' => ∃ gb b1 b2 γ, r = .pointer (some ⟨gb, 0, none⟩) ∧ GAt γ gb n (outsOf (rlinks l)) (insOf (rlinks l)) (roomR b1 b2) ∧
   H' = [γ, sng b1 (.cells #[v] 34 (0, 0)), sng b2 (.cells #[fs] 22 (0, 0))]) := by
 have hv1 := SlE.one hv
 obtain ⟨q, c, rfl, hr⟩ := hv.val encA_len
 refine spec_in (cap := []) Tryz.func98 rfl rfl Tryz.ntmps98 rfl envZ (fun N β => ?_)
 refine AD ?_
 refine AA ?_
 refine BJ (CP rfl rfl) rfl rfl rfl ?_
 rintro _ _ ⟨b1, rfl, rfl⟩
 refine BJ (CP rfl hfs) rfl rfl rfl ?_
 rintro _ _ ⟨b2, rfl, rfl⟩
 refine AC ?_
 refine AE ?_
 refine AD ?_
 refine AA ?_
 refine AB ?_
 refine BM ?_
 refine BB (newGraph_spec n 128 [.pointer (some ⟨b1, 0, none⟩), .pointer (some ⟨b2, 0, none⟩)] hn) rfl rfl takesZ rdZ rfl rfl ?_
 rintro _ _ ⟨gb, ob, ib, rfl, rfl⟩
 simp only [List.cons_append, List.nil_append]
 have hG0 := GBl_new gb ob ib n (roomR b1 b2)
 refine FC (n + n) ?_
 simp only [List.cons_append, List.nil_append]
 refine AC ?_
 refine AE ?_
 refine AD ?_
 refine AD ?_
 refine AA ?_
 refine AF ?_
 refine A0 ?_
 refine AB ?_
 refine AE ?_
 refine AQ ?_
 refine BG [0, 4, 5, 7, 13, 14] (X := Nat × List PH) (0, _) (fun x => x.1 ≤ l.length ∧ GBl gb ob ib n (roomR b1 b2) (rlinks (l.take x.1)) x.2) (fun x => [(15, int x.1)])
  (fun x => sng b1 (.cells #[.slice q l.length c] 34 (0, 0)) :: sng b2 (.cells #[fs] 22 (0, 0)) :: x.2) (fun x => l.length - x.1) pickZ ⟨by simp, hG0⟩ covZ ?_ ?_
 ·refine Sel.cons takeZ (Sel.cons takeZ (Sel.cons takeZ (Sel.cons takeZ (Sel.cons takeZ ?_))))
  rw [List.replicate_append_replicate]
  exact Sel.refl
 rintro ⟨k, Hg⟩ ⟨hk, hG⟩
 dsimp only at hk hG ⊢
 by_cases hlt : k < l.length
 ·have hx := List.getElem?_eq_getElem hlt
  obtain ⟨b', o, rfl, hA, h0, h1, h2⟩ := arcRow hr hx
  obtain ⟨g1, g2, g3, g4, g5, g6, g7⟩ := okArc_iff.1 (hok l[k] (List.getElem_mem hlt))
  obtain ⟨f, hf⟩ := Int.eq_ofNat_of_zero_le g1
  obtain ⟨t, ht⟩ := Int.eq_ofNat_of_zero_le g3
  have hlr := rlinks_len (l.take k)
  have hlk : (l.take k).length = k := by simp; omega
  have hsn := rlinks_snoc (l.take k) l[k]
  rw [← take_snoc' hlt, hlk, hf, ht] at hsn
  simp only [Int.toNat_natCast] at hsn
  rw [hf, ht] at hA
  have a1 := add_bl hG (2 * k) f t (by omega) (by omega) (by omega)
  refine AD ?_
  refine AA ?_
  refine BD ?_
  refine AE ?_
  refine AD ?_
  refine AP rfl ?_
  refine AL ?_
  refine AD ?_
  refine AQ ?_
  refine AD ?_
  refine AA ?_
  refine AB ?_
  refine BI ?_
  refine AS ?_
  refine AZ ?_; rintro _ _ ⟨b, rfl, rfl⟩
  refine AC ?_
  refine AY ?_; rintro _ _ ⟨rfl, rfl⟩
  refine AE ?_
  refine AD ?_
  refine AA ?_
  refine AB ?_
  refine AB ?_
  refine ET ?_
  refine AH ?_
  refine AF ?_
  refine AH ?_
  refine AF ?_
  refine BB a1 rfl rfl (Takes.skips [_, _, _] Takes.all) rdZ rfl rfl ?_
  rintro _ H1 ⟨rfl, hG1⟩
  refine CF (H' := sng b (.cells #[int (f : Int), int (t : Int), int l[k].c] 66 (0, 0)) :: sng b1 (.cells #[.slice (some ⟨b', o, none⟩) l.length c] 34 (0, 0)) :: sng b2 (.cells #[fs] 22 (0, 0)) :: H1) (by simpa using List.perm_append_comm (l₁ := H1) (l₂ := [_, _, _])) ?_
  have a2 := add_bl hG1 (2 * k + 1) t f (by omega) (by omega) (by rw [List.length_append]; simp only [List.length_singleton]; omega)
  refine AE ?_
  refine AA ?_
  refine AB ?_
  refine AB ?_
  refine ET ?_
  refine CJ ?_
  refine AH ?_
  refine AF ?_
  refine AH ?_
  refine AF ?_
  refine BB a2 rfl rfl (Takes.skips [_, _, _] Takes.all) rdZ rfl rfl ?_
  rintro _ H2 ⟨rfl, hG2⟩
  refine CF (H' := sng b (.cells #[int (f : Int), int (t : Int), int l[k].c] 66 (0, 0)) :: sng b1 (.cells #[.slice (some ⟨b', o, none⟩) l.length c] 34 (0, 0)) :: sng b2 (.cells #[fs] 22 (0, 0)) :: H2) (by simpa using List.perm_append_comm (l₁ := H2) (l₂ := [_, _, _])) ?_
  refine AE ?_
  refine A3 ?_
  refine AA ?_
  refine BC ?_
  refine AB ?_
  refine AE ?_
  refine AX (k + 1, H2) ⟨by dsimp only; omega, ?_⟩ (by dsimp only; omega) covZ (Sel.cons takeZ (Sel.cons takeZ (Sel.skip Sel.refl)))
  dsimp only
  rw [hsn]
  simpa using hG2
 ·rw [List.take_of_length_le (by omega)] at hG
  refine AD ?_
  refine AA ?_
  refine AW ?_
  refine AE ?_
  refine AD ?_
  refine AM rfl ?_
  refine A9 rfl ?_
  refine AD ?_
  refine AA ?_
  refine AB ?_
  refine AC ?_
  refine AE ?_
  refine CF (H' := Hg ++ [sng b1 (.cells #[.slice q l.length c] 34 (0, 0)), sng b2 (.cells #[fs] 22 (0, 0))]) (by simpa using List.perm_append_comm (l₂ := Hg) (l₁ := [_, _])) ?_
  refine DO (fun γ hγ => ?_)
  exact AI (res1 rfl rfl) rsubZ selZ ⟨gb, b1, b2, γ, rfl, hG.at hγ, rfl⟩
end Go.Proofs.YthdoegkjifgegaaGreat
/- The maximum flow: paths as long as there are any. -/
namespace Go.Proofs.YthdoegkjifgegaaGreat
open Go.Eng Go.Flow
set_option maxRecDepth 100000
set_option maxHeartbeats 4000000

theorem opens_opn {n : Nat} {ls : List Lk} (hls : ∀ x ∈ ls, x.f < n ∧ x.t < n) (rm : Nat → Int) : opens n (insOf ls) rm = opn ls rm := opens_eq hls rm
theorem nxO_nxt (ls : List Lk) (rm : Nat → Int) (D : List Int) : nxO (outsOf ls) rm D = nxt ls rm D := nxt_eq ls rm D
/-- what the search for a maximum flow leaves -/
def MaxLeft (n : Nat) (l : List Arc) (s t : Nat) (v fs gv : Value) (F : List Int) (H : List PH) : Prop :=
 ∃ bf gb b1 b2 γ, fs = .slice (some ⟨bf, 0, none⟩) l.length l.length ∧ gv = .pointer (some ⟨gb, 0, none⟩) ∧ GAt γ gb n (outsOf (rlinks l)) (insOf (rlinks l)) (roomR b1 b2) ∧ RunR n l s t (List.replicate l.length 0) F ∧
  H = [sng bf (.cells (ints F) 3 (0, 0)), γ, sng b1 (.cells #[v] 34 (0, 0)), sng b2 (.cells #[.slice (some ⟨bf, 0, none⟩) l.length l.length] 22 (0, 0))]
set_option maxHeartbeats 4000000 in
theorem maximum_spec (ρ : PH) (v : Value) (n : Nat) (l : List Arc) (s t : Nat) (hv : ArcsAt ρ v l) (hn : n ≤ 2000) (hl : l.length ≤ 20000) (hok : ∀ a ∈ l, okArc n a = true) (hs : s < n) (ht : t < n) (hst : s ≠ t) :
  Eng.Spec Tryz.prog (fv 55) [int n, v, int s, int t] [ρ] [] (fun r H' => ∃ fs gv F, r = .tuple #[fs, gv] ∧ MaxLeft n l s t v fs gv F H') := by
 have hv1 := SlE.one hv
 have hrl := rl_lt hok
 have hGok : GOk n (outsOf (rlinks l)) (insOf (rlinks l)) := GOk_of hn (by rw [rlinks_len]; omega) (fun x hx => by have := rlinks_mem hok hx; omega)
 have hcap : ∀ a ∈ l, 0 ≤ a.c ∧ a.c ≤ 1099511627776 := fun a ha => by have := okArc_iff.1 (hok a ha); omega
 obtain ⟨q, c, rfl, hr⟩ := hv.val encA_len
 refine spec_in (cap := []) Tryz.func55 rfl rfl Tryz.ntmps55 rfl envZ (fun N β => ?_)
 refine AD ?_
 refine AA ?_
 refine AC ?_
 refine AC ?_
 refine AE ?_
 refine AD ?_
 refine AA ?_
 refine AB ?_
 refine A0 ?_
 refine D0 ?_; rintro _ _ ⟨b, rfl, rfl⟩
 refine AC ?_
 refine AE ?_
 refine AD ?_
 refine AA ?_
 refine AB ?_
 refine AB ?_
 refine AB ?_
 revert b; intro bf
 refine BB (residual_spec ρ _ (.slice (some ⟨bf, 0, none⟩) l.length l.length) n l hv rfl hn hl hok) rfl rfl takesZ rdZ rfl rfl ?_
 rintro _ _ ⟨gb, b1, b2, γ, rfl, hG, rfl⟩
 simp only [List.cons_append, List.nil_append]
 refine AC ?_
 refine AE ?_
 refine AQ ?_
 refine BG [0, 1, 2, 3, 10, 11] (List.replicate l.length (0 : Int)) (fun fl => Flw n l s t fl ∧ ∀ F, RunR n l s t fl F → RunR n l s t (List.replicate l.length 0) F) (fun _ => [])
  (fun fl => [sng bf (.cells (ints fl) 3 (0, 0)), γ, sng b1 (.cells #[.slice q l.length c] 34 (0, 0)), sng b2 (.cells #[.slice (some ⟨bf, 0, none⟩) l.length l.length] 22 (0, 0))])
  (fun fl => (1099511627776 * (2 * (l.length : Int)) - fval s l fl).toNat) pickZ ⟨flw_zeros hok, fun _ h => h⟩ covZ selZ ?_
 rintro fl ⟨hF, hrun⟩
 have hrm : ∀ v x, v < n → x ∈ insOf (rlinks l) v → Ans Tryz.prog (roomR b1 b2) [int x.k] [ρ, sng b1 (.cells #[.slice q l.length c] 34 (0, 0)), sng b2 (.cells #[.slice (some ⟨bf, 0, none⟩) l.length l.length] 22 (0, 0)), sng bf (.cells (ints fl) 3 (0, 0))] (fun r => r = int (rmR l fl x.k)) := fun v x _ hx => by
  have hm : x ∈ rlinks l := by unfold insOf at hx; exact (List.mem_filter.1 hx).1
  exact residual1_spec ρ _ b1 b2 bf l.length l.length x.k _ _ _ l fl hv hF.len.symm rfl (rlinks_mem hok hm).2.2 hl hF.cap hcap
 refine AQ ?_
 refine AD ?_
 refine AA ?_
 refine AB ?_
 refine AB ?_
 refine AB ?_
 refine BV (path_spec γ gb n s t (outsOf (rlinks l)) (insOf (rlinks l)) (roomR b1 b2) (rmR l fl) _ hG hGok hs ht hrm) rfl rfl rdZ rfl rfl ?_
 rintro _ ρp ⟨D, pv, hD, rfl, hP⟩
 rw [opens_opn hrl] at hD
 rw [nxO_nxt] at hP
 by_cases h0 : 0 ≤ D.getD s 0
 rotate_left
 ·rw [decide_eq_false h0]
  refine AB ?_
  refine AN ?_
  refine AN ?_
  refine AC ?_
  refine AC ?_
  refine AE ?_
  refine AD ?_
  refine AD ?_
  refine AA ?_
  refine AB ?_
  refine A6 ?_
  refine AE ?_
  refine AP rfl ?_
  refine AD ?_
  refine AA ?_
  refine AB ?_
  refine AB ?_
  refine AC ?_
  refine AC ?_
  refine AE ?_
  exact AI (res2 rfl rfl rfl) rsubZ selZ ⟨_, _, fl, rfl, bf, gb, b1, b2, γ, rfl, rfl, hG, hrun fl (.done hD (by omega)), rfl⟩
 rw [decide_eq_true h0]
 obtain ⟨hN1, hN2, hN3⟩ := rNext_ok hok hs hst hF hD h0
 obtain ⟨k0, hk0⟩ := Int.eq_ofNat_of_zero_le h0
 have hDn := hD.lt (fun x hx => hrl x hx.1) ht hs
 have hPl : (rP l fl D s).length = k0 := path_len hrl hD k0 s hs hk0
 have hPm : ∀ x ∈ rP l fl D s, x ∈ rlinks l := fun x hx => ((path_chn hrl hD k0 s hs hk0).all x hx).1.1
 have hroom : leastR (rmR l fl) (rP l fl D s) ≤ 1099511627776 := (leastR_le _ _ _).1
 have hIn : IntsAt ρp pv (ksOf (rP l fl D s)) := ownInts (e := 3) (by rw [show (ksOf (rP l fl D s)).length = (rP l fl D s).length from by simp [ksOf]]; exact hP)
 have hlst := least_spec γ ρp gb (roomR b1 b2) pv (rmR l fl) _ (rP l fl D s) hG.r hIn (by omega) (fun x hx => hrm x.t x (hrl x (hPm x hx)).2 (by unfold insOf; rw [List.mem_filter]; exact ⟨hPm x hx, by simp⟩))
 obtain ⟨q2, c2, rfl, hr2⟩ := hIn.val Eng.encI_len
 have hkl : (ksOf (rP l fl D s)).length = (rP l fl D s).length := by simp [ksOf]
 have hmu := fval_bd s l (rNext l fl D s) (inCap_small l _ hN1.len hN1.cap hok)
 rw [← hN1.len] at hmu
 refine AB ?_
 refine AN ?_
 refine AN ?_
 refine AC ?_
 refine AC ?_
 refine AE ?_
 refine AD ?_
 refine AD ?_
 refine AA ?_
 refine AB ?_
 refine A6 ?_
 refine AE ?_
 refine AM rfl ?_
 refine AL ?_
 refine AD ?_
 refine AA ?_
 refine AB ?_
 refine AB ?_
 refine A2 hlst rfl rfl rdZ rfl rfl ?_
 rintro _ rfl
 refine AC ?_
 refine AE ?_
 refine AD ?_
 refine AA ?_
 refine AB ?_
 refine A0 ?_
 refine AB ?_
 refine AE ?_
 refine AQ ?_
 refine BG [0, 1, 2, 3, 10, 11, 14, 38, 39] (0 : Nat) (fun i => i ≤ (rP l fl D s).length) (fun i => [(40, int i)])
  (fun i => [sng bf (.cells (ints (augAll (leastR (rmR l fl) (rP l fl D s)) fl ((rP l fl D s).take i))) 3 (0, 0)), γ, sng b1 (.cells #[.slice q l.length c] 34 (0, 0)), sng b2 (.cells #[.slice (some ⟨bf, 0, none⟩) l.length l.length] 22 (0, 0)), ρp])
  (fun i => (rP l fl D s).length - i) pickZ (by omega) covZ selZ ?_
 intro i hi
 by_cases hlt : i < (rP l fl D s).length
 ·have hx : (ksOf (rP l fl D s))[i]? = some ((rP l fl D s)[i].k : Int) := by simp [ksOf, hlt]
  obtain ⟨b, o, rfl, g0⟩ := hr2.int hx
  have hxm := hPm _ (List.getElem_mem hlt)
  have hxk := (rlinks_mem hok hxm).2.2
  have hal : (augAll (leastR (rmR l fl) (rP l fl D s)) fl ((rP l fl D s).take i)).length = l.length := by rw [augAll_len]; exact hF.len.symm
  have hic := inCap_get l _ (rTake_cap hok hs hF hD h0 i) ((rP l fl D s)[i].k / 2) (l[(rP l fl D s)[i].k / 2]'(by omega)) ((augAll (leastR (rmR l fl) (rP l fl D s)) fl ((rP l fl D s).take i)).getD ((rP l fl D s)[i].k / 2) 0) (List.getElem?_eq_getElem (by omega)) (by rw [List.getD_eq_getElem?_getD, List.getElem?_eq_getElem (by omega)]; rfl)
  have hcc := hcap _ (List.getElem_mem (show (rP l fl D s)[i].k / 2 < l.length by omega))
  have hsn := augAll_snoc (leastR (rmR l fl) (rP l fl D s)) fl ((rP l fl D s).take i) (rP l fl D s)[i]
  rw [← take_snoc' hlt] at hsn
  unfold augR at hsn
  by_cases hp : (rP l fl D s)[i].k % 2 = 0
  ·rw [if_pos hp] at hsn
   refine AD ?_
   refine AA ?_
   refine BD ?_
   refine AE ?_
   refine AD ?_
   refine AP rfl ?_
   refine AL ?_
   refine AD ?_
   refine AQ ?_
   refine AD ?_
   refine AA ?_
   refine BR ?_
   refine AF ?_
   refine AC ?_
   refine AE ?_
   refine AD ?_
   refine AA ?_
   refine AB ?_
   refine EU ?_
   refine CB ?_
   refine AE ?_
   refine AP rfl ?_
   refine AA ?_
   refine AB ?_
   refine AB ?_
   refine EM ?_
   refine B0 ?_
   refine AF ?_
   refine AB ?_
   refine CJ ?_
   refine B0 ?_
   refine C7 ?_; rintro _ _ ⟨rfl, rfl⟩
   refine AE ?_
   refine A3 ?_
   refine AA ?_
   refine BC ?_
   refine AB ?_
   refine AE ?_
   refine AX (i + 1) (by omega) (by omega) covZ ?_
   rw [hsn]
   exact selZ
  ·rw [if_neg hp] at hsn
   refine AD ?_
   refine AA ?_
   refine BD ?_
   refine AE ?_
   refine AD ?_
   refine AP rfl ?_
   refine AL ?_
   refine AD ?_
   refine AQ ?_
   refine AD ?_
   refine AA ?_
   refine BR ?_
   refine AF ?_
   refine AC ?_
   refine AE ?_
   refine AD ?_
   refine AA ?_
   refine AB ?_
   refine EU ?_
   refine BZ ?_
   refine AE ?_
   refine AM rfl ?_
   refine AA ?_
   refine AB ?_
   refine AB ?_
   refine EM ?_
   refine B0 ?_
   refine AF ?_
   refine AB ?_
   refine CY ?_
   refine B0 ?_
   refine C7 ?_; rintro _ _ ⟨rfl, rfl⟩
   refine AE ?_
   refine A3 ?_
   refine AA ?_
   refine BC ?_
   refine AB ?_
   refine AE ?_
   refine AX (i + 1) (by omega) (by omega) covZ ?_
   rw [hsn]
   exact selZ
 ·refine AD ?_
  refine AA ?_
  refine AW ?_
  refine AE ?_
  refine AD ?_
  refine AM rfl ?_
  refine A9 rfl ?_
  refine A3 ?_
  refine AX (rNext l fl D s) ⟨hN1, fun F hR => hrun F (.step hD h0 hR)⟩ (by omega) covZ ?_
  rw [List.take_of_length_le (by omega)]
  exact selZ
end Go.Proofs.YthdoegkjifgegaaGreat
/- What is reached: a search by a queue. What Max and Cut hand back. No program in sight. No conditions. -/
namespace Go.Flow
def bget (B : List Bool) (v : Nat) : Bool := B.getD v false
theorem bget_set {B : List Bool} {i j : Nat} {x : Bool} (hi : i < B.length) : bget (B.set i x) j = if i = j then x else bget B j := by
  unfold bget
  rw [List.getD_eq_getElem?_getD, List.getD_eq_getElem?_getD, List.getElem?_set]
  split
  · rename_i h; subst h; simp [hi]
  · rfl
theorem bget_rep (n v : Nat) : bget (List.replicate n false) v = false := by
  unfold bget
  rw [List.getD_eq_getElem?_getD, List.getElem?_replicate]
  split <;> rfl
structure RInv (n s : Nat) (E : Lk → Prop) (B : List Bool) (q : List Nat) : Prop where
  len : B.length = n
  src : bget B s = true
  snd : ∀ v, v < n → bget B v = true → Rch E s v
  qn : ∀ v ∈ q, v < n ∧ bget B v = true
  cl : ∀ u, u < n → bget B u = true → u ∉ q → ∀ x, E x → x.f = u → bget B x.t = true
structure RVInv (n s : Nat) (E : Lk → Prop) (B : List Bool) (v : Nat) (q : List Nat) (pre : List Lk) : Prop where
  len : B.length = n
  src : bget B s = true
  snd : ∀ v, v < n → bget B v = true → Rch E s v
  vn : v < n
  v0 : bget B v = true
  qn : ∀ v ∈ q, v < n ∧ bget B v = true
  cl : ∀ u, u < n → bget B u = true → u ∉ q → u ≠ v → ∀ x, E x → x.f = u → bget B x.t = true
  pre0 : ∀ x ∈ pre, bget B x.t = true
section
variable {n s : Nat} {E : Lk → Prop} {B : List Bool}
theorem RInv.start (hs : s < n) : RInv n s E ((List.replicate n false).set s true) [s] := by
  have hg : ∀ v, bget ((List.replicate n false).set s true) v = true → v = s := fun v h => by
    rw [bget_set (by simpa using hs), bget_rep] at h
    split at h
    · rename_i e; exact e.symm
    · simp at h
  refine ⟨by simp, by rw [bget_set (by simpa using hs)]; simp, fun v _ h => by rw [hg v h]; exact .refl, fun v hv => ?_, fun u _ h hq => ?_⟩
  · simp at hv; subst hv
    exact ⟨hs, by rw [bget_set (by simpa using hs)]; simp⟩
  · exact absurd (by rw [hg u h]; simp) hq
theorem RInv.take {v : Nat} {q : List Nat} (h : RInv n s E B (v :: q)) : RVInv n s E B v q [] :=
  ⟨h.len, h.src, h.snd, (h.qn v (by simp)).1, (h.qn v (by simp)).2, fun u hu => h.qn u (by simp [hu]), fun u hu hb hq hne => h.cl u hu hb (by simp [hq, hne]), by simp⟩
theorem RVInv.seen {v : Nat} {q : List Nat} {pre : List Lk} {x : Lk} (h : RVInv n s E B v q pre) (hx : bget B x.t = true) : RVInv n s E B v q (pre ++ [x]) :=
  ⟨h.len, h.src, h.snd, h.vn, h.v0, h.qn, h.cl, fun y hy => by
    rcases List.mem_append.1 hy with hy | hy
    · exact h.pre0 y hy
    · rw [List.mem_singleton.1 hy]; exact hx⟩
theorem RVInv.push {v : Nat} {q : List Nat} {pre : List Lk} {x : Lk} (h : RVInv n s E B v q pre) (hE : E x) (hxt : x.t < n) (hxf : x.f = v) : RVInv n s E (B.set x.t true) v (q ++ [x.t]) (pre ++ [x]) := by
  have hl : x.t < B.length := by rw [h.len]; exact hxt
  have hg : ∀ u, bget B u = true → bget (B.set x.t true) u = true := fun u hu => by rw [bget_set hl]; split <;> simp [hu]
  refine ⟨by simp [h.len], hg _ h.src, fun u hu hb => ?_, h.vn, hg _ h.v0, fun u hu => ?_, fun u hu hb hq hne y hy hyf => ?_, fun y hy => ?_⟩
  · rw [bget_set hl] at hb
    split at hb
    · rename_i e; rw [← e]
      exact .step (by rw [hxf]; exact h.snd v h.vn h.v0) hE
    · exact h.snd u hu hb
  · rcases List.mem_append.1 hu with hu | hu
    · exact ⟨(h.qn u hu).1, hg _ (h.qn u hu).2⟩
    · rw [List.mem_singleton.1 hu]
      exact ⟨hxt, by rw [bget_set hl]; simp⟩
  · simp only [List.mem_append, List.mem_singleton, not_or] at hq
    rw [bget_set hl] at hb
    split at hb
    · rename_i e; exact absurd e.symm hq.2
    · exact hg _ (h.cl u hu hb hq.1 hne y hy hyf)
  · rcases List.mem_append.1 hy with hy | hy
    · exact hg _ (h.pre0 y hy)
    · rw [List.mem_singleton.1 hy, bget_set hl]; simp
theorem RVInv.done {v : Nat} {q : List Nat} {pre : List Lk} (h : RVInv n s E B v q pre) (hall : ∀ x, E x → x.f = v → x ∈ pre) : RInv n s E B q :=
  ⟨h.len, h.src, h.snd, h.qn, fun u hu hb hq x hx hxf => by
    by_cases e : u = v
    · subst e; exact h.pre0 x (hall x hx hxf)
    · exact h.cl u hu hb hq e x hx hxf⟩
end
/-- the vertices of a set, in ascending order -/
def sideOf (B : List Bool) (k : Nat) : List Int := ((List.range k).filter (fun v => bget B v)).map (fun (v : Nat) => (v : Int))
theorem capOf_congr {n : Nat} {p q : Nat → Bool} (h : ∀ v, v < n → p v = q v) : ∀ l : List Arc, (∀ a ∈ l, okArc n a = true) → capOf p l = capOf q l
  | [], _ => rfl
  | a :: l, hok => by
    obtain ⟨g1, g2, g3, g4, _⟩ := okArc_iff.1 (hok a (by simp))
    simp only [capOf]
    rw [capOf_congr h l (fun b hb => hok b (by simp [hb])), h a.f.toNat (by omega), h a.t.toNat (by omega)]
/-- why there is no maximum flow -/
def maxErr (n : Int) (l : List Arc) (s t : Int) : Int := if chk n l ≠ 0 then chk n l else if okEnds n s t = true then 0 else 2
/-- what Max hands back -/
def MaxOK (n : Int) (l : List Arc) (s t : Int) (F : List Int) (m e : Int) : Prop :=
  (maxErr n l s t ≠ 0 ∧ e = maxErr n l s t ∧ F = [] ∧ m = 0) ∨
  (maxErr n l s t = 0 ∧ e = 0 ∧ RunR n.toNat l s.toNat t.toNat (List.replicate l.length 0) F ∧ m = fval s l F)
/-- what Cut hands back -/
def CutOK (n : Int) (l : List Arc) (s t : Int) (side : List Int) (c e : Int) : Prop :=
  (maxErr n l s t ≠ 0 ∧ e = maxErr n l s t ∧ side = [] ∧ c = 0) ∨
  (maxErr n l s t = 0 ∧ e = 0 ∧ ∃ F B, RunR n.toNat l s.toNat t.toNat (List.replicate l.length 0) F ∧ IsReach n.toNat (rE l F) s.toNat (bget B) ∧ side = sideOf B n.toNat ∧ c = capOf (bget B) l)
/-- what there is where there is no error -/
structure Good (n : Int) (l : List Arc) (s t : Int) (n' s' t' : Nat) : Prop where
  en : n = n'
  es : s = s'
  et : t = t'
  sn : s' < n'
  tn : t' < n'
  ne : s' ≠ t'
  n2 : n' ≤ 2000
  l2 : l.length ≤ 20000
  ok : ∀ a ∈ l, okArc n' a = true
  chk : Flow.chk n l = 0
  ends : okEnds n s t = true
theorem maxErr_good {n s t : Int} {l : List Arc} (h : maxErr n l s t = 0) : ∃ n' s' t' : Nat, Good n l s t n' s' t' := by
  unfold maxErr at h
  split at h
  · rename_i h1; exact absurd h h1
  · rename_i h1
    split at h
    · rename_i h2
      have hc : Flow.chk n l = 0 := by omega
      obtain ⟨a1, a2, a3, a4⟩ := chk_ok hc
      obtain ⟨b1, b2, b3, b4, b5⟩ := okEnds_iff.1 h2
      refine ⟨n.toNat, s.toNat, t.toNat, ⟨by omega, by omega, by omega, by omega, by omega, by omega, by omega, a3, ?_, hc, h2⟩⟩
      have e : ((n.toNat : Nat) : Int) = n := by omega
      rw [e]; exact a4
    · simp at h
theorem MaxOK.uniq {n s t : Int} {l : List Arc} {F G : List Int} {m k e f : Int} (h1 : MaxOK n l s t F m e) (h2 : MaxOK n l s t G k f) : F = G ∧ m = k ∧ e = f := by
  rcases h1 with ⟨a1, a2, a3, a4⟩ | ⟨a1, a2, a3, a4⟩ <;> rcases h2 with ⟨b1, b2, b3, b4⟩ | ⟨b1, b2, b3, b4⟩
  · exact ⟨by rw [a3, b3], by rw [a4, b4], by rw [a2, b2]⟩
  · exact absurd b1 a1
  · exact absurd a1 b1
  · obtain ⟨n', s', t', g⟩ := maxErr_good a1
    obtain ⟨rfl, rfl, rfl⟩ := And.intro g.en (And.intro g.es g.et)
    simp only [Int.toNat_natCast] at a3 b3
    have e := a3.uniq g.ok b3
    subst e
    exact ⟨rfl, by rw [a4, b4], by rw [a2, b2]⟩
theorem sideOf_congr {B C : List Bool} {n : Nat} (h : ∀ v, v < n → bget B v = bget C v) : sideOf B n = sideOf C n := by
  unfold sideOf
  congr 1
  apply List.filter_congr
  intro v hv
  exact h v (by simpa using hv)
theorem reach_uniq {n s : Nat} {E : Lk → Prop} {p q : Nat → Bool} (h1 : IsReach n E s p) (h2 : IsReach n E s q) : ∀ v, v < n → p v = q v := fun v hv => by
  have a := h1 v hv
  have b := h2 v hv
  cases e1 : p v <;> cases e2 : q v <;> simp_all
theorem CutOK.uniq {n s t : Int} {l : List Arc} {F G : List Int} {m k e f : Int} (h1 : CutOK n l s t F m e) (h2 : CutOK n l s t G k f) : F = G ∧ m = k ∧ e = f := by
  rcases h1 with ⟨a1, a2, a3, a4⟩ | ⟨a1, a2, F1, B1, r1, i1, d1, c1⟩ <;> rcases h2 with ⟨b1, b2, b3, b4⟩ | ⟨b1, b2, F2, B2, r2, i2, d2, c2⟩
  · exact ⟨by rw [a3, b3], by rw [a4, b4], by rw [a2, b2]⟩
  · exact absurd b1 a1
  · exact absurd a1 b1
  · obtain ⟨n', s', t', g⟩ := maxErr_good a1
    obtain ⟨rfl, rfl, rfl⟩ := And.intro g.en (And.intro g.es g.et)
    simp only [Int.toNat_natCast] at *
    have e := r1.uniq g.ok r2
    subst e
    have hb := reach_uniq i1 i2
    exact ⟨by rw [d1, d2]; exact sideOf_congr hb, by rw [c1, c2]; exact capOf_congr hb l g.ok, by rw [a2, b2]⟩
end Go.Flow
namespace Go.Flow
end Go.Flow
/- Max and Cut of the program. -/
namespace Go.Proofs.YthdoegkjifgegaaGreat
open Go.Eng Go.Flow
set_option maxRecDepth 100000
set_option maxHeartbeats 4000000

theorem flowMax_spec (ρ : PH) (v : Value) (n s t : Int) (l : List Arc) (hv : ArcsAt ρ v l) (hl : l.length ≤ 1000000) :
  Makes Tryz.prog (fv 36) [int n, v, int s, int t] [ρ] (fun r σ => ∃ fs F m e, r = .tuple #[fs, int m, int e] ∧ IntsAt σ fs F ∧ MaxOK n l s t F m e) := by
 have hnil : IntsAt emp (.slice none 0 0) [] := ⟨rfl, .inl ⟨rfl, none, 0, rfl⟩⟩
 refine spec_in (cap := []) Tryz.func36 rfl rfl Tryz.ntmps36 rfl envZ (fun N β => ?_)
 refine AD ?_
 refine AA ?_
 refine AC ?_
 refine AC ?_
 refine AC ?_
 refine AE ?_
 refine AD ?_
 refine AD ?_
 refine AA ?_
 refine AB ?_
 refine AB ?_
 focus ((refine A2 (check_spec ρ v n l hv hl) rfl rfl rdZ rfl rfl ?_; rintro _ rfl))
 refine AC ?_
 refine AE ?_
 refine AD ?_
 refine AA ?_
 refine AB ?_
 by_cases hc : chk n l = 0
 rotate_left
 ·refine CV ?_
  refine AE ?_
  refine AP rfl ?_
  refine AD ?_
  refine AA ?_
  refine AB ?_
  refine AC ?_
  refine AC ?_
  refine AC ?_
  refine AE ?_
  refine B9 ?_
  exact AI (res3 rfl rfl rfl rfl) rsubZ selZ ⟨emp, ⟨_, [], 0, _, rfl, hnil, .inl ⟨by unfold maxErr; rw [if_pos hc]; exact hc, by unfold maxErr; rw [if_pos hc], rfl, rfl⟩⟩, rfl⟩
 refine BA ?_
 refine AE ?_
 refine AM rfl ?_
 refine AL ?_
 refine AD ?_
 refine AD ?_
 refine AA ?_
 refine AB ?_
 refine AB ?_
 refine AB ?_
 focus ((refine A2 (ends_spec _ _ _) rfl rfl rdZ rfl rfl ?_; rintro _ rfl))
 refine AC ?_
 refine AE ?_
 refine AD ?_
 refine AA ?_
 refine AB ?_
 have hme : maxErr n l s t = if okEnds n s t = true then 0 else 2 := by unfold maxErr; rw [if_neg (by rw [hc]; simp)]
 cases he : okEnds n s t with
 | false =>
  rw [he] at hme
  simp only [Bool.false_eq_true, if_false] at hme ⊢
  refine CV ?_
  refine AE ?_
  refine AP rfl ?_
  refine AD ?_
  refine AA ?_
  refine AB ?_
  refine AC ?_
  refine AC ?_
  refine AC ?_
  refine AE ?_
  refine B9 ?_
  exact AI (res3 rfl rfl rfl rfl) rsubZ selZ ⟨emp, ⟨_, [], 0, _, rfl, hnil, .inl ⟨by rw [hme]; simp, by rw [hme], rfl, rfl⟩⟩, rfl⟩
 | true =>
  rw [he] at hme
  simp only [if_true] at hme ⊢
  obtain ⟨n', s', t', g⟩ := maxErr_good hme
  obtain ⟨rfl, rfl, rfl⟩ := And.intro g.en (And.intro g.es g.et)
  refine BA ?_
  refine AE ?_
  refine AM rfl ?_
  refine AL ?_
  refine AD ?_
  refine AA ?_
  refine AB ?_
  refine AB ?_
  refine AB ?_
  refine AB ?_
  refine BB (maximum_spec ρ v n' l s' t' hv g.n2 g.l2 g.ok g.sn g.tn g.ne) rfl rfl takesZ rdZ rfl rfl ?_
  rintro _ _ ⟨_, _, F, rfl, bf, gb, b1, b2, γ, rfl, rfl, _, hR, rfl⟩
  have hF := (hR.flw g.ok g.sn g.ne (flw_zeros g.ok)).1
  have hIn : IntsAt (sng bf (.cells (ints F) 3 (0, 0))) (.slice (some ⟨bf, 0, none⟩) l.length l.length) F := by rw [hF.len]; exact intsAt_sng
  simp only [List.cons_append, List.nil_append]
  refine AB ?_
  refine AN ?_
  refine AN ?_
  refine AC ?_
  refine AC ?_
  refine AE ?_
  refine AD ?_
  refine AA ?_
  refine AB ?_
  refine AB ?_
  refine AB ?_
  refine AB ?_
  refine A2 (value_spec ρ _ v _ s' l F hv hIn g.l2 hF.len.symm (inCap_small l F hF.len hF.cap g.ok)) rfl rfl rdZ rfl rfl ?_
  rintro _ rfl
  refine AC ?_
  refine AC ?_
  refine AC ?_
  refine AE ?_
  exact AI (res3 rfl rfl rfl rfl) rsubZ selZ ⟨_, ⟨_, F, _, _, rfl, hIn, .inr ⟨hme, rfl, hR, rfl⟩⟩, rfl⟩

end Go.Proofs.YthdoegkjifgegaaGreat
/- Maximum flows of time-expanded networks: least cuts, and less of what is there. No program in sight. No conditions. -/
namespace Go.Step
open Go.Flow (Flw fval okArc okArc_iff okEnds_iff capOf MaxOK maxErr RunR run_cut exists_reach)
section
variable {qs : List Int} {cs : List Ct} {bs : List Bk} {hs : List Hd} {d : Dm}
/-- Max's answer for the network of a demand -/
def MaxN (qs : List Int) (cs : List Ct) (bs : List Bk) (hs : List Hd) (d : Dm) (F : List Int) (m e : Int) : Prop := MaxOK (vsN qs d) (arcsG qs cs bs hs d) (vtx d d.s d.r) (vtx d d.d d.e) F m e
theorem max_err (h : VOk qs cs bs hs d) : maxErr (vsN qs d) (arcsG qs cs bs hs d) (vtx d d.s d.r) (vtx d d.d d.e) = 0 := by
  unfold maxErr
  rw [h.chk, h.ends]
  rfl
/-- a maximum flow, and a least cut -/
theorem max_cut (h : VOk qs cs bs hs d) {F : List Int} {m e : Int} (hm : MaxN qs cs bs hs d F m e) : e = 0 ∧ ∃ N S T : Nat, vsN qs d = N ∧ vtx d d.s d.r = S ∧ vtx d d.d d.e = T ∧ Flw N (arcsG qs cs bs hs d) S T F ∧ m = fval S (arcsG qs cs bs hs d) F ∧
    ∃ P : Int → Int → Bool, P d.s d.r = true ∧ P d.d d.e = false ∧ m = capB qs cs bs hs d P := by
  have hends := okEnds_iff.1 h.ends
  obtain ⟨N, hN⟩ : ∃ N : Nat, vsN qs d = N := ⟨(vsN qs d).toNat, by omega⟩
  obtain ⟨S, hS⟩ : ∃ N : Nat, vtx d d.s d.r = N := ⟨(vtx d d.s d.r).toNat, by omega⟩
  obtain ⟨T, hT⟩ : ∃ N : Nat, vtx d d.d d.e = N := ⟨(vtx d d.d d.e).toNat, by omega⟩
  have hok := h.ok
  unfold MaxN at hm
  have he := max_err h
  rw [hN] at hok
  rw [hN, hS, hT] at hm hends he
  rcases hm with ⟨a1, _⟩ | ⟨_, a2, a3, a4⟩
  · exact absurd he a1
  simp only [Int.toNat_natCast] at a3
  obtain ⟨B, hB⟩ := exists_reach N (Go.Flow.rE (arcsG qs cs bs hs d) F) S
  obtain ⟨f1, f2, f3, f4⟩ := run_cut hok (by omega) (by omega) (by omega) a3 hB
  refine ⟨a2, N, S, T, hN, hS, hT, f1, a4, fun n t => B (vtx d n t).toNat, by show B (vtx d d.s d.r).toNat = true; rw [hS]; exact f2, by show B (vtx d d.d d.e).toNat = false; rw [hT]; exact f3, ?_⟩
  rw [a4, f4, capB_eq h]
/-- no flow is greater than a cut -/
theorem flow_le_cap (h : VOk qs cs bs hs d) {fl : List Int} {N S T : Nat} (hN : vsN qs d = N) (hS : vtx d d.s d.r = S) (hT : vtx d d.d d.e = T) (hf : Flw N (arcsG qs cs bs hs d) S T fl) {P : Int → Int → Bool} (h1 : P d.s d.r = true) (h2 : P d.d d.e = false) : fval S (arcsG qs cs bs hs d) fl ≤ capB qs cs bs hs d P := by
  have hdm := h.dm
  unfold okDm at hdm
  have hok := h.ok
  have hends := okEnds_iff.1 h.ends
  rw [hN] at hok
  have b1 : bq d P S = true := by
    have := bq_vtx (d := d) (P := P) (n := d.s) (t := d.r) hdm.1.1 (by omega) (by omega)
    rw [hS, Int.toNat_natCast] at this
    rw [this]; exact h1
  have b2 : bq d P T = false := by
    have := bq_vtx (d := d) (P := P) (n := d.d) (t := d.e) hdm.2.1.1 (by omega) (by omega)
    rw [hT, Int.toNat_natCast] at this
    rw [this]; exact h2
  have := hf.le_cap hok (by omega) b1 b2
  rw [capB_eq h] at this
  rwa [capB_congr h (C := P) (fun n t g0 g1 g2 g3 => bq_vtx g0 g2 g3)] at this
end
end Go.Step
/- The chapter's example: its network, its maximum flows, their shipments, a cut. No program in sight. No conditions. -/
namespace Go.Step
open Go.Flow (Flw fval okArc capOf MaxOK inCap)
def eQ : List Int := [0, 1, 0]
def eC : List Ct := [⟨0, 1, 0, 2, 3, 1, 0⟩, ⟨1, 2, 3, 5, 3, 1, 0⟩]
def eD : Dm := ⟨0, 2, 4, 0, 6⟩
def eF : List Int := [3, 0, 0, 0, 0, 0, 0, 0, 1, 1, 0, 0, 0, 0, 0, 0, 0, 3, 1, 3, 3, 1]
abbrev eK : Int := 1099511627776
def eA : List EA := [⟨⟨0, 1, eK⟩, -1, 0⟩, ⟨⟨1, 2, eK⟩, -1, 1⟩, ⟨⟨2, 3, eK⟩, -1, 2⟩, ⟨⟨3, 4, eK⟩, -1, 3⟩, ⟨⟨4, 5, eK⟩, -1, 4⟩, ⟨⟨5, 6, eK⟩, -1, 5⟩,
  ⟨⟨7, 8, 1⟩, -1, 0⟩, ⟨⟨8, 9, 1⟩, -1, 1⟩, ⟨⟨9, 10, 1⟩, -1, 2⟩, ⟨⟨10, 11, 1⟩, -1, 3⟩, ⟨⟨11, 12, 1⟩, -1, 4⟩, ⟨⟨12, 13, 1⟩, -1, 5⟩,
  ⟨⟨14, 15, eK⟩, -1, 0⟩, ⟨⟨15, 16, eK⟩, -1, 1⟩, ⟨⟨16, 17, eK⟩, -1, 2⟩, ⟨⟨17, 18, eK⟩, -1, 3⟩, ⟨⟨18, 19, eK⟩, -1, 4⟩, ⟨⟨19, 20, eK⟩, -1, 5⟩,
  ⟨⟨0, 9, 3⟩, 0, 0⟩, ⟨⟨1, 10, 3⟩, 0, 1⟩, ⟨⟨10, 19, 3⟩, 1, 3⟩, ⟨⟨11, 20, 3⟩, 1, 4⟩]
theorem eValid : validT eQ eC [] [] eD = true := by decide +kernel
theorem eArcs : arcsE eQ eC [] [] eD = eA := by decide +kernel
theorem eVs : vsN eQ eD = 21 := by decide +kernel
theorem eS : vtx eD eD.s eD.r = 0 := by decide +kernel
theorem eT : vtx eD eD.d eD.e = 20 := by decide +kernel
theorem eG : arcsG eQ eC [] [] eD = eA.map (fun x => x.a) := by unfold arcsG; rw [eArcs]
theorem eFlow : Flw 21 (arcsG eQ eC [] [] eD) 0 20 eF := by
  rw [eG]
  exact ⟨by decide +kernel, by decide +kernel, by decide +kernel⟩
def eP (n t : Int) : Bool := decide (n = 0 ∨ (n = 1 ∧ t = 2))
theorem eCap : capB eQ eC [] [] eD eP = 4 := by
  decide +kernel
theorem eMax (hok : VOk eQ eC [] [] eD) {F : List Int} {m e : Int} (hm : MaxN eQ eC [] [] eD F m e) : e = 0 ∧ m = 4 ∧ Flw 21 (arcsG eQ eC [] [] eD) 0 20 F ∧ fval 0 (arcsG eQ eC [] [] eD) F = 4 := by
  obtain ⟨h0, N, S, T, hN, hS, hT, hf, hv, P, p1, p2, hc⟩ := max_cut hok hm
  rw [eVs] at hN
  rw [eS] at hS
  rw [eT] at hT
  obtain rfl : N = 21 := by omega
  obtain rfl : S = 0 := by omega
  obtain rfl : T = 20 := by omega
  have a : fval 0 (arcsG eQ eC [] [] eD) F ≤ capB eQ eC [] [] eD eP := flow_le_cap hok eVs eS eT hf (P := eP) (by decide) (by decide)
  have b : fval 0 (arcsG eQ eC [] [] eD) eF ≤ capB eQ eC [] [] eD P := flow_le_cap hok eVs eS eT eFlow p1 p2
  have c : fval 0 (arcsG eQ eC [] [] eD) eF = 4 := by rw [eG]; decide +kernel
  have hv' : m = fval 0 (arcsG eQ eC [] [] eD) F := hv
  rw [eCap] at a
  exact ⟨h0, by omega, hf, by omega⟩
theorem eValue {F : List Int} (hok : VOk eQ eC [] [] eD) (hf : Flw 21 (arcsG eQ eC [] [] eD) 0 20 F) : shipsE eQ eC [] [] eD F = 0 := by
  unfold shipsE
  rw [if_pos eValid, eVs, eS, eT]
  have h1 := hok.chk
  have h2 := hok.ends
  rw [eVs] at h1 h2
  rw [eS, eT] at h2
  unfold Go.Flow.valueSpec
  rw [if_neg (fun h => h h1), if_neg (by rw [h2]; simp), if_neg (fun h => h hf.len.symm), if_neg (by rw [hf.cap]; simp), if_neg]
  have hb : Go.Flow.balanced (21 : Int).toNat (arcsG eQ eC [] [] eD) F 0 20 = true := by
    unfold Go.Flow.balanced
    rw [List.all_eq_true]
    intro v hv
    rw [decide_eq_true_eq]
    have hv' : v < 21 := by simpa using hv
    by_cases c1 : v = 0
    · exact .inl (by omega)
    · by_cases c2 : v = 20
      · exact .inr (.inl (by omega))
      · exact .inr (.inr (hf.bal v hv' c1 c2))
  rw [hb]
  simp
set_option maxHeartbeats 8000000 in
theorem eShips {F : List Int} (hf : Flw 21 (arcsG eQ eC [] [] eD) 0 20 F) (hv : fval 0 (arcsG eQ eC [] [] eD) F = 4) : (shipsF eA F).length = 4 := by
  rw [eG] at hf hv
  have hl := hf.len
  have hc := hf.cap
  have e0 := hf.bal 1 (by omega) (by omega) (by omega)
  have e7 := hf.bal 7 (by omega) (by omega) (by omega)
  have e8 := hf.bal 8 (by omega) (by omega) (by omega)
  have e9 := hf.bal 9 (by omega) (by omega) (by omega)
  have e10 := hf.bal 10 (by omega) (by omega) (by omega)
  have e11 := hf.bal 11 (by omega) (by omega) (by omega)
  have e12 := hf.bal 12 (by omega) (by omega) (by omega)
  have e13 := hf.bal 13 (by omega) (by omega) (by omega)
  have e2 := hf.bal 2 (by omega) (by omega) (by omega)
  have e3 := hf.bal 3 (by omega) (by omega) (by omega)
  have e4 := hf.bal 4 (by omega) (by omega) (by omega)
  have e5 := hf.bal 5 (by omega) (by omega) (by omega)
  have e6 := hf.bal 6 (by omega) (by omega) (by omega)
  clear hf
  match F, hl with
  | [a0, a1, a2, a3, a4, a5, a6, a7, a8, a9, a10, a11, a12, a13, a14, a15, a16, a17, a18, a19, a20, a21], _ =>
    simp [eA, fval] at hv e0 e7 e8 e9 e10 e11 e12 e13 e2 e3 e4 e5 e6
    simp [eA, inCap] at hc
    simp only [eA, shipsF]
    rw [if_pos (show (0 : Int) ≤ 0 ∧ 0 < a18 by omega), if_pos (show (0 : Int) ≤ 0 ∧ 0 < a19 by omega), if_pos (show (0 : Int) ≤ 1 ∧ 0 < a20 by omega), if_pos (show (0 : Int) ≤ 1 ∧ 0 < a21 by omega)]
    simp
theorem eSides0 : sidesE eQ eC [] [] eD [0, 7, 8] = 0 := by decide +kernel
theorem eSides : sidesC eD 3 [0, 7, 8] = [[(0, 1)], [(0, 2)], []] := by decide +kernel
end Go.Step
/- The example is awake. -/
namespace Go.Proofs.YthdoegkjifgegaaGreat
open Go.Eng Go.Step
set_option maxRecDepth 100000
set_option maxHeartbeats 4000000

theorem example53_spec : Eng.Spec Tryz.prog (fv 38) [] [] [] (fun r H' => ∃ bq bc, r = .tuple #[.agg #[.slice (some ⟨bq, 0, none⟩) 3 3, .slice (some ⟨bc, 0, none⟩) 2 2, .slice none 0 0, .slice none 0 0], .agg #[int 0, int 2, int 4, int 0, int 6]] ∧ H' = [sng bq (.cells #[int 0, int 1, int 0] 3 (0, 0)), sng bc (.cells #[int 0, int 1, int 0, int 2, int 3, int 1, int 0, int 1, int 2, int 3, int 5, int 3, int 1, int 0] 70 (0, 0))]) := by
 refine spec_in (cap := []) Tryz.func38 rfl rfl Tryz.ntmps38 rfl envZ (fun N β => ?_)
 refine AD ?_
 refine AA ?_
 refine AZ ?_; rintro _ _ ⟨b, rfl, rfl⟩
 refine AZ ?_; rintro _ _ ⟨b, rfl, rfl⟩
 refine AE ?_
 refine AD ?_
 refine AA ?_
 refine BH ?_; rintro _ _ ⟨b, rfl, rfl⟩
 refine BS ?_
 refine BS ?_
 focus ((refine' BJ _ rfl rfl rfl _; rotate_left; (focus (apply CM; exact rfl; exact rfl; exact rfl; exact rfl; exact rfl; exact (by (repeat (first | exact (fun v hv => absurd hv List.not_mem_nil) | (refine List.forall_mem_cons.2 ⟨?_, ?_⟩; (focus (first | exact rfl | assumption))))); first | done | fail); exact Flat.agg7 (Flat.agg7 Flat.nil); exact rfl)); rintro _ _ ⟨b, rfl, rfl⟩))
 refine BS ?_
 refine AZ ?_; rintro _ _ ⟨b, rfl, rfl⟩
 refine AY ?_; rintro _ _ ⟨rfl, rfl⟩
 refine AE ?_
 refine AD ?_
 refine AA ?_
 refine AS ?_
 revert b; intro bp
 revert b; intro bc
 revert b; intro bq
 revert b; intro bd
 revert b; intro bt
 refine B8 (DF (out := [.slice (some ⟨bq, 0, none⟩) 3 3, .slice (some ⟨bc, 0, none⟩) 2 2, .slice none 0 0, .slice none 0 0]) rfl rfl rfl rfl rfl) rfl rfl rfl ?_
 refine BS ?_
 refine AY ?_; rintro _ _ ⟨rfl, rfl⟩
 refine AY ?_; rintro _ _ ⟨rfl, rfl⟩
 refine AE ?_
 exact AI (resS2 (b1 := bt) (b2 := bd) (T := 29) (U := 31) (v1 := [.slice (some ⟨bq, 0, none⟩) 3 3, .slice (some ⟨bc, 0, none⟩) 2 2, .slice none 0 0, .slice none 0 0]) (v2 := [int 0, int 2, int 4, int 0, int 6]) rfl rfl rfl rfl rfl rfl rfl (cells_own memZ) (cells_own memZ)) rsubZ selZ ⟨bq, bc, rfl, rfl⟩
set_option maxHeartbeats 32000000 in
theorem awake53_spec : Ans Tryz.prog (fv 9) [] [] (fun r => r = .bool true) := by
 have hlen : (arcsG eQ eC [] [] eD).length = 22 := by rw [eG]; rfl
 have hok := vok eValid
 refine spec_in (cap := []) Tryz.func9 rfl rfl Tryz.ntmps9 rfl envZ (fun N β => ?_)
 refine B9 ?_
 refine AD ?_
 refine AA ?_
 refine AC ?_
 refine AE ?_
 refine AD ?_
 refine AA ?_
 refine BB example53_spec rfl rfl Takes.nil rdZ rfl rfl ?_
 rintro _ _ ⟨bq, bc, rfl, rfl⟩
 refine AR (ρ := sng bq (.cells #[int 0, int 1, int 0] 3 (0, 0))) takeZ ?_
 refine AR (ρ := sng bc (.cells #[int 0, int 1, int 0, int 2, int 3, int 1, int 0, int 1, int 2, int 3, int 5, int 3, int 1, int 0] 70 (0, 0))) takeZ ?_
 refine AR (ρ := emp) takeZ ?_
 refine AB ?_
 refine AN ?_
 refine AN ?_
 refine AZ ?_; rintro _ _ ⟨b, rfl, rfl⟩
 refine AZ ?_; rintro _ _ ⟨b, rfl, rfl⟩
 refine AY ?_; rintro _ _ ⟨rfl, rfl⟩
 refine AY ?_; rintro _ _ ⟨rfl, rfl⟩
 refine AE ?_
 refine AD ?_
 refine AA ?_
 refine AS ?_
 refine AS ?_
 revert b; intro bd
 revert b; intro bt
 refine AR (ρ := sng bd _) takeZ ?_
 refine AR (ρ := sng bt _) takeZ ?_
 have ct : RdN (sng bt (.cells #[.slice (some ⟨bq, 0, none⟩) 3 3, .slice (some ⟨bc, 0, none⟩) 2 2, .slice none 0 0, .slice none 0 0] 29 (0, 0))) bt 0 [.slice (some ⟨bq, 0, none⟩) 3 3, .slice (some ⟨bc, 0, none⟩) 2 2, .slice none 0 0, .slice none 0 0] := rdN_sng (vs := [.slice (some ⟨bq, 0, none⟩) 3 3, .slice (some ⟨bc, 0, none⟩) 2 2, .slice none 0 0, .slice none 0 0])
 have cd : RdN (sng bd (.cells #[int 0, int 2, int 4, int 0, int 6] 31 (0, 0))) bd 0 [int 0, int 2, int 4, int 0, int 6] := rdN_sng (vs := [int 0, int 2, int 4, int 0, int 6])
 have hT : TbAt (sng bq (.cells #[int 0, int 1, int 0] 3 (0, 0))) (sng bc (.cells #[int 0, int 1, int 0, int 2, int 3, int 1, int 0, int 1, int 2, int 3, int 5, int 3, int 1, int 0] 70 (0, 0))) emp emp (some ⟨bq, 0, none⟩) (some ⟨bc, 0, none⟩) none none 3 2 0 0 eQ eC [] [] :=
  ⟨slE_sng (l := eQ) Eng.encI_len, slE_sng (l := eC) encC_len, by decide, by decide, by decide, ⟨rfl, .inl ⟨rfl, none, 0, rfl⟩⟩, by decide, ⟨rfl, .inl ⟨rfl, none, 0, rfl⟩⟩, by decide⟩
 have hG := Graph_spec hT eD
 rw [eVs, eS, eT] at hG
 skip
 refine BV hG rfl rfl rdZ rfl rfl ?_
 rintro _ σg hg
 rw [if_pos eValid] at hg
 obtain ⟨u, rfl, hOg⟩ := hg
 rw [hlen] at hOg
 have hAt : ArcsAt σg u (arcsG eQ eC [] [] eD) := by
  have := hOg.at
  rw [← hlen] at this
  exact this
 obtain ⟨pg, kg, rfl⟩ := hOg.form
 refine AR (ρ := σg) takeZ ?_
 refine AB ?_
 refine AN ?_
 refine AN ?_
 refine AZ ?_; rintro _ _ ⟨b, rfl, rfl⟩
 refine AY ?_; rintro _ _ ⟨rfl, rfl⟩
 refine AC ?_
 refine AE ?_
 refine AD ?_
 refine AA ?_
 refine AH ?_
 refine AF ?_
 refine AH ?_
 refine AF ?_
 refine AH ?_
 refine AF ?_
 refine AH ?_
 refine AF ?_
 revert b; intro bg
 refine AR (ρ := sng bg _) takeZ ?_
 have gg0 : rdc (sng bg (.cells #[int 21, .slice pg 22 kg, int 0, int 20] 36 (0, 0))) bg 0 = some (int 21) := by rw [rdc_sng]; rfl
 have gg1 : rdc (sng bg (.cells #[int 21, .slice pg 22 kg, int 0, int 20] 36 (0, 0))) bg 1 = some (.slice pg 22 kg) := by rw [rdc_sng]; rfl
 have gg2 : rdc (sng bg (.cells #[int 21, .slice pg 22 kg, int 0, int 20] 36 (0, 0))) bg 2 = some (int 0) := by rw [rdc_sng]; rfl
 have gg3 : rdc (sng bg (.cells #[int 21, .slice pg 22 kg, int 0, int 20] 36 (0, 0))) bg 3 = some (int 20) := by rw [rdc_sng]; rfl
 skip
 have hM := flowMax_spec σg (.slice pg 22 kg) 21 0 20 (arcsG eQ eC [] [] eD) hAt (by omega)
 refine BV hM rfl rfl rdZ rfl rfl ?_
 rintro _ σf ⟨fs, F, m, e, rfl, hF, hm⟩
 obtain ⟨he, hm4, hfl, hfv⟩ := eMax hok (show MaxN eQ eC [] [] eD F m e by unfold MaxN; rw [eVs, eS, eT]; exact hm)
 subst he hm4
 obtain ⟨pf, kf, rfl, _⟩ := hF.val Eng.encI_len
 refine AR (ρ := σf) takeZ ?_
 have hsE := eValue hok hfl
 have hsR : shipsR eQ eC [] [] eD F = shipsF eA F := by unfold shipsR; rw [if_pos hsE, eArcs]
 have hsl := eShips hfl hfv
 have hS := Shipments_spec hT eD σf _ F hF
 rw [hsE, hsR] at hS
 refine AB ?_
 refine AN ?_
 refine AN ?_
 refine AN ?_
 refine AC ?_
 refine AC ?_
 refine AC ?_
 refine AE ?_
 refine AD ?_
 refine AA ?_
 refine AS ?_
 refine AS ?_
 refine AB ?_
 refine BV hS rfl rfl rdZ rfl rfl ?_
 rintro _ σs ⟨us, rfl, hOs⟩
 rw [hsl] at hOs
 obtain ⟨ps, ks, rfl⟩ := hOs.form
 clear hOs
 have hV := Vertex_spec hT eD 1 3
 rw [show vertexR eQ eC [] [] eD 1 3 = (10, 0) by unfold vertexR; rw [if_pos eValid]; decide] at hV
 dsimp only at hV
 refine AB ?_
 refine AN ?_
 refine AN ?_
 refine AC ?_
 refine AC ?_
 refine AE ?_
 refine AD ?_
 refine AA ?_
 refine AS ?_
 refine AS ?_
 refine A2 hV rfl rfl rdZ rfl rfl ?_
 rintro _ rfl
 have hP := Place_spec hT eD 10
 rw [show placeR eQ eC [] [] eD 10 = (1, 3, 0) by unfold placeR; rw [if_pos eValid]; decide] at hP
 dsimp only at hP
 refine AB ?_
 refine AN ?_
 refine AN ?_
 refine AC ?_
 refine AC ?_
 refine AE ?_
 refine AD ?_
 refine AA ?_
 refine AS ?_
 refine AS ?_
 refine AB ?_
 refine A2 hP rfl rfl rdZ rfl rfl ?_
 rintro _ rfl
 refine AB ?_
 refine AN ?_
 refine AN ?_
 refine AN ?_
 refine AC ?_
 refine AC ?_
 refine AC ?_
 refine AE ?_
 refine AD ?_
 refine AA ?_
 refine AS ?_
 refine AS ?_
 refine BH ?_; rintro _ _ ⟨b, rfl, rfl⟩
 revert b; intro bz
 have hD := Sides_spec hT eD (sng bz (.cells #[int 0, int 7, int 8] 3 (0, 0))) (.slice (some ⟨bz, 0, none⟩) 3 3) [0, 7, 8] (slE_sng (l := [(0 : Int), 7, 8]) Eng.encI_len) (by decide)
 rw [eSides0, if_pos rfl, show eQ.length = 3 from rfl, eSides] at hD
 refine BB hD rfl rfl Takes.nil rdZ rfl rfl ?_
 rintro _ _ ⟨L, w, σ1, χ1, rfl, rfl, hL, hCL⟩
 have hLl : L.length = 3 := by
  have := congrArg List.length hL
  rwa [List.length_map] at this
 obtain ⟨q, k, rfl, _⟩ := hCL.1.val encQ_len
 refine AR (ρ := σ1) takeZ ?_
 refine AR (ρ := χ1) takeZ ?_
 refine AB ?_
 refine AN ?_
 refine AN ?_
 refine AC ?_
 refine AC ?_
 refine AE ?_
 refine AD ?_
 refine AA ?_
 refine AB ?_
 refine CB ?_
 refine AB ?_
 refine AB ?_
 refine CB ?_
 refine AK ?_
 refine AB ?_
 refine AB ?_
 refine CB ?_
 refine AK ?_
 refine AB ?_
 refine AB ?_
 refine CB ?_
 refine AK ?_
 refine AB ?_
 refine AB ?_
 refine CB ?_
 refine AK ?_
 refine AB ?_
 refine AB ?_
 refine CB ?_
 refine AK ?_
 refine AC ?_
 refine AE ?_
 refine AD ?_
 refine AA ?_
 refine AB ?_
 refine AB ?_
 refine AH ?_
 refine AF ?_
 refine CB ?_
 refine AK ?_
 refine AB ?_
 refine AH ?_
 refine AF ?_
 refine A0 ?_
 refine CB ?_
 refine AK ?_
 refine AB ?_
 refine AH ?_
 refine AF ?_
 refine CB ?_
 refine AK ?_
 refine AB ?_
 refine AH ?_
 refine AF ?_
 refine CB ?_
 refine AK ?_
 refine AB ?_
 refine AB ?_
 refine CB ?_
 refine AK ?_
 refine AB ?_
 refine AB ?_
 refine CB ?_
 refine AK ?_
 refine AB ?_
 refine AB ?_
 refine CB ?_
 refine AK ?_
 refine AB ?_
 refine AB ?_
 refine CB ?_
 refine AK ?_
 refine AB ?_
 refine AB ?_
 refine A0 ?_
 refine CB ?_
 refine AK ?_
 refine AC ?_
 refine AE ?_
 refine AD ?_
 refine AA ?_
 refine AB ?_
 refine AB ?_
 refine AB ?_
 refine BS ?_
 refine BH ?_; rintro _ _ ⟨b, rfl, rfl⟩
 refine BS ?_
 refine BH ?_; rintro _ _ ⟨b, rfl, rfl⟩
 refine BH ?_; rintro _ _ ⟨b, rfl, rfl⟩
 refine BH ?_; rintro _ _ ⟨b, rfl, rfl⟩
 revert b; intro bk
 revert b; intro be
 revert b; intro bx2
 revert b; intro bx1
 refine DW (ρ := sng bx1 (.cells #[int 0, int 1] 61 (0, 0))) (σ := sng bx2 (.cells #[int 0, int 2] 61 (0, 0))) takeZ takeZ (fun κ s1 s2 => ?_)
 have hx1 : SpAt κ (.slice (some ⟨bx1, 0, none⟩) 1 1) [(0, 1)] := SlE.mono (slE_sng (l := [((0 : Int), (1 : Int))]) encS_len) s1
 have hx2 : SpAt κ (.slice (some ⟨bx2, 0, none⟩) 1 1) [(0, 2)] := SlE.mono (slE_sng (l := [((0 : Int), (2 : Int))]) encS_len) s2
 have hC2 : CutL (sng bk (.cells #[.slice (some ⟨bx1, 0, none⟩) 1 1, .slice (some ⟨bx2, 0, none⟩) 1 1, .slice (some ⟨be, 0, none⟩) 0 0] 59 (0, 0))) κ (.slice (some ⟨bk, 0, none⟩) 3 3) [((some ⟨bx1, 0, none⟩, 1), [(0, 1)]), ((some ⟨bx2, 0, none⟩, 1), [(0, 2)]), ((some ⟨be, 0, none⟩, 0), [])] := by
  refine ⟨slE_sng (l := [((some ⟨bx1, 0, none⟩, 1), [(0, 1)]), ((some ⟨bx2, 0, none⟩, 1), [(0, 2)]), ((some ⟨be, 0, none⟩, 0), [])]) encQ_len, fun z hz => ?_⟩
  simp only [List.mem_cons, List.not_mem_nil, or_false] at hz
  rcases hz with rfl | rfl | rfl
  ·exact ⟨hx1, by simp⟩
  ·exact ⟨hx2, by simp⟩
  ·exact ⟨⟨rfl, .inl ⟨rfl, _, _, rfl⟩⟩, by simp⟩
 have hsc := exSameCut_spec σ1 χ1 _ κ q (some ⟨bk, 0, none⟩) k 3 L _ hCL hC2 hL (by omega)
 refine A2 hsc rfl rfl rdZ rfl rfl ?_
 rintro _ rfl
 refine AK ?_
 refine AC ?_
 refine AE ?_
 exact AI (res1 rfl rfl) rsubZ selZ ⟨rfl, rfl⟩
end Go.Proofs.YthdoegkjifgegaaGreat
/- Joins and meets of cuts. -/
namespace Go.Proofs.YthdoegkjifgegaaGreat
open Go.Eng Go.Step
set_option maxRecDepth 100000
set_option maxHeartbeats 4000000

end Go.Proofs.YthdoegkjifgegaaGreat
/- Sets of the document: one more span, union. -/
namespace Go.Proofs.YthdoegkjifgegaaGreat
open Go.Eng Go.Step
set_option maxRecDepth 100000
set_option maxHeartbeats 4000000

end Go.Proofs.YthdoegkjifgegaaGreat
/- Sets of the document: intersection, equality. -/
namespace Go.Proofs.YthdoegkjifgegaaGreat
open Go.Eng Go.Step
set_option maxRecDepth 100000
set_option maxHeartbeats 4000000

end Go.Proofs.YthdoegkjifgegaaGreat
/- Joins and meets of the document. -/
namespace Go.Proofs.YthdoegkjifgegaaGreat
open Go.Eng Go.Step
set_option maxRecDepth 100000
set_option maxHeartbeats 4000000

end Go.Proofs.YthdoegkjifgegaaGreat
/- The arcs of the network, as the document lists them. No program in sight. No conditions. -/
namespace Go.Step
def conT (d : Dm) (c : Ct) (i : Int) (G : List (Int × Int)) (t : Int) : List EA := ((rngI (max c.s d.r) t).filter (fun u => memI G u)).map (conE d c i)
theorem conT_nil (d : Dm) (c : Ct) (i : Int) (G : List (Int × Int)) : conT d c i G (max c.s d.r) = [] := by
  unfold conT
  rw [rngI_nil (Int.le_refl _)]
  rfl
theorem conT_snoc {d : Dm} {c : Ct} {i : Int} {G : List (Int × Int)} {t : Int} (h : max c.s d.r ≤ t) : conT d c i G (t + 1) = conT d c i G t ++ (if memI G t = true then [conE d c i t] else []) := by
  unfold conT
  rw [rngI_snoc h, List.filter_append, List.map_append]
  congr 1
  by_cases hm : memI G t = true
  · rw [if_pos hm, List.filter_cons_of_pos hm]; rfl
  · rw [if_neg hm, List.filter_cons_of_neg hm]; rfl
theorem conT_len (d : Dm) (c : Ct) (i : Int) (G : List (Int × Int)) (t : Int) : (conT d c i G t).length ≤ (t - max c.s d.r).toNat := by
  unfold conT
  rw [List.length_map]
  exact Nat.le_trans (List.length_filter_le _ _) (Nat.le_of_eq (rngI_len _ _))
section
variable {qs : List Int} {cs : List Ct} {bs : List Bk} {hs : List Hd} {d : Dm}
theorem conT_end (h : VOk qs cs bs hs d) {i : Nat} {c : Ct} (hc : cs[i]? = some c) {t : Int} (ht : ¬ (t < c.e ∧ t + 1 + c.g ≤ d.e)) (h2 : ∀ u, max c.s d.r ≤ u → u < t → u < c.e ∧ u + 1 + c.g ≤ d.e) : conT d c i (freeC cs bs i) t = conN cs bs d i := by
  obtain ⟨n1, _, n3⟩ := h.free hc
  have k := h.ct c (List.mem_of_getElem? hc)
  unfold conN
  rw [hc]
  show _ = (tickL d.r d.e c.g (freeC cs bs i)).map (conE d c i)
  unfold conT
  congr 1
  refine asc_ext ((rngI_asc _ _).filter _) (tickL_asc n1) (fun u => ?_)
  rw [mem_tickL, List.mem_filter, mem_rngI]
  constructor
  · rintro ⟨⟨a1, a2⟩, a3⟩
    have := h2 u a1 a2
    exact ⟨a3, by omega, by omega⟩
  · rintro ⟨a1, a2, a3⟩
    have a4 := a1
    rw [n3, Bool.and_eq_true, decide_eq_true_eq] at a4
    refine ⟨⟨by omega, ?_⟩, a1⟩
    by_cases hu : u < t
    · exact hu
    · exact absurd (by omega) ht
theorem VOk.waitA_le (h : VOk qs cs bs hs d) {m : Nat} (hm : m ≤ qs.length) : (waitA qs hs d m).length ≤ 1600 := by
  have h1 := waitA_len qs hs d m
  have h2 := h.nq
  have h3 := h.dm.2.2.2.2
  have h4 : (d.e - d.r).toNat ≤ 100 := by omega
  have := Nat.mul_le_mul (show m ≤ 16 by omega) h4
  omega
theorem VOk.conA_le (h : VOk qs cs bs hs d) {m : Nat} (hm : m ≤ cs.length) : (conA cs bs d m).length ≤ 6400 := by
  have h1 := h.conA_len m
  have h2 := h.nc
  have h3 := h.dm.2.2.2.2
  have h4 : (d.e - d.r).toNat ≤ 100 := by omega
  have := Nat.mul_le_mul (show m ≤ 64 by omega) h4
  omega
theorem VOk.free_chk (h : VOk qs cs bs hs d) {i : Nat} {c : Ct} (hc : cs[i]? = some c) : chkI (freeC cs bs i) = 0 ∧ (freeC cs bs i).length ≤ 513 := by
  obtain ⟨n1, n2, _⟩ := h.free hc
  have hl : (freeC cs bs i).length ≤ 513 := by
    have hf : freeC cs bs i = gapsP c.e c.s (busyL bs i) := by unfold freeC; rw [hc]
    rw [hf]
    have a := gapsP_len c.e (busyL bs i) c.s
    have b := busyL_len bs i
    have := h.nb
    omega
  have k := h.ct c (List.mem_of_getElem? hc)
  refine ⟨chkI_of (by omega) n1 (fun x hx => ?_), hl⟩
  have a := n1.1 x hx
  have b := n2 x hx
  exact ⟨a, by omega, by omega⟩
end
end Go.Step
/- The document's arcs. -/
namespace Go.Proofs.YthdoegkjifgegaaGreat
open Go.Eng Go.Step
set_option maxRecDepth 100000
set_option maxHeartbeats 4000000

end Go.Proofs.YthdoegkjifgegaaGreat
/- The document's network, its vertices and shipments. -/
namespace Go.Proofs.YthdoegkjifgegaaGreat
open Go.Eng Go.Step
set_option maxRecDepth 100000
set_option maxHeartbeats 4000000

theorem RdN.pre {ρ : PH} {b o : Nat} {xs ys : List Value} (h : RdN ρ b o (xs ++ ys)) : RdP ρ b o xs := ⟨fun j v hv => h j v (by
 have hl := (List.getElem?_eq_some_iff.1 hv).1
 rw [List.getElem?_append_left hl]
 exact hv)⟩
theorem rowN {α : Type} {enc : α → List Value} {s : Nat} (he : ∀ x, (enc x).length = s) {ρ : PH} {p : Option Addr} {k : Nat} {l : List α} (h : SlE enc s ρ (.slice p l.length k) l) : RowsE enc s ρ p l := by
 obtain ⟨_, _, e, hr⟩ := h.val he
 simp only [Value.slice.injEq] at e
 obtain ⟨rfl, _, _⟩ := e
 exact hr
end Go.Proofs.YthdoegkjifgegaaGreat
/- Distances found level by level, over all links again and again; the first link that leads nearer; what is reached by n rounds. No program in sight. No conditions. -/
namespace Go.Flow
/-- in the round d: the links of pre were looked at -/
structure LInv (n t : Nat) (E : Lk → Prop) (D : List Int) (d : Nat) (pre : List Lk) : Prop where
  len : D.length = n
  low : ∀ v, v < n → -1 ≤ D.getD v 0
  hi : ∀ v, v < n → D.getD v 0 ≤ (d : Int) + 1
  at0 : D.getD t 0 = 0
  zero : ∀ v, v < n → D.getD v 0 = 0 → v = t
  step : ∀ v, v < n → 0 < D.getD v 0 → ∃ x, E x ∧ x.f = v ∧ D.getD x.t 0 = D.getD v 0 - 1
  old : ∀ x, E x → 0 ≤ D.getD x.t 0 → D.getD x.t 0 < (d : Int) → 0 ≤ D.getD x.f 0 ∧ D.getD x.f 0 ≤ D.getD x.t 0 + 1
  pre0 : ∀ x ∈ pre, E x → D.getD x.t 0 = (d : Int) → 0 ≤ D.getD x.f 0
section
variable {n t : Nat} {E : Lk → Prop} {D : List Int} {d : Nat}
theorem LInv.start (ht : t < n) : LInv n t E ((List.replicate n (-1)).set t 0) 0 [] ∧ ∀ v, v < n → ((List.replicate n (-1 : Int)).set t 0).getD v 0 ≤ ((0 : Nat) : Int) := by
  have hg : ∀ v, v < n → ((List.replicate n (-1 : Int)).set t 0).getD v 0 = if t = v then 0 else -1 := fun v hv => by
    rw [getD_set (by simpa using ht)]
    split
    · rfl
    · exact getD_rep hv _
  have hlt : ∀ v, v < n → ((List.replicate n (-1 : Int)).set t 0).getD v 0 ≤ 0 := fun v hv => by rw [hg v hv]; split <;> omega
  refine ⟨⟨by simp, fun v hv => by rw [hg v hv]; split <;> omega, fun v hv => by have := hlt v hv; omega, by rw [hg t ht]; simp, fun v hv h => ?_, fun v hv h => by have := hlt v hv; omega, fun x _ h1 h2 => by omega, by simp⟩, hlt⟩
  rw [hg v hv] at h
  split at h
  · rename_i e; exact e.symm
  · omega
/-- a link that tells nothing new -/
theorem LInv.skip {pre : List Lk} {x : Lk} (h : LInv n t E D d pre) (hx : E x → D.getD x.t 0 = (d : Int) → 0 ≤ D.getD x.f 0) : LInv n t E D d (pre ++ [x]) :=
  ⟨h.len, h.low, h.hi, h.at0, h.zero, h.step, h.old, fun y hy => by
    rcases List.mem_append.1 hy with hy | hy
    · exact h.pre0 y hy
    · rw [List.mem_singleton.1 hy]; exact hx⟩
/-- the round's end -/
theorem LInv.next {ls : List Lk} {pre : List Lk} (hsub : ∀ x, E x → x ∈ ls) (hE : ∀ x, E x → x.f < n ∧ x.t < n) (hp : ∀ x ∈ ls, x ∈ pre) (h : LInv n t E D d pre) : LInv n t E D (d + 1) [] :=
  ⟨h.len, h.low, fun v hv => by have := h.hi v hv; omega, h.at0, h.zero, h.step, fun x hx h1 h2 => by
    by_cases e : D.getD x.t 0 = (d : Int)
    · have := h.pre0 x (hp x (hsub x hx)) hx e
      have := h.hi x.f (hE x hx).1
      omega
    · exact h.old x hx h1 (by omega), by simp⟩
theorem LInv.dist (hE : ∀ x, E x → x.f < n ∧ x.t < n) (h : LInv n t E D (d + 1) []) (hno : ∀ v, v < n → D.getD v 0 ≤ (d : Int)) : IsDist n t E D :=
  ⟨h.len, h.low, h.at0, h.zero, fun x hx h1 => h.old x hx h1 (by have := hno x.t (hE x hx).2; omega), h.step⟩
end
/-- after r rounds: all that can be reached by r links is marked -/
inductive RchN (E : Lk → Prop) (s : Nat) : Nat → Nat → Prop
  | refl {k : Nat} : RchN E s k s
  | step {k : Nat} {x : Lk} : RchN E s k x.f → E x → RchN E s (k + 1) x.t
theorem RchN.mono {E : Lk → Prop} {s k m v : Nat} (h : RchN E s k v) (hk : k ≤ m) : RchN E s m v := by
  induction h generalizing m with
  | refl => exact .refl
  | step _ hx ih =>
    obtain ⟨m', rfl⟩ : ∃ m', m = m' + 1 := ⟨m - 1, by omega⟩
    exact .step (ih (by omega)) hx
structure KInv (n s : Nat) (E : Lk → Prop) (B : List Bool) (r : Nat) (pre : List Lk) : Prop where
  len : B.length = n
  snd : ∀ v, v < n → bget B v = true → Rch E s v
  cmp : ∀ v, v < n → RchN E s r v → bget B v = true
  pre0 : ∀ x ∈ pre, E x → RchN E s r x.f → bget B x.t = true
section
variable {n s : Nat} {E : Lk → Prop} {B : List Bool} {r : Nat}
theorem KInv.start (hs : s < n) : KInv n s E ((List.replicate n false).set s true) 0 [] := by
  have hl : s < (List.replicate n false).length := by simpa using hs
  refine ⟨by simp, fun v _ h => ?_, fun v hv h => ?_, by simp⟩
  · rw [bget_set hl, bget_rep] at h
    split at h
    · rename_i e; rw [← e]; exact .refl
    · simp at h
  · cases h with
    | refl => rw [bget_set hl]; simp
theorem KInv.skip {pre : List Lk} {x : Lk} (h : KInv n s E B r pre) (hx : E x → bget B x.f = false) (hE : ∀ x, E x → x.f < n ∧ x.t < n) : KInv n s E B r (pre ++ [x]) :=
  ⟨h.len, h.snd, h.cmp, fun y hy hyE hr => by
    rcases List.mem_append.1 hy with hy | hy
    · exact h.pre0 y hy hyE hr
    · rw [List.mem_singleton.1 hy] at hyE hr ⊢
      have := h.cmp x.f (hE x hyE).1 hr
      rw [hx hyE] at this; simp at this⟩
theorem KInv.next {ls pre : List Lk} (hsub : ∀ x, E x → x ∈ ls) (hp : ∀ x ∈ ls, x ∈ pre) (hs : s < n) (h : KInv n s E B r pre) : KInv n s E B (r + 1) [] :=
  ⟨h.len, h.snd, fun v hv hr => by
    cases hr with
    | refl => exact h.cmp s hs .refl
    | @step _ x hr hx => exact h.pre0 x (hp x (hsub x hx)) hx hr, by simp⟩
end
end Go.Flow
/- The example of the chapter; the laws on maximum flows, cuts and paths, in plain words. No program in sight. No conditions. -/
namespace Go.Flow
/-! ### the laws -/
section
variable {n s t : Int} {l : List Arc}
end
end Go.Flow
/- Searches in slices of numbers; the example of the chapter. -/
namespace Go.Proofs.YthdoegkjifgegaaGreat
open Go.Eng Go.Flow
set_option maxRecDepth 100000
set_option maxHeartbeats 4000000

end Go.Proofs.YthdoegkjifgegaaGreat
/- The document's cuts. -/
namespace Go.Proofs.YthdoegkjifgegaaGreat
open Go.Eng Go.Step
set_option maxRecDepth 100000
set_option maxHeartbeats 4000000

end Go.Proofs.YthdoegkjifgegaaGreat
/- Laws Graph and Sides. -/
namespace Go.Proofs.YthdoegkjifgegaaGreat
open Go.Eng Go.Step
set_option maxRecDepth 100000
set_option maxHeartbeats 4000000

end Go.Proofs.YthdoegkjifgegaaGreat
/- Profiles and peaks, of the program and of the reference. -/
namespace Go.Proofs.YthdoegkjifgegaaGreat
open Go.Eng Go.Step
set_option maxRecDepth 100000
set_option maxHeartbeats 4000000

theorem chkH_pl {qs : List Int} {cs : List Ct} {l : List Hd} (h : chkH qs cs l = 0) : chkPl qs cs = 0 := by
 unfold chkH at h
 split at h
 ·omega
 ·rename_i hp; exact Decidable.not_not.1 hp
theorem chkH_ok {qs : List Int} {cs : List Ct} {l : List Hd} (h : chkH qs cs l = 0) : (∀ x ∈ l, okHd qs.length x) ∧ l.length ≤ 512 ∧ (1 ≤ qs.length ∧ qs.length ≤ 16) := by
 unfold chkH at h
 split at h
 ·omega
 ·rename_i hp
  split at h
  ·omega
  ·split at h
   ·rename_i h2; exact absurd h h2
   ·rename_i h1 h2
    have h3 : firstE (hdE qs.length l) l.length = 0 := Decidable.not_not.1 h2
    have := hdE_ok h3
    rw [List.take_length] at this
    exact ⟨this, by omega, (chkPl_quo (Decidable.not_not.1 hp)).1⟩
end Go.Proofs.YthdoegkjifgegaaGreat
