/- Texts of this proof, one after the other; no conditions. -/
import Derived.Test.YtijheemiknkleaaGreatDoorWB5
import Derived.Test.YtijheemiknkleaaGreatDoorWB7
import Derived.Test.YtijheemiknkleaaGreatDoorWB2
import Derived.Test.YtijheemiknkleaaGreatDoorWB6
import Derived.Test.YtijheemiknkleaaGreatDoorWB4
set_option linter.all false
/- One more contact: arrivals are no later; labels that prove that there is no route do so without it. No program in sight. No conditions. -/
namespace Go.Step
theorem hopB_mono {fr fr' d : Int} (hd : 0 ≤ d) (hf : fr' ≤ fr) : ∀ {L : List (Int × Int)}, L.Pairwise (fun x y => x.2 < y.1) → ∀ {b : Int}, hopB fr d L = some b → ∃ b', hopB fr' d L = some b' ∧ b' ≤ b
  | [], _, b, h => by cases h
  | p :: l, hP, b, h => by
    obtain ⟨h1, h2⟩ := List.pairwise_cons.1 hP
    unfold hopB at h ⊢
    by_cases c : max p.1 fr + d ≤ p.2
    · rw [if_pos c] at h
      cases h
      rw [if_pos (by omega)]
      exact ⟨_, rfl, by omega⟩
    · rw [if_neg c] at h
      by_cases c' : max p.1 fr' + d ≤ p.2
      · rw [if_pos c']
        obtain ⟨q, hq, rfl, _⟩ := hopB_ok h
        have := h1 q hq
        exact ⟨_, rfl, by omega⟩
      · rw [if_neg c']
        exact hopB_mono hd hf h2 h
theorem hopR_mono {G : Gr} (hg : GOK G) (ha : ∀ i, (G.gaps.getD i []).Pairwise (fun x y => x.2 < y.1)) {i : Nat} {c : Ct} {fr fr' : Int} (hf : fr' ≤ fr) {h : Hp} (hh : hopR G i c fr = some h) : ∃ h', hopR G i c fr' = some h' ∧ h'.a ≤ h.a ∧ h'.e ≤ h.e := by
  have hd : 0 ≤ G.dur.getD i 0 := by
    rw [List.getD_eq_getElem?_getD]
    cases e : G.dur[i]? with
    | none => simp
    | some d => have := hg.dur d (List.mem_of_getElem? e); simp; omega
  unfold hopR at hh ⊢
  rw [Option.map_eq_some_iff] at hh
  obtain ⟨b, h1, rfl⟩ := hh
  obtain ⟨b', h2, h3⟩ := hopB_mono hd hf (ha i) h1
  rw [h2]
  exact ⟨_, rfl, by dsimp only; omega, by dsimp only; omega⟩
theorem mvs_earlier {G : Gr} (hg : GOK G) (ha : ∀ i, (G.gaps.getD i []).Pairwise (fun x y => x.2 < y.1)) {x y : Lb} (hn : y.n = x.n) (ht : y.t = x.t) (hxy : y.a ≤ x.a) {m : Lb × Hp} (hm : m ∈ mvs G x) : ∃ m' ∈ mvs G y, m'.1.n = m.1.n ∧ m'.1.f = m.1.f ∧ m'.1.t = m.1.t ∧ m'.1.a ≤ m.1.a := by
  obtain ⟨k, c, r, hc, hf, hr, hh, he, h1, h2, h3⟩ := mem_mvs hm
  obtain ⟨h', e1, e2, e3⟩ := hopR_mono hg ha (show max y.a r.1 ≤ max x.a r.1 by omega) hh
  have hl : leaveR G c h' ≤ leaveR G c m.2 := by unfold leaveR; split <;> omega
  refine ⟨_, mvs_of hc (by rw [hf, hn]) hr e1 (by omega) (by omega) (fun h => by have := h3 h; omega), ?_⟩
  rw [he]
  exact ⟨rfl, rfl, rfl, e2⟩
structure Ext (G G' : Gr) : Prop where
  rooms : G'.rooms = G.rooms
  q : G'.q = G.q
  mv : ∀ x m, m ∈ mvs G x → m ∈ mvs G' x
theorem Ext.refl (G : Gr) : Ext G G := ⟨rfl, rfl, fun _ _ h => h⟩
theorem Ext.begs {G G' : Gr} (h : Ext G G') : begs G' = begs G := by unfold Go.Step.begs; rw [h.rooms, h.q]
theorem Ext.fine {G G' : Gr} (h : Ext G G') {x : Lb} : Fine G' x ↔ Fine G x := by unfold Fine; rw [h.rooms, h.q]
theorem fine_to {G : Gr} (hg : GOK G) {x y : Lb} (hx : Fine G x) (hy : Fine G y) (hs : sameL y x = true) : y.t = x.t := by
  obtain ⟨e1, e2⟩ := sameL_iff.1 hs
  obtain ⟨_, x1, x2, x3, x4, x5⟩ := hx
  obtain ⟨_, y1, y2, y3, y4, y5⟩ := hy
  rw [e1, e2] at y3
  have hr : ∃ l, G.rooms.getD x.n.toNat [] = l ∧ l.Pairwise (fun p q => p.2 < q.1) ∧ ∀ p ∈ l, p.1 < p.2 := by
    have hlt : x.n.toNat < G.rooms.length := by omega
    have h := List.getElem?_eq_getElem hlt
    refine ⟨_, rfl, ?_⟩
    rw [List.getD_eq_getElem?_getD, h, Option.getD_some]
    have := hg.room _ (List.mem_of_getElem? h)
    exact ⟨this.2.1, fun p hp => (this.2.2 p hp).2.1⟩
  obtain ⟨l, hl, hp, h0⟩ := hr
  rw [hl] at x3 y3
  obtain ⟨i, hi, ei⟩ := List.getElem_of_mem x3
  obtain ⟨j, hj, ej⟩ := List.getElem_of_mem y3
  have hii := h0 _ x3
  have hjj := h0 _ y3
  dsimp only at hii hjj
  rcases Nat.lt_trichotomy i j with h | h | h
  · have := List.pairwise_iff_getElem.1 hp i j hi hj h
    rw [ei, ej] at this
    dsimp only at this
    omega
  · subst h
    rw [ei] at ej
    simpa using (congrArg Prod.snd ej).symm
  · have := List.pairwise_iff_getElem.1 hp j i hj hi h
    rw [ei, ej] at this
    dsimp only at this
    omega
theorem cov_rch {G G' : Gr} (hg : GOK G') (ha : ∀ i, (G'.gaps.getD i []).Pairwise (fun x y => x.2 < y.1)) (hE : Ext G G') {L : List Lb} (hL : LabR G' L) {x : Lb} (h : RchL G x) : CovL L x ∧ RchL G' x := by
  induction h with
  | beg h =>
    rw [← hE.begs] at h
    exact ⟨hL.beg _ h, .beg h⟩
  | mv hx hm hn ih =>
    obtain ⟨⟨y, hy, hs, hle⟩, hr⟩ := ih
    have hm' := hE.mv _ _ hm
    obtain ⟨e1, e2⟩ := sameL_iff.1 hs
    have ht := fine_to hg (rch_fine hg hr) (rch_fine hg (hL.rch y hy)) hs
    obtain ⟨m', h1, f1, f2, f3, f4⟩ := mvs_earlier hg ha e1 ht hle hm'
    rw [← hE.q] at hn
    obtain ⟨z, hz, hs2, hz2⟩ := hL.clo y hy m' h1 (by rw [f1]; exact hn)
    obtain ⟨g1, g2⟩ := sameL_iff.1 hs2
    exact ⟨⟨z, hz, sameL_iff.2 ⟨by rw [g1, f1], by rw [g2, f2]⟩, by omega⟩, .mv hr hm' hn⟩
theorem arrS_mono (G : Gr) : ∀ (l : List (Lb × Hp)) (o : Option Int), (∀ b, o = some b → ∃ a, l.foldl (arrS G) o = some a ∧ a ≤ b) ∧ (∀ m ∈ l, m.1.n = G.q.dst → ∃ a, l.foldl (arrS G) o = some a ∧ a ≤ m.1.a) ∧ (∀ a, l.foldl (arrS G) o = some a → o = some a ∨ ∃ m ∈ l, m.1.n = G.q.dst ∧ m.1.a = a)
  | [], o => ⟨fun b h => ⟨b, by simp [h], by omega⟩, fun m h => (by cases h), fun a h => .inl (by simpa using h)⟩
  | x :: l, o => by
    obtain ⟨h1, h2, h3⟩ := arrS_mono G l (arrS G o x)
    have k1 : ∀ b, o = some b → ∃ a, arrS G o x = some a ∧ a ≤ b := fun b hb => by
      subst hb
      by_cases c : x.1.n = G.q.dst
      · by_cases c2 : x.1.a < b
        · exact ⟨_, arrS_lt c c2, by omega⟩
        · exact ⟨_, arrS_ge c c2, by omega⟩
      · exact ⟨_, arrS_no c _, by omega⟩
    have k2 : x.1.n = G.q.dst → ∃ a, arrS G o x = some a ∧ a ≤ x.1.a := fun c => by
      cases o with
      | none => exact ⟨_, arrS_none c, by omega⟩
      | some b =>
        by_cases c2 : x.1.a < b
        · exact ⟨_, arrS_lt c c2, by omega⟩
        · exact ⟨_, arrS_ge c c2, by omega⟩
    have k3 : ∀ a, arrS G o x = some a → o = some a ∨ (x.1.n = G.q.dst ∧ x.1.a = a) := fun a h => by
      by_cases c : x.1.n = G.q.dst
      · cases o with
        | none => rw [arrS_none c] at h; cases h; exact .inr ⟨c, rfl⟩
        | some b =>
          by_cases c2 : x.1.a < b
          · rw [arrS_lt c c2] at h; cases h; exact .inr ⟨c, rfl⟩
          · rw [arrS_ge c c2] at h; exact .inl h
      · rw [arrS_no c] at h; exact .inl h
    refine ⟨fun b hb => ?_, fun m hm hn => ?_, fun a ha => ?_⟩
    · obtain ⟨a, e1, e2⟩ := k1 b hb
      obtain ⟨a', e3, e4⟩ := h1 a e1
      exact ⟨a', e3, by omega⟩
    · rcases List.mem_cons.1 hm with rfl | hm
      · obtain ⟨a, e1, e2⟩ := k2 hn
        obtain ⟨a', e3, e4⟩ := h1 a e1
        exact ⟨a', e3, by omega⟩
      · exact h2 m hm hn
    · rcases h3 a ha with h | ⟨m, hm, hn⟩
      · rcases k3 a h with h | ⟨h, h'⟩
        · exact .inl h
        · exact .inr ⟨x, by simp, h, h'⟩
      · exact .inr ⟨m, by simp [hm], hn⟩
theorem arr_le {G : Gr} {l : List Lb} {x : Lb} {m : Lb × Hp} (hx : x ∈ l) (hm : m ∈ mvs G x) (hn : m.1.n = G.q.dst) : ∃ a, arrR G l = some a ∧ a ≤ m.1.a := (arrS_mono G _ none).2.1 m (List.mem_flatMap.2 ⟨x, hx, hm⟩) hn
theorem arr_some {G : Gr} {l : List Lb} {a : Int} (h : arrR G l = some a) : ∃ x ∈ l, ∃ m ∈ mvs G x, m.1.n = G.q.dst ∧ m.1.a = a := by
  rcases (arrS_mono G _ none).2.2 a h with h | ⟨m, hm, hn⟩
  · cases h
  · obtain ⟨x, hx, hmx⟩ := List.mem_flatMap.1 hm
    exact ⟨x, hx, m, hmx, hn⟩
theorem arr_more {G G' : Gr} (hg : GOK G') (ha : ∀ i, (G'.gaps.getD i []).Pairwise (fun x y => x.2 < y.1)) (hE : Ext G G') {L L' : List Lb} (hL : LabR G L) (hL' : LabR G' L') {a : Int} (h : arrR G L = some a) : ∃ a', arrR G' L' = some a' ∧ a' ≤ a := by
  obtain ⟨x, hx, m, hm, hn, rfl⟩ := arr_some h
  obtain ⟨⟨y, hy, hs, hle⟩, hr⟩ := cov_rch hg ha hE hL' (hL.rch x hx)
  have ht := fine_to hg (rch_fine hg hr) (rch_fine hg (hL'.rch y hy)) hs
  obtain ⟨m', h1, f1, f2, f3, f4⟩ := mvs_earlier hg ha (sameL_iff.1 hs).1 ht hle (hE.mv _ _ hm)
  obtain ⟨a', e1, e2⟩ := arr_le hy h1 (by rw [f1, hE.q]; exact hn)
  exact ⟨a', e1, by omega⟩
def covB (L : List Lb) (x : Lb) : Bool := L.any (fun y => decide (y.n = x.n ∧ y.f = x.f ∧ y.t = x.t ∧ y.a ≤ x.a))
structure VerL (G : Gr) (L : List Lb) : Prop where
  fine : ∀ x ∈ L, Fine G x
  beg : ∀ x ∈ begs G, covB L x = true
  mv : ∀ x ∈ L, ∀ m ∈ mvs G x, m.1.n ≠ G.q.dst ∧ covB L m.1 = true
theorem covB_of {G : Gr} (hg : GOK G) {L : List Lb} (hF : ∀ x ∈ L, Fine G x) {x : Lb} (hx : Fine G x) (h : CovL L x) : covB L x = true := by
  obtain ⟨y, hy, hs, hle⟩ := h
  have ht := fine_to hg hx (hF y hy) hs
  unfold covB
  rw [List.any_eq_true]
  exact ⟨y, hy, decide_eq_true ⟨(sameL_iff.1 hs).1, (sameL_iff.1 hs).2, ht, hle⟩⟩
theorem ver_more {G G' : Gr} (hg : GOK G') (ha : ∀ i, (G'.gaps.getD i []).Pairwise (fun x y => x.2 < y.1)) (hE : Ext G G') {L1 L : List Lb} (h1 : LabR G' L1) (h : arrR G' L1 = none) (hL : LabR G' L) : VerL G L := by
  have hF : ∀ x ∈ L, Fine G' x := fun x hx => rch_fine hg (hL.rch x hx)
  have hno : ∀ x ∈ L, ∀ m ∈ mvs G' x, m.1.n ≠ G'.q.dst := fun x hx m hm hn => by
    obtain ⟨a, e, _⟩ := arr_le hx hm hn
    obtain ⟨a', e', _⟩ := arr_more hg ha (Ext.refl G') hL h1 e
    rw [h] at e'
    cases e'
  refine ⟨fun x hx => hE.fine.1 (hF x hx), fun x hx => ?_, fun x hx m hm => ?_⟩
  · rw [← hE.begs] at hx
    exact covB_of hg hF (beg_fine hg hx) (hL.beg x hx)
  · have hm' := hE.mv _ _ hm
    have hn := hno x hx m hm'
    refine ⟨by rw [← hE.q]; exact hn, covB_of hg hF (mvs_fine hg hm' hn) (hL.clo x hx m hm' hn)⟩
section
variable {qs : List Int} {cs : List Ct} {bs : List Bk} {hs : List Hd} {q : Rq} {c : Ct}
theorem freeC_app {i : Nat} (h : i < cs.length) : freeC (cs ++ [c]) bs i = freeC cs bs i := by
  unfold freeC
  rw [List.getElem?_append_left h]
theorem getD_app {α : Type} {l l' : List α} {i : Nat} (d : α) (h : ∀ j, j < l.length → l'[j]? = l[j]?) (hi : i < l.length) : l'.getD i d = l.getD i d := by
  rw [List.getD_eq_getElem?_getD, List.getD_eq_getElem?_getD, h i hi]
theorem hop_more {i : Nat} (h : i < cs.length) (x : Ct) (fr : Int) : hopR (grOf qs (cs ++ [c]) bs hs q) i x fr = hopR (grOf qs cs bs hs q) i x fr := by
  have e1 : (grOf qs (cs ++ [c]) bs hs q).dur.getD i 0 = (grOf qs cs bs hs q).dur.getD i 0 := by
    refine getD_app _ (fun j hj => ?_) (by simpa [grOf] using h)
    have hj' : j < cs.length := by simpa [grOf] using hj
    show ((cs ++ [c]).map _)[j]? = (cs.map _)[j]?
    rw [List.map_append, List.getElem?_append_left (by rw [List.length_map]; exact hj')]
  have e2 : (grOf qs (cs ++ [c]) bs hs q).gaps.getD i [] = (grOf qs cs bs hs q).gaps.getD i [] := by
    rw [List.getD_eq_getElem?_getD, List.getD_eq_getElem?_getD, gaps_at qs cs bs hs q h, gaps_at qs (cs ++ [c]) bs hs q (by rw [List.length_append]; omega), freeC_app h]
  unfold hopR
  rw [e1, e2]
theorem ext_more (qs : List Int) (cs : List Ct) (bs : List Bk) (hs : List Hd) (q : Rq) (c : Ct) : Ext (grOf qs cs bs hs q) (grOf qs (cs ++ [c]) bs hs q) := by
  refine ⟨rfl, rfl, fun x m hm => ?_⟩
  obtain ⟨k, y, r, hc, hf, hr, hh, he, h1, h2, h3⟩ := mem_mvs hm
  have hk := (List.getElem?_eq_some_iff.1 hc).1
  have hk : k < cs.length := hk
  have hcc : (grOf qs (cs ++ [c]) bs hs q).cs[k]? = some y := by
    show (cs ++ [c])[k]? = some y
    rw [List.getElem?_append_left hk]; exact hc
  have := mvs_of (G := grOf qs (cs ++ [c]) bs hs q) (x := x) hcc hf (r := r) hr (h := m.2) (by rw [hop_more hk]; exact hh) h1 h2 h3
  obtain ⟨m1, m2⟩ := m
  dsimp only at he this
  rw [he]
  exact this
theorem tok_more (h : TOK qs cs bs hs q) (lc : cs.length ≤ 10) (hp : chkPl qs (cs ++ [c]) = 0) : TOK qs (cs ++ [c]) bs hs q := by
  obtain ⟨ht, hq, lq, _, lb, lh⟩ := h
  obtain ⟨hp0, hb, hh⟩ := chkT_ok ht
  obtain ⟨hb1, hb2⟩ := chkB_ok hb
  refine ⟨?_, hq, lq, by rw [List.length_append, List.length_singleton]; omega, lb, lh⟩
  have hB : chkB qs (cs ++ [c]) bs = 0 := by
    unfold chkB
    rw [if_neg (by simp [hp]), if_neg (by omega)]
    refine firstE_all (fun k hk => ?_)
    have := firstE_zero hb2 k hk
    have hx := List.getElem?_eq_getElem hk
    rw [bkE_at hx] at this ⊢
    cases ho : okBkB cs bs[k] with
    | false => rw [ho, if_pos rfl] at this; omega
    | true =>
      rw [ho, if_neg (by simp)] at this
      have ho' : okBkB (cs ++ [c]) bs[k] = true := by
        rw [okBkB, Bool.and_eq_true, decide_eq_true_eq] at ho ⊢
        refine ⟨⟨ho.1.1, by rw [List.length_append]; omega, ho.1.2.2⟩, ?_⟩
        rw [List.getElem?_append_left (by omega)]
        exact ho.2
      rw [ho', if_neg (by simp)]
      exact this
  unfold chkT
  rw [if_neg (by simp [hp]), if_neg (by simp [hB])]
  unfold chkH at hh ⊢
  rw [if_neg (by simp [hp])]
  rw [if_neg (by simp [hp0])] at hh
  exact hh
end
end Go.Step
/- Searching: arrivals, labels, moves. -/
namespace Go.Proofs.YtijheemiknkleaaGreatDoor
open Go.Eng Go.Step
set_option maxRecDepth 100000
set_option maxHeartbeats 4000000

theorem idxSp_spec (ρ : PH) (v : Value) (l : List (Int × Int)) (x : Int × Int) (hv : SlE encS 2 ρ v l) (hl : l.length ≤ 100000) (hx : x ∈ l) : Ans Tryz.prog (fv 151) [v, .agg #[int x.1, int x.2]] [ρ] (fun r => ∃ i : Nat, i < l.length ∧ r = int (i : Int)) := by
 obtain ⟨p, c, rfl, hrl⟩ := SlE.val (enc := encS) encS_len hv
 refine spec_in (cap := []) Tryz.func151 rfl rfl Tryz.ntmps151 rfl envZ (fun N β => ?_)
 refine AB ?_
 refine AA ?_
 refine BF (BC rfl) rfl rfl rfl ?_
 rintro _ _ ⟨b3, rfl, rfl⟩
 refine AU (ρ := sng b3 _) takeZ ?_
 have cb : RdN (sng b3 (.cells #[int x.1, int x.2] 139 (0, 0))) b3 0 [int x.1, int x.2] := rdN_sng (vs := [int x.1, int x.2])
 refine AD ?_
 refine AE ?_
 refine AB ?_
 refine AB ?_
 refine AA ?_
 refine AC ?_
 refine AY ?_
 refine AC ?_
 refine AE ?_
 refine AV ?_
 refine BM [0, 3, 7] (0 : Nat) (fun k => k ≤ l.length ∧ x ∈ l.drop k) (fun k => [(8, int k)]) (fun _ => []) (fun k => l.length - k) pickZ ⟨by omega, hx⟩ covZ selZ ?_
 rintro k ⟨hk, hI⟩
 by_cases hlt : k < l.length
 rotate_left
 ·rw [List.drop_of_length_le (by omega)] at hI
  cases hI
 have hy := List.getElem?_eq_getElem hlt
 rw [List.drop_eq_getElem_cons hlt, List.mem_cons] at hI
 obtain ⟨bq, oq, rfl, hRd, y0, y1⟩ := spRow hrl hy
 generalize l[k] = y at hy hI hRd y0 y1
 refine AB ?_
 refine AA ?_
 refine BI ?_
 refine AE ?_
 refine AB ?_
 refine AQ rfl ?_
 refine AL ?_
 refine AB ?_
 refine AV ?_
 refine AB ?_
 refine AA ?_
 refine AC ?_
 refine AD ?_
 refine AE ?_
 refine AB ?_
 refine BA (.q 0 (.q 1 (.q 2 (.q 3 (.q 4 (.q 5 .nil)))))) [] rfl (by kernel_rfl) selZ ?_
 refine BL ?_
 refine AS ?_
 refine AS ?_
 refine BJ ?_
 refine BL ?_
 focus ((refine' CQ rfl _ rfl rfl rfl rfl _; rotate_left; (apply q_eqS [x.1, x.2] [y.1, y.2] (n := 2); exact rfl; exact rfl; kernel_rfl; kernel_rfl; kernel_rfl; exact rfl; exact rfl)))
 refine A7 ?_
 by_cases e : x = y
 ·subst e
  rw [decide_eq_true (rfl : [x.1, x.2] = [x.1, x.2])]
  refine AQ rfl ?_
  refine AB ?_
  refine AA ?_
  refine AC ?_
  refine AD ?_
  refine AE ?_
  exact AI (res1 rfl rfl) rsubZ selZ ⟨rfl, k, hlt, rfl⟩
 ·rw [decide_eq_false (show ¬ [x.1, x.2] = [y.1, y.2] from fun h => e (by simp only [List.cons.injEq, and_true] at h; exact Prod.ext h.1 h.2))]
  refine AM rfl ?_
  refine AL ?_
  refine A8 ?_
  refine AA ?_
  refine BD ?_
  refine AC ?_
  refine AE ?_
  exact A5 (k + 1) ⟨by omega, hI.resolve_left e⟩ (by omega) covZ selZ
theorem contSp_spec (ρ : PH) (v : Value) (l : List (Int × Int)) (x : Int × Int) (hv : SlE encS 2 ρ v l) (hl : l.length ≤ 100000) (hx : x ∈ l) : Ans Tryz.prog (fv 112) [v, .agg #[int x.1, int x.2]] [ρ] (fun r => r = .bool true) := by
 have hi := idxSp_spec ρ v l x hv hl hx
 refine spec_in (cap := []) Tryz.func112 rfl rfl Tryz.ntmps112 rfl envZ (fun N β => ?_)
 refine AB ?_
 refine AA ?_
 refine BF (BC rfl) rfl rfl rfl ?_
 rintro _ _ ⟨b3, rfl, rfl⟩
 refine AU (ρ := sng b3 _) takeZ ?_
 have cb : RdN (sng b3 (.cells #[int x.1, int x.2] 139 (0, 0))) b3 0 [int x.1, int x.2] := rdN_sng (vs := [int x.1, int x.2])
 refine AD ?_
 refine AE ?_
 refine AB ?_
 refine AA ?_
 refine AC ?_
 refine AN ?_
 refine A3 hi rfl rfl rdZ rfl rfl ?_
 rintro _ ⟨i, hil, rfl⟩
 refine CL ?_
 refine AD ?_
 refine AE ?_
 exact AI (res1 rfl rfl) rsubZ selZ ⟨rfl, rfl⟩
section
variable {ρ τ σ υ : PH} {pq pc pb ph : Option Addr} {kq kc kb kh : Nat} {qs : List Int} {cs : List Ct} {bs : List Bk} {hs : List Hd} {q : Rq}
set_option maxHeartbeats 16000000 in
theorem srchArr_spec (hT : TbAt ρ τ σ υ pq pc pb ph kq kc kb kh qs cs bs hs) (hK : TOK qs cs bs hs q) :
  Ans Tryz.prog (fv 7) [.agg #[.slice pq qs.length kq, .slice pc cs.length kc, .slice pb bs.length kb, .slice ph hs.length kh], .agg #[int q.src, int q.dst, int q.size, int q.rdy, int q.dln, int q.pri, .bool q.cus]] [ρ, τ, σ, υ] (fun r => ∃ L, LabR (grOf qs cs bs hs q) L ∧ ((∃ a, arrR (grOf qs cs bs hs q) L = some a ∧ r = .tuple #[int a, int 0]) ∨ (arrR (grOf qs cs bs hs q) L = none ∧ r = .tuple #[int 0, int 18]))) := by
 have hb := build_spec hT hK
 have hg := grOf_ok hK
 generalize grOf qs cs bs hs q = G at hb hg
 refine spec_in (cap := []) Tryz.func7 rfl rfl Tryz.ntmps7 rfl envZ (fun N β => ?_)
 refine AB ?_
 refine AA ?_
 refine BF (BC rfl) rfl rfl rfl ?_
 rintro _ _ ⟨b2, rfl, rfl⟩
 refine BF (BC rfl) rfl rfl rfl ?_
 rintro _ _ ⟨b3, rfl, rfl⟩
 refine AU (ρ := sng b2 _) takeZ ?_
 refine AU (ρ := sng b3 _) takeZ ?_
 have ct : RdN (sng b2 (.cells #[.slice pq qs.length kq, .slice pc cs.length kc, .slice pb bs.length kb, .slice ph hs.length kh] 29 (0, 0))) b2 0 [.slice pq qs.length kq, .slice pc cs.length kc, .slice pb bs.length kb, .slice ph hs.length kh] := rdN_sng (vs := [.slice pq qs.length kq, .slice pc cs.length kc, .slice pb bs.length kb, .slice ph hs.length kh])
 have cr : RdN (sng b3 (.cells #[int q.src, int q.dst, int q.size, int q.rdy, int q.dln, int q.pri, .bool q.cus] 31 (0, 0))) b3 0 [int q.src, int q.dst, int q.size, int q.rdy, int q.dln, int q.pri, .bool q.cus] := rdN_sng (vs := [int q.src, int q.dst, int q.size, int q.rdy, int q.dln, int q.pri, .bool q.cus])
 refine AD ?_
 refine AD ?_
 refine AE ?_
 refine AB ?_
 refine AA ?_
 refine AN ?_
 refine AN ?_
 refine B6 hb rfl rfl rdZ rfl rfl ?_
 rintro _ γ ⟨A, rfl, hG⟩
 refine AU (ρ := γ) takeZ ?_
 have hla := labels_spec hG hg
 refine AC ?_
 refine AX ?_
 refine AX ?_
 refine AD ?_
 refine AD ?_
 refine AE ?_
 refine AB ?_
 refine AB ?_
 refine AA ?_
 refine AC ?_
 refine BZ ?_
 refine AE ?_
 refine AM rfl ?_
 refine AL ?_
 refine AB ?_
 refine AA ?_
 refine AC ?_
 refine AC ?_
 refine B6 hla rfl rfl rdZ rfl rfl ?_
 rintro v lam ⟨L, hL, hO⟩
 refine AU (ρ := lam) takeZ ?_
 have hSL : SlE encL 4 lam v L := hO.at
 have hLl := hL.len
 have har := grArr_spec hG hg v L hSL (by omega) (fun x hx => by have := fine_bd hg (rch_fine hg (hL.rch x hx)); omega)
 skip
 refine A3 har rfl rfl rdZ rfl rfl ?_
 rintro _ rfl
 cases ha : arrR G L with
 | none =>
  simp only [Option.getD_none, Option.isSome_none]
  refine AC ?_
  refine AX ?_
  refine AX ?_
  refine AD ?_
  refine AD ?_
  refine AE ?_
  refine AB ?_
  refine AB ?_
  refine AA ?_
  refine AC ?_
  refine BZ ?_
  refine AE ?_
  refine AQ rfl ?_
  refine AB ?_
  refine AA ?_
  refine AD ?_
  refine AD ?_
  refine AE ?_
  exact AI (res2 rfl rfl rfl) rsubZ selZ ⟨rfl, L, hL, .inr ⟨ha, rfl⟩⟩
 | some a =>
  simp only [Option.getD_some, Option.isSome_some]
  refine AC ?_
  refine AX ?_
  refine AX ?_
  refine AD ?_
  refine AD ?_
  refine AE ?_
  refine AB ?_
  refine AB ?_
  refine AA ?_
  refine AC ?_
  refine BZ ?_
  refine AE ?_
  refine AM rfl ?_
  refine AL ?_
  refine AB ?_
  refine AA ?_
  refine AC ?_
  refine AD ?_
  refine AD ?_
  refine AE ?_
  exact AI (res2 rfl rfl rfl) rsubZ selZ ⟨rfl, L, hL, .inl ⟨a, ha, rfl⟩⟩
theorem lab_spec (hT : TbAt ρ τ σ υ pq pc pb ph kq kc kb kh qs cs bs hs) (hK : TOK qs cs bs hs q) :
  Makes Tryz.prog (fv 23) [.agg #[.slice pq qs.length kq, .slice pc cs.length kc, .slice pb bs.length kb, .slice ph hs.length kh], .agg #[int q.src, int q.dst, int q.size, int q.rdy, int q.dln, int q.pri, .bool q.cus]] [ρ, τ, σ, υ] (fun r χ => ∃ L u, LabR (grOf qs cs bs hs q) L ∧ r = .tuple #[u, int 0] ∧ OwnS 77 4 u L.length (L.flatMap encL) χ) := by
 have hb := build_spec hT hK
 have hg := grOf_ok hK
 generalize grOf qs cs bs hs q = G at hb hg
 refine spec_in (cap := []) Tryz.func23 rfl rfl Tryz.ntmps23 rfl envZ (fun N β => ?_)
 refine AB ?_
 refine AA ?_
 refine BF (BC rfl) rfl rfl rfl ?_
 rintro _ _ ⟨b2, rfl, rfl⟩
 refine BF (BC rfl) rfl rfl rfl ?_
 rintro _ _ ⟨b3, rfl, rfl⟩
 refine AU (ρ := sng b2 _) takeZ ?_
 refine AU (ρ := sng b3 _) takeZ ?_
 have ct : RdN (sng b2 (.cells #[.slice pq qs.length kq, .slice pc cs.length kc, .slice pb bs.length kb, .slice ph hs.length kh] 29 (0, 0))) b2 0 [.slice pq qs.length kq, .slice pc cs.length kc, .slice pb bs.length kb, .slice ph hs.length kh] := rdN_sng (vs := [.slice pq qs.length kq, .slice pc cs.length kc, .slice pb bs.length kb, .slice ph hs.length kh])
 have cr : RdN (sng b3 (.cells #[int q.src, int q.dst, int q.size, int q.rdy, int q.dln, int q.pri, .bool q.cus] 31 (0, 0))) b3 0 [int q.src, int q.dst, int q.size, int q.rdy, int q.dln, int q.pri, .bool q.cus] := rdN_sng (vs := [int q.src, int q.dst, int q.size, int q.rdy, int q.dln, int q.pri, .bool q.cus])
 refine AD ?_
 refine AD ?_
 refine AE ?_
 refine AB ?_
 refine AA ?_
 refine AN ?_
 refine AN ?_
 refine B6 hb rfl rfl rdZ rfl rfl ?_
 rintro _ γ ⟨A, rfl, hG⟩
 refine AU (ρ := γ) takeZ ?_
 have hla := labels_spec hG hg
 refine AC ?_
 refine AX ?_
 refine AX ?_
 refine AD ?_
 refine AD ?_
 refine AE ?_
 refine AB ?_
 refine AB ?_
 refine AA ?_
 refine AC ?_
 refine BZ ?_
 refine AE ?_
 refine AM rfl ?_
 refine AL ?_
 refine AB ?_
 refine AA ?_
 refine AC ?_
 refine B6 hla rfl rfl rdZ rfl rfl ?_
 rintro v lam ⟨L, hL, hO⟩
 refine AD ?_
 refine AD ?_
 refine AE ?_
 exact AI (res2 rfl rfl rfl) rsubZ selZ ⟨lam, ⟨L, v, hL, rfl, hO⟩, rfl⟩
end
end Go.Proofs.YtijheemiknkleaaGreatDoor
/- Where ways meet, with a chunk that goes through. No conditions. -/
namespace Go.Eng
variable {C : Cx} {D : List Deferred} {R H : List PH} {L : Env} {K : List It}
theorem FM {X : Type} {c : Code} {Lk : Env} {ρ : PH} {H1 : List PH} (_t : Take ρ H H1) (keep : List Nat) (Inv : X → Prop) (Lx : X → Env) (Hx : X → List PH)
    (hk : Pick L keep Lk)
    (first : JK C D R H L (.code c :: .till (MidI C D R Inv (fun y => Lx y ++ Lk) (fun y => ρ :: Hx y)) :: K))
    (rest : ∀ x, Inv x → JK C D R (ρ :: Hx x) (Lx x ++ Lk) K) : JK C D R H L (.code c :: K) :=
  D8 keep Inv Lx (fun y => ρ :: Hx y) hk first rest
end Go.Eng
/- Searching: the moves of a label, as lists. -/
namespace Go.Proofs.YtijheemiknkleaaGreatDoor
open Go.Eng Go.Step
set_option maxRecDepth 100000
set_option maxHeartbeats 4000000

section
variable {ρ τ σ υ : PH} {pq pc pb ph : Option Addr} {kq kc kb kh : Nat} {qs : List Int} {cs : List Ct} {bs : List Bk} {hs : List Hd} {q : Rq}
set_option maxHeartbeats 32000000 in
theorem movesOf_spec (hT : TbAt ρ τ σ υ pq pc pb ph kq kc kb kh qs cs bs hs) (hK : TOK qs cs bs hs q) (x : Lb) (hF : Fine (grOf qs cs bs hs q) x) :
  Makes Tryz.prog (fv 61) [.agg #[.slice pq qs.length kq, .slice pc cs.length kc, .slice pb bs.length kb, .slice ph hs.length kh], .agg #[int q.src, int q.dst, int q.size, int q.rdy, int q.dln, int q.pri, .bool q.cus], .agg #[int x.n, int x.f, int x.t, int x.a]] [ρ, τ, σ, υ] (fun r χ => ∃ u1 u2, r = .tuple #[u1, u2, int 0] ∧ SlE encL 4 χ u1 ((mvs (grOf qs cs bs hs q) x).map (·.1)) ∧ SlE encHp 4 χ u2 ((mvs (grOf qs cs bs hs q) x).map (·.2))) := by
 have hb := build_spec hT hK
 have hg := grOf_ok hK
 have hxb := fine_bd hg hF
 have hd : x.n ≠ q.dst := hF.1
 obtain ⟨_, h0, h1, h2, h3, h4⟩ := hF
 have hlq : (grOf qs cs bs hs q).rooms.length = qs.length := by simp [grOf]
 obtain ⟨m, hm⟩ := Int.eq_ofNat_of_zero_le h0
 have hml : m < qs.length := by omega
 generalize grOf qs cs bs hs q = G at hb hg h1 h2 hlq ⊢
 have hR0 := List.getElem?_eq_getElem (show m < G.rooms.length by omega)
 have hRR := hg.room _ (List.mem_of_getElem? hR0)
 rw [hm, Int.toNat_natCast, getD_at hR0] at h2
 refine spec_in (cap := []) Tryz.func61 rfl rfl Tryz.ntmps61 rfl envZ (fun N β => ?_)
 refine AB ?_
 refine AA ?_
 refine BF (BC rfl) rfl rfl rfl ?_
 rintro _ _ ⟨b2, rfl, rfl⟩
 refine BF (BC rfl) rfl rfl rfl ?_
 rintro _ _ ⟨b3, rfl, rfl⟩
 refine BF (BC rfl) rfl rfl rfl ?_
 rintro _ _ ⟨b5, rfl, rfl⟩
 refine AU (ρ := sng b2 _) takeZ ?_
 refine AU (ρ := sng b3 _) takeZ ?_
 refine AU (ρ := sng b5 _) takeZ ?_
 have ct : RdN (sng b2 (.cells #[.slice pq qs.length kq, .slice pc cs.length kc, .slice pb bs.length kb, .slice ph hs.length kh] 29 (0, 0))) b2 0 [.slice pq qs.length kq, .slice pc cs.length kc, .slice pb bs.length kb, .slice ph hs.length kh] := rdN_sng (vs := [.slice pq qs.length kq, .slice pc cs.length kc, .slice pb bs.length kb, .slice ph hs.length kh])
 have ct0 : rdc (sng b2 (.cells #[.slice pq qs.length kq, .slice pc cs.length kc, .slice pb bs.length kb, .slice ph hs.length kh] 29 (0, 0))) b2 0 = some (.slice pq qs.length kq) := by rw [rdc_sng]; rfl
 have cr : RdN (sng b3 (.cells #[int q.src, int q.dst, int q.size, int q.rdy, int q.dln, int q.pri, .bool q.cus] 31 (0, 0))) b3 0 [int q.src, int q.dst, int q.size, int q.rdy, int q.dln, int q.pri, .bool q.cus] := rdN_sng (vs := [int q.src, int q.dst, int q.size, int q.rdy, int q.dln, int q.pri, .bool q.cus])
 have r1 : rdc (sng b3 (.cells #[int q.src, int q.dst, int q.size, int q.rdy, int q.dln, int q.pri, .bool q.cus] 31 (0, 0))) b3 1 = some (int q.dst) := by rw [rdc_sng]; rfl
 have cx : RdN (sng b5 (.cells #[int x.n, int x.f, int x.t, int x.a] 77 (0, 0))) b5 0 [int x.n, int x.f, int x.t, int x.a] := rdN_sng (vs := [int x.n, int x.f, int x.t, int x.a])
 have x0 : rdc (sng b5 (.cells #[int x.n, int x.f, int x.t, int x.a] 77 (0, 0))) b5 0 = some (int (m : Int)) := by rw [rdc_sng, ← hm]; rfl
 have x1 : rdc (sng b5 (.cells #[int x.n, int x.f, int x.t, int x.a] 77 (0, 0))) b5 1 = some (int x.f) := by rw [rdc_sng]; rfl
 have x2 : rdc (sng b5 (.cells #[int x.n, int x.f, int x.t, int x.a] 77 (0, 0))) b5 2 = some (int x.t) := by rw [rdc_sng]; rfl
 have x3 : rdc (sng b5 (.cells #[int x.n, int x.f, int x.t, int x.a] 77 (0, 0))) b5 3 = some (int x.a) := by rw [rdc_sng]; rfl
 refine AD ?_
 refine AD ?_
 refine AD ?_
 refine AE ?_
 refine AB ?_
 refine AA ?_
 refine AN ?_
 refine AN ?_
 refine B6 hb rfl rfl rdZ rfl rfl ?_
 rintro _ γ ⟨A, rfl, hG⟩
 have hit := fun c1 c2 => moves_iter hG hg c1 c2 x (by omega)
 obtain ⟨bA, pgq, ngq, kgq, pgc, kgc, pg, kg, pr, kr, pd, kd⟩ := A
 obtain ⟨qv, hnq, cv, src, dst, rdy, dln, cus, gv, rv, dv, hcs, gaps, rooms, durs⟩ := hG
 dsimp only at qv hnq cv src dst rdy dln cus gv rv dv hcs gaps rooms durs hit ⊢
 refine AU (ρ := γ) takeZ ?_
 obtain ⟨b1, o1, q1, k1, rfl, hr1, hS⟩ := rooms _ _ hR0
 have hcon := contSp_spec γ _ _ (x.f, x.t) hS (by omega) h2
 dsimp only at hcon
 have hmd : (m : Int) ≠ q.dst := by omega
 generalize G.rooms[m] = R at hr1 hS hcon
 refine AC ?_
 refine AX ?_
 refine AX ?_
 refine AD ?_
 refine AD ?_
 refine AE ?_
 refine AB ?_
 refine AB ?_
 refine AA ?_
 refine AC ?_
 refine BZ ?_
 refine AE ?_
 refine AM rfl ?_
 refine AL ?_
 refine AB ?_
 refine AB ?_
 refine BA (.q 0 (.q 1 (.q 2 (.q 3 (.q 4 (.q 5 (.q 6 (.q 7 (.q 8 (.q 9 (.q 10 (.q 11 (.q 12 (.q 13 (.q 14 (.q 15 (.q 16 (.q 17 (.q 18 (.q 19 (.q 20 (.q 21 (.q 22 (.q 23 (.q 24 (.q 25 (.q 26 (.q 27 (.q 28 (.q 29 (.q 30 (.q 31 (.q 32 (.q 33 (.q 34 (.q 35 (.q 36 (.q 37 (.q 38 (.q 39 (.q 40 (.q 41 (.q 42 (.q 43 (.q 44 (.q 45 (.q 46 (.l 47 .e (.q 48 (.q 49 .nil)))))))))))))))))))))))))))))))))))))))))))))))))) [] rfl (by kernel_rfl) selZ ?_
 refine AW ?_
 refine AP ?_
 refine CP ?_
 refine AS ?_
 refine AW ?_
 refine AP ?_
 refine AW ?_
 refine AW ?_
 refine AP ?_
 refine E4 ?_
 refine D3 ?_
 refine BB ?_
 refine AS ?_
 refine AW ?_
 refine AP ?_
 refine AW ?_
 refine AP ?_
 refine DP ?_
 refine BB ?_
 refine AS ?_
 refine AW ?_
 refine AP ?_
 refine AW ?_
 refine AP ?_
 refine CP ?_
 refine BB ?_
 refine AS ?_
 refine AW ?_
 refine AP ?_
 refine AW ?_
 refine AP ?_
 refine D3 ?_
 refine BB ?_
 refine AS ?_
 refine AS ?_
 refine A6 ?_
 refine AW ?_
 refine AP ?_
 refine AW ?_
 refine AP ?_
 refine C1 ?_
 refine AP ?_
 refine AW ?_
 refine AP ?_
 refine AW ?_
 refine AP ?_
 refine D6 ?_
 refine CJ (BY rfl hcon rfl rfl rdZ rfl rfl ?_)
 rintro _ rfl
 refine CG ?_
 refine BB ?_
 refine A7 ?_
 refine AM rfl ?_
 refine AL ?_
 refine AB ?_
 refine AA ?_
 refine BS ?_; rintro _ _ ⟨b, rfl, rfl⟩
 refine AE ?_
 refine AB ?_
 refine AA ?_
 refine BS ?_; rintro _ _ ⟨b, rfl, rfl⟩
 refine AE ?_
 refine AB ?_
 refine AB ?_
 refine AA ?_
 refine AC ?_
 refine AN ?_
 revert b; intro b12
 revert b; intro b11
 refine BT (moves_spec bA x) rfl rfl takesZ rdZ rfl rfl ?_
 rintro _ _ ⟨c1, c2, rfl, rfl⟩
 simp only [List.cons_append, List.nil_append]
 refine AU (ρ := sng c2 _) takeZ ?_
 refine AU (ρ := sng c1 _) takeZ ?_
 refine CA ?_
 refine CA ?_
 have hml2 := mvs_len hg x
 refine AE ?_
 refine AV ?_
 refine CW (gf := 103) (cap := [.pointer (some ⟨c1, 0, none⟩), .pointer (some ⟨c2, 0, none⟩)]) (ps := [75]) (X := (Value × PH) × (Value × PH)) rfl Tryz.func103 rfl rfl
  (hit c1 c2) ?_ (fun j z => OwnS 77 4 z.1.1 (((mvs G x).take j).map (·.1)).length ((((mvs G x).take j).map (·.1)).flatMap encL) z.1.2 ∧ OwnS 135 4 z.2.1 (((mvs G x).take j).map (·.2)).length ((((mvs G x).take j).map (·.2)).flatMap encHp) z.2.2) (fun z => [sng b11 (.cells #[z.1.1] 41 (0, 0)), sng b12 (.cells #[z.2.1] 146 (0, 0)), z.1.2, z.2.2]) (fun _ _ => False) ((.slice none 0 0, emp), (.slice none 0 0, emp)) rfl takesZ ⟨OwnS.nil _ _, OwnS.nil _ _⟩ ?_ ?_ ?_
 ·intro σ' hσ
  simp only [List.mem_cons, List.not_mem_nil, or_false] at hσ ⊢
  rcases hσ with h | h | h | h <;> simp [h]
 ·rintro lo r j ⟨⟨v1, σ1⟩, ⟨v2, σ2⟩⟩ vs hvs ⟨hO1, hO2⟩ hps has hbd hst hpe hfr
  dsimp only at hO1 hO2 ⊢
  have hv1 := oneO _ _ _ _ hO1
  have hv2 := oneO _ _ _ _ hO2
  obtain ⟨st, pe, fnn, tm, prm, asg, bdy, df⟩ := r
  simp only at hps has hbd hst hpe hfr
  subst hps has hbd hst hpe
  rw [List.getElem?_map] at hvs
  obtain ⟨mm, hmm, rfl⟩ := Option.map_eq_some_iff.1 hvs
  have hjl := (List.getElem?_eq_some_iff.1 hmm).1
  have n1 : ((mvs G x).take (j + 1)).map (·.1) = ((mvs G x).take j).map (·.1) ++ [mm.1] := by rw [List.take_add_one, hmm, List.map_append]; rfl
  have n2 : ((mvs G x).take (j + 1)).map (·.2) = ((mvs G x).take j).map (·.2) ++ [mm.2] := by rw [List.take_add_one, hmm, List.map_append]; rfl
  have l1 : (((mvs G x).take j).map (·.1)).length ≤ 770 := by rw [List.length_map, List.length_take]; omega
  have l2 : (((mvs G x).take j).map (·.2)).length ≤ 770 := by rw [List.length_map, List.length_take]; omega
  generalize ((mvs G x).take j).map (·.1) = Q1 at hO1 n1 l1
  generalize ((mvs G x).take j).map (·.2) = Q2 at hO2 n2 l2
  refine yield_spec hfr rfl (by intro p hp; simp at hp; omega) putiZ (fun N' β' => ?_)
  unfold encM
  obtain ⟨⟨mn, mf, mt, ma⟩, ⟨hc0, hb0, he0, ha0⟩⟩ := mm
  dsimp only
  refine AA ?_
  refine A4 ?_; rintro _ _ ⟨b, rfl, rfl⟩
  refine A2 ?_; rintro _ _ ⟨rfl, rfl⟩
  refine AE ?_
  revert b; intro b13
  refine CN rfl rfl ?_
  refine CV takeZ rfl ?_
  refine AU (ρ := sng b13 _) takeZ ?_
  have p0 : RdP (sng b13 (.cells #[int mn, int mf, int mt, int ma, int hc0, int hb0, int he0, int ha0] 137 (0, 0))) b13 0 [int mn, int mf, int mt, int ma] := rdP_sng (xs := [int mn, int mf, int mt, int ma, int hc0, int hb0, int he0, int ha0]) rfl
  have p4 : RdP (sng b13 (.cells #[int mn, int mf, int mt, int ma, int hc0, int hb0, int he0, int ha0] 137 (0, 0))) b13 4 [int hc0, int hb0, int he0, int ha0] := rdP_sng (xs := [int mn, int mf, int mt, int ma, int hc0, int hb0, int he0, int ha0]) rfl
  refine AV ?_
  refine FM (ρ := sng lo _) takeZ (X := (Value × PH) × (Value × PH)) [11, 12] (fun y => OwnS 77 4 y.1.1 (Q1 ++ [(⟨mn, mf, mt, ma⟩ : Lb)]).length ((Q1 ++ [(⟨mn, mf, mt, ma⟩ : Lb)]).flatMap encL) y.1.2 ∧ OwnS 135 4 y.2.1 (Q2 ++ [(⟨hc0, hb0, he0, ha0⟩ : Hp)]).length ((Q2 ++ [(⟨hc0, hb0, he0, ha0⟩ : Hp)]).flatMap encHp) y.2.2) (fun _ => []) (fun y => [sng b11 (.cells #[y.1.1] 41 (0, 0)), sng b12 (.cells #[y.2.1] 146 (0, 0)), y.1.2, y.2.2]) pickZ ?_ ?_
  ·refine BA (.q 0 (.q 1 (.q 2 (.p 5 (.p 6 (.p 7 (.l2 3 .e (.l2 4 .b (.l 8 .e (.l 9 .b (.l 10 .b (.l 11 .b .nil)))) 8 .e (.l 4 .b (.l 9 .b (.l 10 .b (.l 11 .b .nil))))) 8 .e (.l 3 .e (.l 4 .b (.l 9 .b (.l 10 .b (.l 11 .b .nil)))))))))))) [sng b12 _] rfl (by kernel_rfl) selZ ?_
   repeat' (first
    | (refine AP ?_)
    | (refine AW ?_)
    | (refine BL ?_)
    | (refine EL ?_)
    | (refine EM ?_)
    | (refine EX ?_)
    | (refine FD ?_ ?_)
    | (refine B0 ?_; rintro _ _ ⟨b, rfl, rfl⟩)
    | (refine CY ?_; rintro _ _ ⟨b, rfl, rfl⟩)
    | fail)
   all_goals (try refine CJ ?_)
   all_goals (refine' a_b rfl _ rfl rfl rfl _ _; rotate_left; (focus (exact B5 (by_ := 32) (s := 4) (news := [int mn, int mf, int mt, int ma]) rfl rfl rfl rfl rfl rfl rfl hO1 takeZ (cells_own memZ) rfl (by (repeat (first | exact (fun v hv => absurd hv List.not_mem_nil) | (refine List.forall_mem_cons.2 ⟨?_, ?_⟩; (focus (first | exact rfl | assumption))))); first | done | fail) (by omega) (by simp only [maxLen]; omega) (by omega))); (focus (rintro _ _ ⟨_, _, rfl⟩ w hw; exact hw.sel selZ)); rintro q1 _ ⟨ρ1, hQ1, rfl⟩)
   all_goals have g1 := oneO _ _ _ _ hQ1
   repeat' (first
    | (refine B0 ?_; rintro _ _ ⟨b, rfl, rfl⟩)
    | fail)
   all_goals (refine CJ ?_; refine' a_b rfl _ rfl rfl rfl _ _; rotate_left; (focus (exact B5 (by_ := 32) (s := 4) (news := [int hc0, int hb0, int he0, int ha0]) rfl rfl rfl rfl rfl rfl rfl hO2 takeZ (cells_own memZ) rfl (by (repeat (first | exact (fun v hv => absurd hv List.not_mem_nil) | (refine List.forall_mem_cons.2 ⟨?_, ?_⟩; (focus (first | exact rfl | assumption))))); first | done | fail) (by omega) (by simp only [maxLen]; omega) (by omega))); (focus (rintro _ _ ⟨_, _, rfl⟩ w hw; exact hw.sel selZ)); rintro q2 _ ⟨ρ2, hQ2, rfl⟩)
   all_goals have g2 := oneO _ _ _ _ hQ2
   repeat' (first
    | (refine CK ?_; rintro _ _ ⟨rfl, rfl⟩)
    | fail)
   all_goals (refine CJ ?_; refine' EP rfl _ rfl (.inr ⟨rfl, rfl⟩) (by kernel_rfl) (Hf' := []) _ _; rotate_left; (focus (apply C5; exact rfl; exact rfl; exact g2; exact rfl; exact takeZ; (focus (repeat (first | exact SetL.here | apply SetL.there)); done))); (focus (rintro _ _ ⟨_, rfl⟩ w hw; exact hw.sel selZ)); rintro _ _ ⟨rfl, rfl⟩)
   repeat' (first
    | (refine A7 ?_)
    | fail)
   all_goals exact DG ((q1, ρ1), (q2, ρ2)) ⟨by rw [List.length_append, List.flatMap_append]; exact hQ1, by rw [List.length_append, List.flatMap_append]; exact hQ2⟩ covZ selZ
  rintro ⟨⟨q1, ρ1⟩, ⟨q2, ρ2⟩⟩ ⟨hQ1, hQ2⟩
  dsimp only at hQ1 hQ2 ⊢
  refine A8 ?_
  refine B3 takeZ rsubZ selZ ⟨((q1, ρ1), (q2, ρ2)), .inl ⟨rfl, ⟨?_, ?_⟩, rfl⟩⟩
  ·dsimp only
   rw [n1]; exact hQ1
  ·dsimp only
   rw [n2]; exact hQ2
 ·rintro bm ⟨⟨v1, σ1⟩, ⟨v2, σ2⟩⟩ ⟨hO1, hO2⟩
  dsimp only at hO1 hO2 ⊢
  have hlm : ((mvs G x).map (fun m => [Value.agg (encM m).toArray])).length = (mvs G x).length := List.length_map _
  rw [hlm, List.take_length] at hO1 hO2
  simp only [List.cons_append, List.nil_append]
  refine A8 ?_
  refine AB ?_
  refine BA (.q 0 (.q 1 (.q 2 (.q 3 (.q 4 .nil))))) [] rfl (by kernel_rfl) selZ ?_
  refine AP ?_
  refine AP ?_
  refine B7 ?_
  refine B7 ?_
  refine B7 ?_
  refine A7 ?_
  skip
  refine C8 (ρ := σ1) (σ := σ2) takeZ takeZ (fun δ s1 s2 => ?_)
  exact EH (Marks.cons takeZ .nil) (res3 rfl rfl rfl rfl) rsubZ selZ ⟨δ, ⟨v1, v2, rfl, s1.slE hO1.at, s2.slE hO2.at⟩, rfl⟩
 ·rintro bm cc o' hf
  exact hf.elim
end
end Go.Proofs.YtijheemiknkleaaGreatDoor
/- Barriers: checking, the beginning, covering labels, Make. -/
namespace Go.Proofs.YtijheemiknkleaaGreatDoor
open Go.Eng Go.Step
set_option maxRecDepth 100000
set_option maxHeartbeats 4000000

section
variable {ρ τ σ υ : PH} {pq pc pb ph : Option Addr} {kq kc kb kh : Nat} {qs : List Int} {cs : List Ct} {bs : List Bk} {hs : List Hd} {q : Rq}
theorem barCheck_spec (hT : TbAt ρ τ σ υ pq pc pb ph kq kc kb kh qs cs bs hs) (hK : TOK qs cs bs hs q) :
  Ans Tryz.prog (fv 22) [.agg #[.slice pq qs.length kq, .slice pc cs.length kc, .slice pb bs.length kb, .slice ph hs.length kh], .agg #[int q.src, int q.dst, int q.size, int q.rdy, int q.dln, int q.pri, .bool q.cus]] [ρ, τ, σ, υ] (fun r => r = int 0) := by
 obtain ⟨hp, hb0, hh⟩ := chkT_ok hK.t
 have hct := chkTab_spec hT
 rw [hK.t] at hct
 have hcr := creq_spec (q := q) hT.hq hT.hc hT.hcap hT.lq hT.lc hp hK.q
 refine spec_in (cap := []) Tryz.func22 rfl rfl Tryz.ntmps22 rfl envZ (fun N β => ?_)
 refine AB ?_
 refine AA ?_
 refine BF (BC rfl) rfl rfl rfl ?_
 rintro _ _ ⟨b2, rfl, rfl⟩
 refine BF (BC rfl) rfl rfl rfl ?_
 rintro _ _ ⟨b3, rfl, rfl⟩
 refine AU (ρ := sng b2 _) takeZ ?_
 refine AU (ρ := sng b3 _) takeZ ?_
 have ct : RdN (sng b2 (.cells #[.slice pq qs.length kq, .slice pc cs.length kc, .slice pb bs.length kb, .slice ph hs.length kh] 29 (0, 0))) b2 0 [.slice pq qs.length kq, .slice pc cs.length kc, .slice pb bs.length kb, .slice ph hs.length kh] := rdN_sng (vs := [.slice pq qs.length kq, .slice pc cs.length kc, .slice pb bs.length kb, .slice ph hs.length kh])
 have ct0 : rdc (sng b2 (.cells #[.slice pq qs.length kq, .slice pc cs.length kc, .slice pb bs.length kb, .slice ph hs.length kh] 29 (0, 0))) b2 0 = some (.slice pq qs.length kq) := by rw [rdc_sng]; rfl
 have ctp : RdP (sng b2 (.cells #[.slice pq qs.length kq, .slice pc cs.length kc, .slice pb bs.length kb, .slice ph hs.length kh] 29 (0, 0))) b2 0 [.slice pq qs.length kq, .slice pc cs.length kc] := rdP_sng (xs := [.slice pq qs.length kq, .slice pc cs.length kc, .slice pb bs.length kb, .slice ph hs.length kh]) rfl
 have cr : RdN (sng b3 (.cells #[int q.src, int q.dst, int q.size, int q.rdy, int q.dln, int q.pri, .bool q.cus] 31 (0, 0))) b3 0 [int q.src, int q.dst, int q.size, int q.rdy, int q.dln, int q.pri, .bool q.cus] := rdN_sng (vs := [int q.src, int q.dst, int q.size, int q.rdy, int q.dln, int q.pri, .bool q.cus])
 refine AD ?_
 refine AE ?_
 refine AB ?_
 refine AB ?_
 refine AA ?_
 refine AN ?_
 refine A3 hct rfl rfl rdZ rfl rfl ?_
 rintro _ rfl
 refine BG ?_
 refine AC ?_
 refine AG ?_
 refine AN ?_
 refine AN ?_
 refine A3 hcr rfl rfl rdZ rfl rfl ?_
 rintro _ rfl
 refine BG ?_
 refine AK ?_
 refine AE ?_
 refine AM rfl ?_
 refine AL ?_
 refine AB ?_
 refine AA ?_
 refine AD ?_
 refine AE ?_
 exact AI (res1 rfl rfl) rsubZ selZ ⟨rfl, rfl⟩
theorem begin_spec (hT : TbAt ρ τ σ υ pq pc pb ph kq kc kb kh qs cs bs hs) (hK : TOK qs cs bs hs q) :
  Ans Tryz.prog (fv 62) [.agg #[.slice pq qs.length kq, .slice pc cs.length kc, .slice pb bs.length kb, .slice ph hs.length kh], .agg #[int q.src, int q.dst, int q.size, int q.rdy, int q.dln, int q.pri, .bool q.cus]] [ρ, τ, σ, υ] (fun r => (∃ x : Lb, x ∈ begs (grOf qs cs bs hs q) ∧ r = .tuple #[.agg #[int x.n, int x.f, int x.t, int x.a], .bool true]) ∨ r = .tuple #[.agg #[int 0, int 0, int 0, int 0], .bool false]) := by
 obtain ⟨hp, hb0, hh⟩ := chkT_ok hK.t
 have hg := grOf_ok hK
 have hqq := hK.q
 obtain ⟨m, hm⟩ := Int.eq_ofNat_of_zero_le hqq.1.1
 have hml : m < qs.length := by have := hqq.1.2.1; omega
 have hfr := free_spec ρ τ υ pq pc kq kc qs cs _ hs q.src q.size hT.hq hT.hc hT.hcap hT.lq hT.lc hT.hh hT.lh
 have hfe : freeRes qs cs hs q.src q.size = (freeP (qs.getD m 0) q.size (lvH hs m), 0) := by
  have h1 := hqq.2.2.1
  unfold freeRes
  rw [if_neg (by simp [hh]), if_neg (by omega), hm, Int.toNat_natCast]
 rw [hfe] at hfr
 dsimp only at hfr
 have hR0 : (grOf qs cs bs hs q).rooms[m]? = some (freeP (qs.getD m 0) q.size (lvH hs m)) := by
  show ((List.range qs.length).map (fun n : Nat => freeP (qs.getD n 0) q.size (lvH hs n)))[m]? = _
  rw [List.getElem?_map, List.getElem?_range hml]; rfl
 have hbeg : ∀ p ∈ freeP (qs.getD m 0) q.size (lvH hs m), p.1 ≤ q.rdy → q.rdy < p.2 → (⟨q.src, p.1, p.2, q.rdy⟩ : Lb) ∈ begs (grOf qs cs bs hs q) := fun p hpm h1 h2 => by
  unfold begs
  rw [List.mem_map]
  refine ⟨p, List.mem_filter.2 ⟨?_, by rw [Bool.and_eq_true, decide_eq_true_eq, decide_eq_true_eq]; exact ⟨h1, h2⟩⟩, rfl⟩
  show p ∈ (grOf qs cs bs hs q).rooms.getD q.src.toNat []
  rw [hm, Int.toNat_natCast, List.getD_eq_getElem?_getD, hR0]
  exact hpm
 have hRl := (hg.room _ (List.mem_of_getElem? hR0)).1
 generalize freeP (qs.getD m 0) q.size (lvH hs m) = R at hfr hbeg hRl
 refine spec_in (cap := []) Tryz.func62 rfl rfl Tryz.ntmps62 rfl envZ (fun N β => ?_)
 refine AB ?_
 refine AA ?_
 refine BF (BC rfl) rfl rfl rfl ?_
 rintro _ _ ⟨b2, rfl, rfl⟩
 refine BF (BC rfl) rfl rfl rfl ?_
 rintro _ _ ⟨b3, rfl, rfl⟩
 refine AU (ρ := sng b2 _) takeZ ?_
 refine AU (ρ := sng b3 _) takeZ ?_
 have ctp : RdP (sng b2 (.cells #[.slice pq qs.length kq, .slice pc cs.length kc, .slice pb bs.length kb, .slice ph hs.length kh] 29 (0, 0))) b2 0 [.slice pq qs.length kq, .slice pc cs.length kc] := rdP_sng (xs := [.slice pq qs.length kq, .slice pc cs.length kc, .slice pb bs.length kb, .slice ph hs.length kh]) rfl
 have ct3 : rdc (sng b2 (.cells #[.slice pq qs.length kq, .slice pc cs.length kc, .slice pb bs.length kb, .slice ph hs.length kh] 29 (0, 0))) b2 3 = some (.slice ph hs.length kh) := by rw [rdc_sng]; rfl
 have r0 : rdc (sng b3 (.cells #[int q.src, int q.dst, int q.size, int q.rdy, int q.dln, int q.pri, .bool q.cus] 31 (0, 0))) b3 0 = some (int q.src) := by rw [rdc_sng]; rfl
 have r2 : rdc (sng b3 (.cells #[int q.src, int q.dst, int q.size, int q.rdy, int q.dln, int q.pri, .bool q.cus] 31 (0, 0))) b3 2 = some (int q.size) := by rw [rdc_sng]; rfl
 have r3 : rdc (sng b3 (.cells #[int q.src, int q.dst, int q.size, int q.rdy, int q.dln, int q.pri, .bool q.cus] 31 (0, 0))) b3 3 = some (int q.rdy) := by rw [rdc_sng]; rfl
 refine A4 ?_; rintro _ _ ⟨b, rfl, rfl⟩
 refine AD ?_
 refine AE ?_
 refine AB ?_
 refine AA ?_
 refine AG ?_
 refine AN ?_
 refine AG ?_
 refine AF ?_
 refine AG ?_
 refine AF ?_
 refine AG ?_
 refine AF ?_
 revert b; intro b4
 refine B6 hfr rfl rfl rdZ rfl rfl ?_
 rintro _ χ ⟨u, rfl, hO⟩
 refine AU (ρ := χ) takeZ ?_
 obtain ⟨pu, ku, rfl, hrw⟩ := SlE.val (enc := encS) encS_len (show SlE encS 2 χ u R from hO.at)
 refine AC ?_
 refine AX ?_
 refine AX ?_
 refine AD ?_
 refine AD ?_
 refine AE ?_
 refine AB ?_
 refine AB ?_
 refine AA ?_
 refine AC ?_
 refine AY ?_
 refine AC ?_
 refine AE ?_
 refine AV ?_
 refine BM [3, 4, 22, 23] (0 : Nat) (fun k => k ≤ R.length) (fun k => [(24, int k)]) (fun _ => [sng b4 (.cells #[int 0, int 0, int 0, int 0] 77 (0, 0))]) (fun k => R.length - k) pickZ (by omega) covZ selZ ?_
 rintro k hk
 by_cases hlt : k < R.length
 ·have hx := List.getElem?_eq_getElem hlt
  have hbg := hbeg _ (List.mem_of_getElem? hx)
  obtain ⟨b6, o6, rfl, hRd6, y0, y1⟩ := spRow hrw hx
  generalize R[k] = p at hx hbg hRd6 y0 y1
  by_cases c1 : p.1 ≤ q.rdy
  ·by_cases c2 : q.rdy < p.2
   ·refine AB ?_
    refine AA ?_
    refine BI ?_
    refine AE ?_
    refine AB ?_
    refine AQ rfl ?_
    refine AL ?_
    refine AB ?_
    refine AV ?_
    refine AB ?_
    refine AA ?_
    refine A9 ?_
    refine AN ?_
    refine A4 ?_; rintro _ _ ⟨b, rfl, rfl⟩
    refine A2 ?_; rintro _ _ ⟨rfl, rfl⟩
    refine AE ?_
    refine AB ?_
    refine AA ?_
    refine AG ?_
    refine AF ?_
    refine AG ?_
    refine AF ?_
    refine C3 ?_
    refine AC ?_
    refine AG ?_
    refine AF ?_
    refine AG ?_
    refine AF ?_
    refine BI ?_
    refine AT ?_
    refine AE ?_
    refine AQ rfl ?_
    refine AB ?_
    refine AA ?_
    refine AG ?_
    refine AF ?_
    refine AG ?_
    refine AF ?_
    refine AG ?_
    refine AF ?_
    refine AG ?_
    refine AF ?_
    refine CC ?_
    refine A2 ?_; rintro _ _ ⟨rfl, rfl⟩
    refine AD ?_
    refine AE ?_
    exact AI (resSE (b1 := b4) (T := 77) (v1 := [int q.src, int p.1, int p.2, int q.rdy]) rfl rfl rfl rfl rfl (cells_own memZ)) rsubZ selZ ⟨rfl, .inl ⟨_, hbg c1 c2, rfl⟩⟩
   ·refine AB ?_
    refine AA ?_
    refine BI ?_
    refine AE ?_
    refine AB ?_
    refine AQ rfl ?_
    refine AL ?_
    refine AB ?_
    refine AV ?_
    refine AB ?_
    refine AA ?_
    refine A9 ?_
    refine AN ?_
    refine A4 ?_; rintro _ _ ⟨b, rfl, rfl⟩
    refine A2 ?_; rintro _ _ ⟨rfl, rfl⟩
    refine AE ?_
    refine AB ?_
    refine AA ?_
    refine AG ?_
    refine AF ?_
    refine AG ?_
    refine AF ?_
    refine C3 ?_
    refine AC ?_
    refine AG ?_
    refine AF ?_
    refine AG ?_
    refine AF ?_
    refine AZ ?_
    refine AT ?_
    refine AE ?_
    refine AM rfl ?_
    refine AL ?_
    refine A8 ?_
    refine AA ?_
    refine BD ?_
    refine AC ?_
    refine AE ?_
    exact A5 (k + 1) (by omega) (by omega) covZ selZ
  ·refine AB ?_
   refine AA ?_
   refine BI ?_
   refine AE ?_
   refine AB ?_
   refine AQ rfl ?_
   refine AL ?_
   refine AB ?_
   refine AV ?_
   refine AB ?_
   refine AA ?_
   refine A9 ?_
   refine AN ?_
   refine A4 ?_; rintro _ _ ⟨b, rfl, rfl⟩
   refine A2 ?_; rintro _ _ ⟨rfl, rfl⟩
   refine AE ?_
   refine AB ?_
   refine AA ?_
   refine AG ?_
   refine AF ?_
   refine AG ?_
   refine AF ?_
   refine C4 ?_
   refine AC ?_
   refine AJ rfl rfl rfl ?_
   refine AJ rfl rfl rfl ?_
   refine AJ rfl rfl rfl ?_
   refine AJ rfl rfl rfl ?_
   refine AJ rfl rfl rfl ?_
   refine AK ?_
   refine AE ?_
   refine AM rfl ?_
   refine AL ?_
   refine A8 ?_
   refine AA ?_
   refine BD ?_
   refine AC ?_
   refine AE ?_
   exact A5 (k + 1) (by omega) (by omega) covZ selZ
 have hke : k = R.length := by omega
 subst hke
 refine AB ?_
 refine AA ?_
 refine AZ ?_
 refine AE ?_
 refine AB ?_
 refine AM rfl ?_
 refine BE rfl ?_
 refine AB ?_
 refine AA ?_
 refine CC ?_
 refine A2 ?_; rintro _ _ ⟨rfl, rfl⟩
 refine AD ?_
 refine AE ?_
 exact AI (resSE (b1 := b4) (T := 77) (v1 := [int 0, int 0, int 0, int 0]) rfl rfl rfl rfl rfl (cells_own memZ)) rsubZ selZ ⟨rfl, .inr rfl⟩
theorem makeBar_spec (hT : TbAt ρ τ σ υ pq pc pb ph kq kc kb kh qs cs bs hs) (hK : TOK qs cs bs hs q) :
  Makes Tryz.prog (fv 8) [.agg #[.slice pq qs.length kq, .slice pc cs.length kc, .slice pb bs.length kb, .slice ph hs.length kh], .agg #[int q.src, int q.dst, int q.size, int q.rdy, int q.dln, int q.pri, .bool q.cus]] [ρ, τ, σ, υ] (fun r χ => (∃ L1 a, LabR (grOf qs cs bs hs q) L1 ∧ arrR (grOf qs cs bs hs q) L1 = some a ∧ r = .tuple #[.slice none 0 0, int 6]) ∨ (∃ L1 L u, LabR (grOf qs cs bs hs q) L1 ∧ arrR (grOf qs cs bs hs q) L1 = none ∧ LabR (grOf qs cs bs hs q) L ∧ r = .tuple #[u, int 0] ∧ OwnS 77 4 u L.length (L.flatMap encL) χ)) := by
 have hck := barCheck_spec hT hK
 have har := srchArr_spec hT hK
 have hla := lab_spec hT hK
 generalize grOf qs cs bs hs q = G at har hla ⊢
 refine spec_in (cap := []) Tryz.func8 rfl rfl Tryz.ntmps8 rfl envZ (fun N β => ?_)
 refine AB ?_
 refine AA ?_
 refine BF (BC rfl) rfl rfl rfl ?_
 rintro _ _ ⟨b2, rfl, rfl⟩
 refine BF (BC rfl) rfl rfl rfl ?_
 rintro _ _ ⟨b3, rfl, rfl⟩
 refine AU (ρ := sng b2 _) takeZ ?_
 refine AU (ρ := sng b3 _) takeZ ?_
 have ct : RdN (sng b2 (.cells #[.slice pq qs.length kq, .slice pc cs.length kc, .slice pb bs.length kb, .slice ph hs.length kh] 29 (0, 0))) b2 0 [.slice pq qs.length kq, .slice pc cs.length kc, .slice pb bs.length kb, .slice ph hs.length kh] := rdN_sng (vs := [.slice pq qs.length kq, .slice pc cs.length kc, .slice pb bs.length kb, .slice ph hs.length kh])
 have cr : RdN (sng b3 (.cells #[int q.src, int q.dst, int q.size, int q.rdy, int q.dln, int q.pri, .bool q.cus] 31 (0, 0))) b3 0 [int q.src, int q.dst, int q.size, int q.rdy, int q.dln, int q.pri, .bool q.cus] := rdN_sng (vs := [int q.src, int q.dst, int q.size, int q.rdy, int q.dln, int q.pri, .bool q.cus])
 refine CA ?_
 refine AD ?_
 refine AD ?_
 refine AE ?_
 refine AB ?_
 refine AB ?_
 refine AA ?_
 refine AN ?_
 refine AN ?_
 refine A3 hck rfl rfl rdZ rfl rfl ?_
 rintro _ rfl
 refine AD ?_
 refine AE ?_
 refine AB ?_
 refine AA ?_
 refine AC ?_
 refine BG ?_
 refine AE ?_
 refine AM rfl ?_
 refine AL ?_
 refine AB ?_
 refine AB ?_
 refine AA ?_
 refine AN ?_
 refine AN ?_
 refine A3 har rfl rfl rdZ rfl rfl ?_
 rintro _ ⟨L1, hL1, ⟨a, ha, rfl⟩ | ⟨ha, rfl⟩⟩
 ·refine AC ?_
  refine AX ?_
  refine AX ?_
  refine AD ?_
  refine AD ?_
  refine AE ?_
  refine AB ?_
  refine AA ?_
  refine AC ?_
  refine CB ?_
  refine AE ?_
  refine AQ rfl ?_
  refine AB ?_
  refine AA ?_
  refine AD ?_
  refine AD ?_
  refine AE ?_
  exact AI (res2 rfl rfl rfl) rsubZ selZ ⟨emp, .inl ⟨L1, a, hL1, ha, rfl⟩, rfl⟩
 ·refine AC ?_
  refine AX ?_
  refine AX ?_
  refine AD ?_
  refine AD ?_
  refine AE ?_
  refine AB ?_
  refine AA ?_
  refine AC ?_
  refine B4 ?_
  refine AE ?_
  refine AM rfl ?_
  refine AL ?_
  refine AB ?_
  refine AA ?_
  refine AN ?_
  refine AN ?_
  refine B6 hla rfl rfl rdZ rfl rfl ?_
  rintro _ χ ⟨L, u, hL, rfl, hO⟩
  refine AX ?_
  refine AX ?_
  refine AD ?_
  refine AD ?_
  refine AE ?_
  exact AI (res2 rfl rfl rfl) rsubZ selZ ⟨χ, .inr ⟨L1, L, u, hL1, ha, hL, rfl, hO⟩, rfl⟩
end
theorem cov0_spec (p : Option Addr) (n c : Nat) : Eng.Spec Tryz.prog (fv 25) [.slice p n c] [] [] (fun r H' => ∃ c1, r = .func (.func 63) #[] #[.pointer (some ⟨c1, 0, none⟩)] ∧ H' = [sng c1 (.cells #[.slice p n c] 41 (0, 0))]) := by
 refine spec_in (cap := []) Tryz.func25 rfl rfl Tryz.ntmps25 rfl envZ (fun N β => ?_)
 refine AB ?_
 refine AA ?_
 refine BF (C7 rfl rfl) rfl rfl rfl ?_
 rintro _ _ ⟨c1, rfl, rfl⟩
 refine AD ?_
 refine AE ?_
 refine AB ?_
 refine AA ?_
 refine BX ?_
 refine AD ?_
 refine AE ?_
 exact AI (res1 rfl rfl) rsubZ selZ ⟨c1, rfl, rfl⟩
theorem cov2_spec (b1 : Nat) (x y : Lb) : Ans Tryz.prog (.func (.func 64) #[] #[.pointer (some ⟨b1, 0, none⟩)]) [.agg #[int y.n, int y.f, int y.t, int y.a]] [sng b1 (.cells #[int x.n, int x.f, int x.t, int x.a] 77 (0, 0))] (fun r => r = .bool (decide (y.n = x.n ∧ y.f = x.f ∧ y.t = x.t ∧ y.a ≤ x.a))) := by
 have x0 : rdc (sng b1 (.cells #[int x.n, int x.f, int x.t, int x.a] 77 (0, 0))) b1 0 = some (int x.n) := by rw [rdc_sng]; rfl
 have x1 : rdc (sng b1 (.cells #[int x.n, int x.f, int x.t, int x.a] 77 (0, 0))) b1 1 = some (int x.f) := by rw [rdc_sng]; rfl
 have x2 : rdc (sng b1 (.cells #[int x.n, int x.f, int x.t, int x.a] 77 (0, 0))) b1 2 = some (int x.t) := by rw [rdc_sng]; rfl
 have x3 : rdc (sng b1 (.cells #[int x.n, int x.f, int x.t, int x.a] 77 (0, 0))) b1 3 = some (int x.a) := by rw [rdc_sng]; rfl
 refine spec_in (cap := [.pointer (some ⟨b1, 0, none⟩)]) Tryz.func64 rfl rfl Tryz.ntmps64 rfl envZ (fun N β => ?_)
 by_cases h1 : y.n = x.n
 rotate_left
 ·rw [decide_eq_false (fun h => h1 h.1)]
  refine AB ?_
  refine AA ?_
  refine BQ ?_; rintro _ _ ⟨b, rfl, rfl⟩
  refine AD ?_
  refine AE ?_
  refine AB ?_
  refine AA ?_
  refine AG ?_
  refine AF ?_
  refine AG ?_
  refine AF ?_
  refine B4 ?_
  refine AC ?_
  refine AJ rfl rfl rfl ?_
  refine AJ rfl rfl rfl ?_
  refine AJ rfl rfl rfl ?_
  refine AJ rfl rfl rfl ?_
  refine AJ rfl rfl rfl ?_
  refine AK ?_
  refine AC ?_
  refine AJ rfl rfl rfl ?_
  refine AJ rfl rfl rfl ?_
  refine AJ rfl rfl rfl ?_
  refine AJ rfl rfl rfl ?_
  refine AJ rfl rfl rfl ?_
  refine AK ?_
  refine AC ?_
  refine AJ rfl rfl rfl ?_
  refine AJ rfl rfl rfl ?_
  refine AJ rfl rfl rfl ?_
  refine AJ rfl rfl rfl ?_
  refine AJ rfl rfl rfl ?_
  refine AK ?_
  refine AD ?_
  refine AE ?_
  exact AI (res1 rfl rfl) rsubZ selZ ⟨rfl, rfl⟩
 by_cases h2 : y.f = x.f
 rotate_left
 ·rw [decide_eq_false (fun h => h2 h.2.1)]
  refine AB ?_
  refine AA ?_
  refine BQ ?_; rintro _ _ ⟨b, rfl, rfl⟩
  refine AD ?_
  refine AE ?_
  refine AB ?_
  refine AA ?_
  refine AG ?_
  refine AF ?_
  refine AG ?_
  refine AF ?_
  refine CB ?_
  refine AC ?_
  refine AG ?_
  refine AF ?_
  refine AG ?_
  refine AF ?_
  refine B4 ?_
  refine AT ?_
  refine AC ?_
  refine AJ rfl rfl rfl ?_
  refine AJ rfl rfl rfl ?_
  refine AJ rfl rfl rfl ?_
  refine AJ rfl rfl rfl ?_
  refine AJ rfl rfl rfl ?_
  refine AK ?_
  refine AC ?_
  refine AJ rfl rfl rfl ?_
  refine AJ rfl rfl rfl ?_
  refine AJ rfl rfl rfl ?_
  refine AJ rfl rfl rfl ?_
  refine AJ rfl rfl rfl ?_
  refine AK ?_
  refine AD ?_
  refine AE ?_
  exact AI (res1 rfl rfl) rsubZ selZ ⟨rfl, rfl⟩
 by_cases h3 : y.t = x.t
 rotate_left
 ·rw [decide_eq_false (fun h => h3 h.2.2.1)]
  refine AB ?_
  refine AA ?_
  refine BQ ?_; rintro _ _ ⟨b, rfl, rfl⟩
  refine AD ?_
  refine AE ?_
  refine AB ?_
  refine AA ?_
  refine AG ?_
  refine AF ?_
  refine AG ?_
  refine AF ?_
  refine CB ?_
  refine AC ?_
  refine AG ?_
  refine AF ?_
  refine AG ?_
  refine AF ?_
  refine CB ?_
  refine AT ?_
  refine AC ?_
  refine AG ?_
  refine AF ?_
  refine AG ?_
  refine AF ?_
  refine B4 ?_
  refine AT ?_
  refine AC ?_
  refine AJ rfl rfl rfl ?_
  refine AJ rfl rfl rfl ?_
  refine AJ rfl rfl rfl ?_
  refine AJ rfl rfl rfl ?_
  refine AJ rfl rfl rfl ?_
  refine AK ?_
  refine AD ?_
  refine AE ?_
  exact AI (res1 rfl rfl) rsubZ selZ ⟨rfl, rfl⟩
 by_cases h4 : y.a ≤ x.a
 ·rw [decide_eq_true ⟨h1, h2, h3, h4⟩]
  refine AB ?_
  refine AA ?_
  refine BQ ?_; rintro _ _ ⟨b, rfl, rfl⟩
  refine AD ?_
  refine AE ?_
  refine AB ?_
  refine AA ?_
  refine AG ?_
  refine AF ?_
  refine AG ?_
  refine AF ?_
  refine CB ?_
  refine AC ?_
  refine AG ?_
  refine AF ?_
  refine AG ?_
  refine AF ?_
  refine CB ?_
  refine AT ?_
  refine AC ?_
  refine AG ?_
  refine AF ?_
  refine AG ?_
  refine AF ?_
  refine CB ?_
  refine AT ?_
  refine AC ?_
  refine AG ?_
  refine AF ?_
  refine AG ?_
  refine AF ?_
  refine C3 ?_
  refine AT ?_
  refine AD ?_
  refine AE ?_
  exact AI (res1 rfl rfl) rsubZ selZ ⟨rfl, rfl⟩
 ·rw [decide_eq_false (fun h => h4 h.2.2.2)]
  refine AB ?_
  refine AA ?_
  refine BQ ?_; rintro _ _ ⟨b, rfl, rfl⟩
  refine AD ?_
  refine AE ?_
  refine AB ?_
  refine AA ?_
  refine AG ?_
  refine AF ?_
  refine AG ?_
  refine AF ?_
  refine CB ?_
  refine AC ?_
  refine AG ?_
  refine AF ?_
  refine AG ?_
  refine AF ?_
  refine CB ?_
  refine AT ?_
  refine AC ?_
  refine AG ?_
  refine AF ?_
  refine AG ?_
  refine AF ?_
  refine CB ?_
  refine AT ?_
  refine AC ?_
  refine AG ?_
  refine AF ?_
  refine AG ?_
  refine AF ?_
  refine C4 ?_
  refine AT ?_
  refine AD ?_
  refine AE ?_
  exact AI (res1 rfl rfl) rsubZ selZ ⟨rfl, rfl⟩
theorem cov1_spec (lam : PH) (c1 : Nat) (p : Option Addr) (c : Nat) (L : List Lb) (hv : SlE encL 4 lam (.slice p L.length c) L) (hl : L.length ≤ 100000) (x : Lb) : Ans Tryz.prog (.func (.func 63) #[] #[.pointer (some ⟨c1, 0, none⟩)]) [.agg #[int x.n, int x.f, int x.t, int x.a]] [sng c1 (.cells #[.slice p L.length c] 41 (0, 0)), lam] (fun r => r = .bool (covB L x)) := by
 have g0 : rdc (sng c1 (.cells #[.slice p L.length c] 41 (0, 0))) c1 0 = some (.slice p L.length c) := by rw [rdc_sng]; rfl
 refine spec_in (cap := [.pointer (some ⟨c1, 0, none⟩)]) Tryz.func63 rfl rfl Tryz.ntmps63 rfl envZ (fun N β => ?_)
 refine AB ?_
 refine AA ?_
 refine BF (BC rfl) rfl rfl rfl ?_
 rintro _ _ ⟨b2, rfl, rfl⟩
 refine AU (ρ := sng b2 _) takeZ ?_
 have hco := contL_spec lam _ L hv (by omega) _ (fun y => decide (y.n = x.n ∧ y.f = x.f ∧ y.t = x.t ∧ y.a ≤ x.a)) _ (fun y => cov2_spec b2 x y)
 refine AD ?_
 refine AE ?_
 refine AB ?_
 refine AA ?_
 refine AF ?_
 refine BX ?_
 refine A3 hco rfl rfl rdZ rfl rfl ?_
 rintro _ rfl
 refine AD ?_
 refine AE ?_
 exact AI (res1 rfl rfl) rsubZ selZ ⟨rfl, rfl⟩
end Go.Proofs.YtijheemiknkleaaGreatDoor
/- One result that is kept in memory. No conditions. -/
namespace Go.Eng
variable {C : Cx} {D : List Deferred} {R H : List PH} {L : Env} {K : List It}
theorem resC1 {fn : Func} {N : Bs} {M : Nat} {P : Program} {t b1 : Nat} {T : TypeId} {v1 : Value} (hr : fn.results = #[.cell t T]) (ht : look L t = some (.pointer (some ⟨b1, 0, none⟩))) (a1 : aggP P T = some false)
    (c1 : Cell N R H b1 0 v1) : ∀ a w, Frm M L a → Sat N R H w → (results fn a.tmps).run P w = .ok v1 w := by
  intro a w hf hs
  have e1 : a.tmps[t]?.getD undef = .pointer (some ⟨b1, 0, none⟩) := by simpa using hf.get t _ ht
  simp [results, hr, e1, loadVar, run_isAgg a1, c1 w hs, asAddr]
end Go.Eng
/- Barriers: the moves of a label one after the other; Verify. -/
namespace Go.Proofs.YtijheemiknkleaaGreatDoor
open Go.Eng Go.Step
set_option maxRecDepth 100000
set_option maxHeartbeats 4000000

section
variable {ρ τ σ υ : PH} {pq pc pb ph : Option Addr} {kq kc kb kh : Nat} {qs : List Int} {cs : List Ct} {bs : List Bk} {hs : List Hd} {q : Rq}
theorem bmv_spec (v1 v2 v3 v4 : Value) (q : Rq) (x : Lb) (h1 : v1.oneCell' = true) (h2 : v2.oneCell' = true) (h3 : v3.oneCell' = true) (h4 : v4.oneCell' = true) : Eng.Spec Tryz.prog (fv 26) [.agg #[v1, v2, v3, v4], .agg #[int q.src, int q.dst, int q.size, int q.rdy, int q.dln, int q.pri, .bool q.cus], .agg #[int x.n, int x.f, int x.t, int x.a]] [] [] (fun r H' => ∃ c1 c2 c3, r = .func (.func 65) #[] #[.pointer (some ⟨c1, 0, none⟩), .pointer (some ⟨c2, 0, none⟩), .pointer (some ⟨c3, 0, none⟩)] ∧ H' = [sng c3 (.cells #[int x.n, int x.f, int x.t, int x.a] 77 (0, 0)), sng c2 (.cells #[int q.src, int q.dst, int q.size, int q.rdy, int q.dln, int q.pri, .bool q.cus] 31 (0, 0)), sng c1 (.cells #[v1, v2, v3, v4] 29 (0, 0))]) := by
 refine spec_in (cap := []) Tryz.func26 rfl rfl Tryz.ntmps26 rfl envZ (fun N β => ?_)
 refine AB ?_
 refine AA ?_
 refine BF (BC rfl) rfl rfl rfl ?_
 rintro _ _ ⟨c1, rfl, rfl⟩
 refine BF (BC rfl) rfl rfl rfl ?_
 rintro _ _ ⟨c2, rfl, rfl⟩
 refine BF (BC rfl) rfl rfl rfl ?_
 rintro _ _ ⟨c3, rfl, rfl⟩
 refine AD ?_
 refine AE ?_
 refine AB ?_
 refine AA ?_
 refine BX ?_
 refine AD ?_
 refine AE ?_
 exact AI (res1 rfl rfl) rsubZ selZ ⟨c1, c2, c3, rfl, rfl⟩
set_option maxHeartbeats 16000000 in
theorem bmv_iter (hT : TbAt ρ τ σ υ pq pc pb ph kq kc kb kh qs cs bs hs) (hK : TOK qs cs bs hs q) (c1 c2 c3 : Nat) (x : Lb) (hF : Fine (grOf qs cs bs hs q) x) :
  Iter Tryz.prog (.func (.func 65) #[] #[.pointer (some ⟨c1, 0, none⟩), .pointer (some ⟨c2, 0, none⟩), .pointer (some ⟨c3, 0, none⟩)]) [sng c1 (.cells #[.slice pq qs.length kq, .slice pc cs.length kc, .slice pb bs.length kb, .slice ph hs.length kh] 29 (0, 0)), sng c2 (.cells #[int q.src, int q.dst, int q.size, int q.rdy, int q.dln, int q.pri, .bool q.cus] 31 (0, 0)), sng c3 (.cells #[int x.n, int x.f, int x.t, int x.a] 77 (0, 0)), ρ, τ, σ, υ] ((mvs (grOf qs cs bs hs q) x).map (fun m => [.agg #[int m.1.n, int m.1.f, int m.1.t, int m.1.a], .agg #[int m.2.c, int m.2.b, int m.2.e, int m.2.a]])) := by
 intro y S Own Inv Stop Ry hy hyl σ0 hI0
 obtain ⟨yl, rfl⟩ := hyl
 have hmo := movesOf_spec hT hK x hF
 have hml := mvs_len (grOf_ok hK) x
 generalize mvs (grOf qs cs bs hs q) x = Q at hy hI0 hmo hml ⊢
 have d1 : RdN (sng c1 (.cells #[.slice pq qs.length kq, .slice pc cs.length kc, .slice pb bs.length kb, .slice ph hs.length kh] 29 (0, 0))) c1 0 [.slice pq qs.length kq, .slice pc cs.length kc, .slice pb bs.length kb, .slice ph hs.length kh] := rdN_sng (vs := [.slice pq qs.length kq, .slice pc cs.length kc, .slice pb bs.length kb, .slice ph hs.length kh])
 have d2 : RdN (sng c2 (.cells #[int q.src, int q.dst, int q.size, int q.rdy, int q.dln, int q.pri, .bool q.cus] 31 (0, 0))) c2 0 [int q.src, int q.dst, int q.size, int q.rdy, int q.dln, int q.pri, .bool q.cus] := rdN_sng (vs := [int q.src, int q.dst, int q.size, int q.rdy, int q.dln, int q.pri, .bool q.cus])
 have d3 : RdN (sng c3 (.cells #[int x.n, int x.f, int x.t, int x.a] 77 (0, 0))) c3 0 [int x.n, int x.f, int x.t, int x.a] := rdN_sng (vs := [int x.n, int x.f, int x.t, int x.a])
 simp only [List.cons_append, List.nil_append]
 refine spec_in (cap := [.pointer (some ⟨c1, 0, none⟩), .pointer (some ⟨c2, 0, none⟩), .pointer (some ⟨c3, 0, none⟩)]) Tryz.func65 rfl rfl Tryz.ntmps65 rfl envZ (fun N β => ?_)
 refine AB ?_
 refine AA ?_
 refine AN ?_
 refine AN ?_
 refine AN ?_
 refine B6 hmo rfl rfl rdZ rfl rfl ?_
 rintro _ χ ⟨u1, u2, rfl, hS1, hS2⟩
 refine AU (ρ := χ) Take.here ?_
 obtain ⟨p1, k1, rfl, hr1⟩ := SlE.val (enc := encL) encL_len hS1
 obtain ⟨p2, k2, rfl, hr2⟩ := SlE.val (enc := encHp) encHp_len hS2
 have e1 : (Q.map (·.1)).length = Q.length := List.length_map _
 have e2 : (Q.map (·.2)).length = Q.length := List.length_map _
 rw [e1, e2]
 clear e1 e2
 refine AC ?_
 refine AX ?_
 refine AX ?_
 refine AX ?_
 refine AD ?_
 refine AD ?_
 refine AD ?_
 refine AE ?_
 refine AB ?_
 refine AA ?_
 refine AC ?_
 refine AY ?_
 refine AC ?_
 refine AE ?_
 refine AV ?_
 refine BM [0, 6, 18, 19] (X := Nat × S) (0, σ0) (fun z => z.1 ≤ Q.length ∧ Inv z.1 z.2) (fun z => [(20, int z.1)]) (fun z => Own z.2) (fun z => Q.length - z.1) pickZ ⟨by dsimp only; omega, hI0⟩ covZ Sel.refl ?_
 rintro ⟨k, σ1⟩ ⟨hk, hI⟩
 dsimp only at hk hI ⊢
 by_cases hlt : k < Q.length
 rotate_left
 ·have hke : k = Q.length := by omega
  subst hke
  refine AB ?_
  refine AA ?_
  refine AZ ?_
  refine AE ?_
  refine AB ?_
  refine AM rfl ?_
  refine BE rfl ?_
  refine BV (res0 rfl) (fun _ h => List.mem_cons_of_mem _ h) Sel.refl ⟨σ1, rfl, .inl ?_⟩
  rw [List.length_map]
  exact hI
 have hx := List.getElem?_eq_getElem hlt
 obtain ⟨bl, ol, e1, hrd1⟩ := hr1 k (Q[k]).1 (by rw [List.getElem?_map, hx]; rfl)
 obtain ⟨bh, oh, e2, hrd2⟩ := hr2 k (Q[k]).2 (by rw [List.getElem?_map, hx]; rfl)
 have hya := hy k σ1 _ (by rw [List.getElem?_map, hx]; rfl) hI
 dsimp only at hya
 generalize Q[k] = m at hx hrd1 hrd2 hya
 have hrd1 : RdN χ bl (ol + k * 4) [int m.1.n, int m.1.f, int m.1.t, int m.1.a] := hrd1
 have hrd2 : RdN χ bh (oh + k * 4) [int m.2.c, int m.2.b, int m.2.e, int m.2.a] := hrd2
 subst e1 e2
 refine AB ?_
 refine AA ?_
 refine BI ?_
 refine AE ?_
 refine AB ?_
 refine AQ rfl ?_
 refine AL ?_
 refine AB ?_
 refine AV ?_
 refine AB ?_
 refine AA ?_
 refine AC ?_
 refine A9 ?_
 refine AN ?_
 refine A4 ?_; rintro _ _ ⟨b, rfl, rfl⟩
 refine AD ?_
 refine A2 ?_; rintro _ _ ⟨rfl, rfl⟩
 refine AE ?_
 refine AB ?_
 revert b; intro b9
 refine BA (.q 0 (.q 1 (.q 2 (.q 3 (.q 4 (.q 5 (.l 6 .b (.q 7 .nil)))))))) [] rfl (by kernel_rfl) Sel.nil ?_
 refine AS ?_
 refine BL ?_
 refine AS ?_
 refine AS ?_
 refine BJ ?_
 refine BL ?_
 refine CJ (FE rfl hya rfl rfl (Takes.skip Takes.all) (fun τ hτ => .inl (by simp [hτ])) rfl rfl (fun _ _ _ w hw => hw.sel Sel.nil) ?_)
 rintro _ H' ⟨σ2, rfl, ⟨rfl, hI2⟩ | ⟨rfl, hSt⟩⟩
 ·refine CG ?_
  refine A7 ?_
  refine CU (H' := _ :: Own σ2) (List.perm_append_comm (l₂ := [_])) ?_
  refine AM rfl ?_
  refine AL ?_
  refine A8 ?_
  refine AA ?_
  refine BD ?_
  refine AC ?_
  refine AE ?_
  exact A5 (k + 1, σ2) ⟨by dsimp only; omega, hI2⟩ (by dsimp only; omega) covZ (Sel.skip Sel.refl)
 ·refine CG ?_
  refine A7 ?_
  refine CU (H' := _ :: Own σ2) (List.perm_append_comm (l₂ := [_])) ?_
  refine AQ rfl ?_
  exact AI (res0 rfl) (fun _ h => List.mem_cons_of_mem _ h) (Sel.skip Sel.refl) ⟨σ2, rfl, .inr hSt⟩
set_option maxHeartbeats 16000000 in
theorem checkL_spec (hT : TbAt ρ τ σ υ pq pc pb ph kq kc kb kh qs cs bs hs) (hK : TOK qs cs bs hs q) {lam : PH} {pl : Option Addr} {cl : Nat} {L : List Lb} (hv : SlE encL 4 lam (.slice pl L.length cl) L) (hl : L.length ≤ 100000) (hV : VerL (grOf qs cs bs hs q) L) :
  Ans Tryz.prog (fv 24) [.agg #[.slice pq qs.length kq, .slice pc cs.length kc, .slice pb bs.length kb, .slice ph hs.length kh], .agg #[int q.src, int q.dst, int q.size, int q.rdy, int q.dln, int q.pri, .bool q.cus], .slice pl L.length cl] [ρ, τ, σ, υ, lam] (fun r => r = int 0) := by
 obtain ⟨_, _, ew, hrl⟩ := SlE.val (enc := encL) encL_len hv
 simp only [Value.slice.injEq] at ew
 obtain ⟨rfl, _, rfl⟩ := ew
 have hbg := begin_spec hT hK
 have hmo := fun x hF => movesOf_spec hT hK x hF
 have hfi := hV.fine
 have hbe := hV.beg
 generalize grOf qs cs bs hs q = G at hbg hmo hfi hbe
 have hco := fun c1 => cov1_spec lam c1 _ _ L hv hl
 refine spec_in (cap := []) Tryz.func24 rfl rfl Tryz.ntmps24 rfl envZ (fun N β => ?_)
 refine AB ?_
 refine AA ?_
 refine BF (BC rfl) rfl rfl rfl ?_
 rintro _ _ ⟨b2, rfl, rfl⟩
 refine BF (BC rfl) rfl rfl rfl ?_
 rintro _ _ ⟨b3, rfl, rfl⟩
 refine AU (ρ := sng b2 _) takeZ ?_
 refine AU (ρ := sng b3 _) takeZ ?_
 have ct : RdN (sng b2 (.cells #[.slice pq qs.length kq, .slice pc cs.length kc, .slice pb bs.length kb, .slice ph hs.length kh] 29 (0, 0))) b2 0 [.slice pq qs.length kq, .slice pc cs.length kc, .slice pb bs.length kb, .slice ph hs.length kh] := rdN_sng (vs := [.slice pq qs.length kq, .slice pc cs.length kc, .slice pb bs.length kb, .slice ph hs.length kh])
 have cr : RdN (sng b3 (.cells #[int q.src, int q.dst, int q.size, int q.rdy, int q.dln, int q.pri, .bool q.cus] 31 (0, 0))) b3 0 [int q.src, int q.dst, int q.size, int q.rdy, int q.dln, int q.pri, .bool q.cus] := rdN_sng (vs := [int q.src, int q.dst, int q.size, int q.rdy, int q.dln, int q.pri, .bool q.cus])
 refine AD ?_
 refine AE ?_
 refine AB ?_
 refine AB ?_
 refine AA ?_
 refine AC ?_
 refine AY ?_
 refine AC ?_
 refine AE ?_
 refine AV ?_
 refine BM [2, 3, 4, 14, 15] (0 : Nat) (fun k => k ≤ L.length) (fun k => [(16, int k)]) (fun _ => []) (fun k => L.length - k) pickZ (by omega) covZ selZ ?_
 rintro k hk
 by_cases hlt : k < L.length
 ·have hx := List.getElem?_eq_getElem hlt
  have hfx := hfi _ (List.mem_of_getElem? hx)
  obtain ⟨bl, ol, e1, hrd⟩ := hrl k _ hx
  generalize L[k] = x at hx hfx hrd
  have hrd : RdN lam bl (ol + k * 4) [int x.n, int x.f, int x.t, int x.a] := hrd
  subst e1
  have hm := hmo x hfx
  refine AB ?_
  refine AA ?_
  refine BI ?_
  refine AE ?_
  refine AB ?_
  refine AQ rfl ?_
  refine AL ?_
  refine AB ?_
  refine AV ?_
  refine AB ?_
  refine AA ?_
  refine A9 ?_
  refine AN ?_
  refine A4 ?_; rintro _ _ ⟨b, rfl, rfl⟩
  refine A2 ?_; rintro _ _ ⟨rfl, rfl⟩
  refine AE ?_
  refine AB ?_
  refine AA ?_
  refine AN ?_
  refine AN ?_
  refine AN ?_
  revert b; intro b8
  refine B6 hm rfl rfl rdZ rfl rfl ?_
  rintro _ χ ⟨u1, u2, rfl, hS1, hS2⟩
  refine AC ?_
  refine AX ?_
  refine AX ?_
  refine AX ?_
  refine AD ?_
  refine AD ?_
  refine AD ?_
  refine AE ?_
  refine AB ?_
  refine AA ?_
  refine AC ?_
  refine BG ?_
  refine AE ?_
  refine AM rfl ?_
  refine AL ?_
  refine A8 ?_
  refine AA ?_
  refine BD ?_
  refine AC ?_
  refine AE ?_
  exact A5 (k + 1) (by omega) (by omega) covZ selZ
 have hke : k = L.length := by omega
 subst hke
 refine AB ?_
 refine AA ?_
 refine AZ ?_
 refine AE ?_
 refine AB ?_
 refine AM rfl ?_
 refine BE rfl ?_
 refine AB ?_
 refine AB ?_
 refine AA ?_
 refine AN ?_
 refine AN ?_
 refine A3 hbg rfl rfl rdZ rfl rfl ?_
 rintro _ (⟨x, hx, rfl⟩ | rfl)
 ·have hcv := hbe x hx
  refine AC ?_
  refine AX ?_
  refine AX ?_
  refine A4 ?_; rintro _ _ ⟨b, rfl, rfl⟩
  refine A2 ?_; rintro _ _ ⟨rfl, rfl⟩
  refine AD ?_
  refine AE ?_
  refine AB ?_
  revert b; intro b12
  refine BA (.q 0 (.q 1 (.q 2 (.q 4 (.l 3 .e (.l 5 .e (.q 6 (.q 7 .nil)))))))) [] rfl (by kernel_rfl) selZ ?_
  refine AS ?_
  refine AS ?_
  refine AS ?_
  refine BL ?_
  refine CJ (DH rfl (cov0_spec _ _ _) rfl rfl rdZ rfl rfl ?_)
  rintro _ _ ⟨c1, rfl, rfl⟩
  simp only [List.cons_append, List.nil_append]
  have hc := hco c1 x
  rw [hcv] at hc
  skip
  refine CJ (BY rfl hc rfl rfl rdZ rfl rfl ?_)
  rintro _ rfl
  refine CG ?_
  refine BK ?_
  refine A7 ?_
  refine AM rfl ?_
  refine AL ?_
  refine AB ?_
  refine AA ?_
  refine AD ?_
  refine AE ?_
  exact AI (res1 rfl rfl) rsubZ selZ ⟨rfl, rfl⟩
 ·refine AC ?_
  refine AX ?_
  refine AX ?_
  refine A4 ?_; rintro _ _ ⟨b, rfl, rfl⟩
  refine A2 ?_; rintro _ _ ⟨rfl, rfl⟩
  refine AD ?_
  refine AE ?_
  refine AB ?_
  revert b; intro b12
  refine BA (.q 0 (.q 1 (.q 2 (.q 4 (.q 3 (.q 5 (.q 6 (.q 7 .nil)))))))) [] rfl (by kernel_rfl) selZ ?_
  refine AS ?_
  refine AS ?_
  refine AR rfl rfl rfl rfl rfl ?_
  refine AR rfl rfl rfl rfl rfl ?_
  refine AR rfl rfl rfl rfl rfl ?_
  refine AR rfl rfl rfl rfl rfl ?_
  refine AR rfl rfl rfl rfl rfl ?_
  refine BB ?_
  refine A7 ?_
  refine AM rfl ?_
  refine AL ?_
  refine AB ?_
  refine AA ?_
  refine AD ?_
  refine AE ?_
  exact AI (res1 rfl rfl) rsubZ selZ ⟨rfl, rfl⟩
set_option maxHeartbeats 32000000 in
theorem verify_spec (hT : TbAt ρ τ σ υ pq pc pb ph kq kc kb kh qs cs bs hs) (hK : TOK qs cs bs hs q) {lam : PH} {pl : Option Addr} {cl : Nat} {L : List Lb} (hv : SlE encL 4 lam (.slice pl L.length cl) L) (hl : L.length ≤ 100000) (hV : VerL (grOf qs cs bs hs q) L) :
  Ans Tryz.prog (fv 9) [.agg #[.slice pq qs.length kq, .slice pc cs.length kc, .slice pb bs.length kb, .slice ph hs.length kh], .agg #[int q.src, int q.dst, int q.size, int q.rdy, int q.dln, int q.pri, .bool q.cus], .slice pl L.length cl] [ρ, τ, σ, υ, lam] (fun r => r = int 0) := by
 obtain ⟨_, _, ew, hrl⟩ := SlE.val (enc := encL) encL_len hv
 simp only [Value.slice.injEq] at ew
 obtain ⟨rfl, _, rfl⟩ := ew
 have hck := barCheck_spec hT hK
 have hcl := checkL_spec hT hK hv hl hV
 have hit := fun c1 c2 c3 x hF => bmv_iter hT hK c1 c2 c3 x hF
 have hfi := hV.fine
 have hmv := hV.mv
 have hqd : (grOf qs cs bs hs q).q.dst = q.dst := rfl
 generalize grOf qs cs bs hs q = G at hit hfi hmv hqd
 have hco := fun c1 => cov1_spec lam c1 _ _ L hv hl
 refine spec_in (cap := []) Tryz.func9 rfl rfl Tryz.ntmps9 rfl envZ (fun N β => ?_)
 refine AB ?_
 refine AA ?_
 refine BF (BC rfl) rfl rfl rfl ?_
 rintro _ _ ⟨b2, rfl, rfl⟩
 refine BF (BC rfl) rfl rfl rfl ?_
 rintro _ _ ⟨b3, rfl, rfl⟩
 refine AU (ρ := sng b2 _) takeZ ?_
 refine AU (ρ := sng b3 _) takeZ ?_
 have ct : RdN (sng b2 (.cells #[.slice pq qs.length kq, .slice pc cs.length kc, .slice pb bs.length kb, .slice ph hs.length kh] 29 (0, 0))) b2 0 [.slice pq qs.length kq, .slice pc cs.length kc, .slice pb bs.length kb, .slice ph hs.length kh] := rdN_sng (vs := [.slice pq qs.length kq, .slice pc cs.length kc, .slice pb bs.length kb, .slice ph hs.length kh])
 have cr : RdN (sng b3 (.cells #[int q.src, int q.dst, int q.size, int q.rdy, int q.dln, int q.pri, .bool q.cus] 31 (0, 0))) b3 0 [int q.src, int q.dst, int q.size, int q.rdy, int q.dln, int q.pri, .bool q.cus] := rdN_sng (vs := [int q.src, int q.dst, int q.size, int q.rdy, int q.dln, int q.pri, .bool q.cus])
 have r1 : rdc (sng b3 (.cells #[int q.src, int q.dst, int q.size, int q.rdy, int q.dln, int q.pri, .bool q.cus] 31 (0, 0))) b3 1 = some (int q.dst) := by rw [rdc_sng]; rfl
 refine BS ?_; rintro _ _ ⟨b, rfl, rfl⟩
 refine AE ?_
 refine AB ?_
 refine AB ?_
 refine AA ?_
 refine AN ?_
 refine AN ?_
 revert b; intro b6
 refine A3 hck rfl rfl rdZ rfl rfl ?_
 rintro _ rfl
 refine AD ?_
 refine AE ?_
 refine AB ?_
 refine AA ?_
 refine AC ?_
 refine BG ?_
 refine AE ?_
 refine AM rfl ?_
 refine AL ?_
 refine AB ?_
 refine AB ?_
 refine AA ?_
 refine AN ?_
 refine AN ?_
 refine AC ?_
 refine A3 hcl rfl rfl rdZ rfl rfl ?_
 rintro _ rfl
 refine AD ?_
 refine AE ?_
 refine AB ?_
 refine AA ?_
 refine AC ?_
 refine BG ?_
 refine AE ?_
 refine AM rfl ?_
 refine AL ?_
 refine AB ?_
 refine AA ?_
 refine AC ?_
 refine BT (cov0_spec _ _ _) rfl rfl takesZ rdZ rfl rfl ?_
 rintro _ _ ⟨c0, rfl, rfl⟩
 simp only [List.cons_append, List.nil_append]
 refine AU (ρ := sng c0 _) takeZ ?_
 refine BS ?_; rintro _ _ ⟨b, rfl, rfl⟩
 refine BH ?_; rintro _ _ ⟨rfl, rfl⟩
 refine AE ?_
 refine AB ?_
 refine AB ?_
 refine AA ?_
 refine AC ?_
 refine AY ?_
 refine AC ?_
 refine AE ?_
 refine AV ?_
 revert b; intro b9
 refine AU (ρ := sng b9 _) takeZ ?_
 have g9 : rdc (sng b9 (.cells #[.func (.func 63) #[] #[.pointer (some ⟨c0, 0, none⟩)]] 74 (0, 0))) b9 0 = some (.func (.func 63) #[] #[.pointer (some ⟨c0, 0, none⟩)]) := by rw [rdc_sng]; rfl
 refine CA ?_
 skip
 refine DM [2, 3, 4, 6, 9, 29, 30] (X := Nat × (List Nat × PH)) (0, ([], emp)) (fun x => x.2.1.map mk) (fun x => x.1 ≤ L.length ∧ MkIn x.2.2 x.2.1) (fun x => [(31, int x.1)]) (fun x => [sng b6 (.cells #[int 0] 36 (0, 0)), x.2.2]) (fun x => L.length - x.1) pickZ rfl ⟨by dsimp only; omega, MkIn.nil⟩ covZ selZ ?_
 rintro ⟨k, ⟨ms, μ⟩⟩ ⟨hk, hM⟩
 dsimp only at hk hM ⊢
 by_cases hlt : k < L.length
 rotate_left
 ·have hke : k = L.length := by omega
  subst hke
  refine AB ?_
  refine AA ?_
  refine AZ ?_
  refine AE ?_
  refine AB ?_
  refine AM rfl ?_
  refine BE rfl ?_
  refine AB ?_
  refine AA ?_
  refine BH ?_; rintro _ _ ⟨rfl, rfl⟩
  refine AE ?_
  exact DI hM takeZ (resC1 rfl rfl rfl (cell_own memZ rfl)) rsubZ selZ ⟨rfl, rfl⟩
 have hx := List.getElem?_eq_getElem hlt
 have hfx := hfi _ (List.mem_of_getElem? hx)
 have hmx := hmv _ (List.mem_of_getElem? hx)
 obtain ⟨bl, ol, e1, hrd⟩ := hrl k _ hx
 generalize L[k] = x at hx hfx hmx hrd
 have hrd : RdN lam bl (ol + k * 4) [int x.n, int x.f, int x.t, int x.a] := hrd
 subst e1
 refine AB ?_
 refine AA ?_
 refine BI ?_
 refine AE ?_
 refine AB ?_
 refine AQ rfl ?_
 refine AL ?_
 refine AB ?_
 refine AV ?_
 refine AB ?_
 refine AA ?_
 refine A9 ?_
 refine AN ?_
 refine A4 ?_; rintro _ _ ⟨b, rfl, rfl⟩
 refine A2 ?_; rintro _ _ ⟨rfl, rfl⟩
 refine AE ?_
 refine AB ?_
 refine AA ?_
 refine BS ?_; rintro _ _ ⟨b, rfl, rfl⟩
 refine BH ?_; rintro _ _ ⟨rfl, rfl⟩
 refine AE ?_
 refine AB ?_
 refine AB ?_
 refine AA ?_
 refine AN ?_
 refine AN ?_
 refine AN ?_
 revert b; intro b12
 revert b; intro b11
 refine BT (bmv_spec _ _ _ _ q x rfl rfl rfl rfl) rfl rfl takesZ rdZ rfl rfl ?_
 rintro _ _ ⟨c1, c2, c3, rfl, rfl⟩
 simp only [List.cons_append, List.nil_append]
 refine AU (ρ := sng c3 _) takeZ ?_
 refine AU (ρ := sng c2 _) takeZ ?_
 refine AU (ρ := sng c1 _) takeZ ?_
 refine AE ?_
 refine AV ?_
 refine CW (gf := 65) (cap := [.pointer (some ⟨c1, 0, none⟩), .pointer (some ⟨c2, 0, none⟩), .pointer (some ⟨c3, 0, none⟩)]) (ps := [39, 40]) (X := Unit) rfl Tryz.func65 rfl rfl
  (hit c1 c2 c3 x hfx) ?_ (fun _ _ => True) (fun _ => [sng b12 (.cells #[.bool false] 4 (0, 0))]) (fun _ _ => False) () rfl takesZ trivial ?_ ?_ ?_
 ·intro σ' hσ
  simp only [List.mem_cons, List.not_mem_nil, or_false] at hσ ⊢
  rcases hσ with h | h | h | h | h | h | h <;> simp [h]
 ·rintro lo r j _ vs hvs _ hps has hbd hst hpe hfr
  obtain ⟨st, pe, fnn, tm, prm, asg, bdy, df⟩ := r
  simp only at hps has hbd hst hpe hfr
  subst hps has hbd hst hpe
  rw [List.getElem?_map] at hvs
  obtain ⟨m, hm, rfl⟩ := Option.map_eq_some_iff.1 hvs
  obtain ⟨hmd, hcv⟩ := hmx m (List.mem_of_getElem? hm)
  rw [hqd] at hmd
  have hc := hco c0 m.1
  rw [hcv] at hc
  generalize m.1 = y at hmd hc
  refine yield_spec hfr rfl (by intro p hp; simp at hp; omega) putiZ (fun N' β' => ?_)
  refine AA ?_
  refine A4 ?_; rintro _ _ ⟨b, rfl, rfl⟩
  refine A2 ?_; rintro _ _ ⟨rfl, rfl⟩
  refine AE ?_
  revert b; intro b13
  refine CN rfl rfl ?_
  refine CV takeZ rfl ?_
  refine AV ?_
  refine AB ?_
  refine AB ?_
  refine AA ?_
  refine AG ?_
  refine AF ?_
  refine AG ?_
  refine AF ?_
  refine B4 ?_
  refine AE ?_
  refine AM rfl ?_
  refine AL ?_
  refine AA ?_
  refine AF ?_
  refine AC ?_
  refine AF ?_
  refine AN ?_
  refine A3 hc rfl rfl rdZ rfl rfl ?_
  rintro _ rfl
  refine BZ ?_
  refine AK ?_
  refine BH ?_; rintro _ _ ⟨rfl, rfl⟩
  refine AE ?_
  refine A8 ?_
  exact B3 takeZ rsubZ selZ ⟨(), .inl ⟨rfl, trivial, rfl⟩⟩
 ·rintro bm _ _
  simp only [List.cons_append, List.nil_append]
  refine DL (R' := [sng b9 (.cells #[.func (.func 63) #[] #[.pointer (some ⟨c0, 0, none⟩)]] 74 (0, 0)), sng c0 (.cells #[.slice (some ⟨bl, ol, none⟩) L.length cl] 41 (0, 0)), sng b3 (.cells #[int q.src, int q.dst, int q.size, int q.rdy, int q.dln, int q.pri, .bool q.cus] 31 (0, 0)), sng b2 (.cells #[.slice pq qs.length kq, .slice pc cs.length kc, .slice pb bs.length kb, .slice ph hs.length kh] 29 (0, 0)), β, ρ, τ, σ, υ, lam]) (by intro σ' hσ; simp at hσ ⊢; rcases hσ with h | h | h | h | h | h | h | h | h | h <;> simp [h]) ?_
  refine CT (b := bm) takeZ (μ := μ) takeZ hM ?_
  intro μ2 hM2
  refine A8 ?_
  refine AB ?_
  refine AA ?_
  refine AF ?_
  refine AE ?_
  refine AM rfl ?_
  refine AL ?_
  refine A8 ?_
  refine AA ?_
  refine BD ?_
  refine AC ?_
  refine AE ?_
  exact C9 (k + 1, (bm :: ms, μ2)) rfl ⟨by dsimp only; omega, hM2⟩ (by dsimp only; omega) covZ selZ
 ·rintro bm cc o' hf
  exact hf.elim
end
end Go.Proofs.YtijheemiknkleaaGreatDoor
/- Sizes that the statements examine. -/
namespace Go.Proofs.YtijheemiknkleaaGreatDoor
open Go.Eng Go.Step
set_option maxRecDepth 100000
set_option maxHeartbeats 4000000

theorem greatPlanp_spec (pq pc : Option Addr) (kq kc nq nc : Nat) : Ans Tryz.prog (fv 27) [.agg #[.slice pq nq kq, .slice pc nc kc]] [] (fun r => r = .bool (decide (6 < nq ∨ 10 < nc))) := by
 refine spec_in (cap := []) Tryz.func27 rfl rfl Tryz.ntmps27 rfl envZ (fun N β => ?_)
 refine AB ?_
 refine AA ?_
 refine BF (BC rfl) rfl rfl rfl ?_
 rintro _ _ ⟨b1, rfl, rfl⟩
 refine AU (ρ := sng b1 _) takeZ ?_
 have c : RdN (sng b1 (.cells #[.slice pq nq kq, .slice pc nc kc] 25 (0, 0))) b1 0 [.slice pq nq kq, .slice pc nc kc] := rdN_sng (vs := [.slice pq nq kq, .slice pc nc kc])
 have c0 : rdc (sng b1 (.cells #[.slice pq nq kq, .slice pc nc kc] 25 (0, 0))) b1 0 = some (.slice pq nq kq) := by rw [rdc_sng]; rfl
 have c1 : rdc (sng b1 (.cells #[.slice pq nq kq, .slice pc nc kc] 25 (0, 0))) b1 1 = some (.slice pc nc kc) := by rw [rdc_sng]; rfl
 by_cases h1 : 6 < nq
 ·rw [decide_eq_true (.inl h1)]
  refine AD ?_
  refine AE ?_
  refine AB ?_
  refine AA ?_
  refine AG ?_
  refine AF ?_
  refine AY ?_
  refine CH ?_
  refine AC ?_
  refine AJ rfl rfl rfl ?_
  refine AJ rfl rfl rfl ?_
  refine AJ rfl rfl rfl ?_
  refine AJ rfl rfl rfl ?_
  refine AT ?_
  refine AD ?_
  refine AE ?_
  exact AI (res1 rfl rfl) rsubZ selZ ⟨rfl, rfl⟩
 by_cases h2 : 10 < nc
 ·rw [decide_eq_true (.inr h2)]
  refine AD ?_
  refine AE ?_
  refine AB ?_
  refine AA ?_
  refine AG ?_
  refine AF ?_
  refine AY ?_
  refine BO ?_
  refine AC ?_
  refine AG ?_
  refine AF ?_
  refine AY ?_
  refine CH ?_
  refine AK ?_
  refine AD ?_
  refine AE ?_
  exact AI (res1 rfl rfl) rsubZ selZ ⟨rfl, rfl⟩
 rw [decide_eq_false (by omega)]
 refine AD ?_
 refine AE ?_
 refine AB ?_
 refine AA ?_
 refine AG ?_
 refine AF ?_
 refine AY ?_
 refine BO ?_
 refine AC ?_
 refine AG ?_
 refine AF ?_
 refine AY ?_
 refine BO ?_
 refine AK ?_
 refine AD ?_
 refine AE ?_
 exact AI (res1 rfl rfl) rsubZ selZ ⟨rfl, rfl⟩
set_option maxHeartbeats 16000000 in
theorem great29p_spec (pq pc pb ph : Option Addr) (kq kc kb kh nq nc nb nh : Nat) : Ans Tryz.prog (fv 10) [.agg #[.slice pq nq kq, .slice pc nc kc, .slice pb nb kb, .slice ph nh kh]] [] (fun r => r = .bool (decide (6 < nq ∨ 10 < nc ∨ 30 < nb ∨ 30 < nh))) := by
 refine spec_in (cap := []) Tryz.func10 rfl rfl Tryz.ntmps10 rfl envZ (fun N β => ?_)
 refine AB ?_
 refine AA ?_
 refine BF (BC rfl) rfl rfl rfl ?_
 rintro _ _ ⟨b1, rfl, rfl⟩
 refine AU (ρ := sng b1 _) takeZ ?_
 have c : RdN (sng b1 (.cells #[.slice pq nq kq, .slice pc nc kc, .slice pb nb kb, .slice ph nh kh] 29 (0, 0))) b1 0 [.slice pq nq kq, .slice pc nc kc, .slice pb nb kb, .slice ph nh kh] := rdN_sng (vs := [.slice pq nq kq, .slice pc nc kc, .slice pb nb kb, .slice ph nh kh])
 have c0 : rdc (sng b1 (.cells #[.slice pq nq kq, .slice pc nc kc, .slice pb nb kb, .slice ph nh kh] 29 (0, 0))) b1 0 = some (.slice pq nq kq) := by rw [rdc_sng]; rfl
 have c1 : rdc (sng b1 (.cells #[.slice pq nq kq, .slice pc nc kc, .slice pb nb kb, .slice ph nh kh] 29 (0, 0))) b1 1 = some (.slice pc nc kc) := by rw [rdc_sng]; rfl
 have c2 : rdc (sng b1 (.cells #[.slice pq nq kq, .slice pc nc kc, .slice pb nb kb, .slice ph nh kh] 29 (0, 0))) b1 2 = some (.slice pb nb kb) := by rw [rdc_sng]; rfl
 have c3 : rdc (sng b1 (.cells #[.slice pq nq kq, .slice pc nc kc, .slice pb nb kb, .slice ph nh kh] 29 (0, 0))) b1 3 = some (.slice ph nh kh) := by rw [rdc_sng]; rfl
 have ctp : RdP (sng b1 (.cells #[.slice pq nq kq, .slice pc nc kc, .slice pb nb kb, .slice ph nh kh] 29 (0, 0))) b1 0 [.slice pq nq kq, .slice pc nc kc] := rdP_sng (xs := [.slice pq nq kq, .slice pc nc kc, .slice pb nb kb, .slice ph nh kh]) rfl
 refine AD ?_
 refine AE ?_
 refine AB ?_
 refine AA ?_
 refine AG ?_
 refine AN ?_
 refine A3 (greatPlanp_spec pq pc kq kc nq nc) rfl rfl rdZ rfl rfl ?_
 rintro _ rfl
 by_cases h1 : 6 < nq ∨ 10 < nc
 ·rw [decide_eq_true h1, decide_eq_true (by omega)]
  refine AC ?_
  refine AJ rfl rfl rfl ?_
  refine AJ rfl rfl rfl ?_
  refine AJ rfl rfl rfl ?_
  refine AJ rfl rfl rfl ?_
  refine AT ?_
  refine AC ?_
  refine AJ rfl rfl rfl ?_
  refine AJ rfl rfl rfl ?_
  refine AJ rfl rfl rfl ?_
  refine AJ rfl rfl rfl ?_
  refine AT ?_
  refine AD ?_
  refine AE ?_
  exact AI (res1 rfl rfl) rsubZ selZ ⟨rfl, rfl⟩
 rw [decide_eq_false h1]
 by_cases h2 : 30 < nb
 ·rw [decide_eq_true (by omega)]
  refine AC ?_
  refine AG ?_
  refine AF ?_
  refine AY ?_
  refine CH ?_
  refine AK ?_
  refine AC ?_
  refine AJ rfl rfl rfl ?_
  refine AJ rfl rfl rfl ?_
  refine AJ rfl rfl rfl ?_
  refine AJ rfl rfl rfl ?_
  refine AT ?_
  refine AD ?_
  refine AE ?_
  exact AI (res1 rfl rfl) rsubZ selZ ⟨rfl, rfl⟩
 by_cases h3 : 30 < nh
 ·rw [decide_eq_true (by omega)]
  refine AC ?_
  refine AG ?_
  refine AF ?_
  refine AY ?_
  refine BO ?_
  refine AK ?_
  refine AC ?_
  refine AG ?_
  refine AF ?_
  refine AY ?_
  refine CH ?_
  refine AK ?_
  refine AD ?_
  refine AE ?_
  exact AI (res1 rfl rfl) rsubZ selZ ⟨rfl, rfl⟩
 rw [decide_eq_false (by omega)]
 refine AC ?_
 refine AG ?_
 refine AF ?_
 refine AY ?_
 refine BO ?_
 refine AK ?_
 refine AC ?_
 refine AG ?_
 refine AF ?_
 refine AY ?_
 refine BO ?_
 refine AK ?_
 refine AD ?_
 refine AE ?_
 exact AI (res1 rfl rfl) rsubZ selZ ⟨rfl, rfl⟩
end Go.Proofs.YtijheemiknkleaaGreatDoor
