/- Texts of this proof, one after the other; no conditions. -/
import Derived.Test.YtekcielcagdcmaaGreatDoorWB4
import Derived.Test.YtekcielcagdcmaaGreatDoorWB0
import Derived.Test.YtekcielcagdcmaaGreatDoorWB1
import Derived.Test.YtekcielcagdcmaaGreatDoorWB3
import Derived.Test.YtekcielcagdcmaaGreatDoorWB2
set_option linter.all false
/- A session over links: what always holds. No conditions. -/
namespace Go.Step
open Go.Eng
theorem insF_mem (f : Frm) : ∀ (l : List Frm) (y : Frm), y ∈ insF f l ↔ y = f ∨ y ∈ l
  | [], y => by simp [insF]
  | x :: l, y => by
    unfold insF
    split
    · simp
    · rw [List.mem_cons, insF_mem f l y, List.mem_cons]
      constructor
      · rintro (h | h | h)
        · exact .inr (.inl h)
        · exact .inl h
        · exact .inr (.inr h)
      · rintro (h | h | h)
        · exact .inr (.inl h)
        · exact .inl h
        · exact .inr (.inr h)
theorem insF_len (f : Frm) : ∀ l : List Frm, (insF f l).length = l.length + 1
  | [] => rfl
  | x :: l => by
    unfold insF
    split
    · rfl
    · rw [List.length_cons, insF_len f l]; rfl
theorem insF_srt (f : Frm) : ∀ l : List Frm, l.Pairwise (fun x y => x.arr ≤ y.arr) → (insF f l).Pairwise (fun x y => x.arr ≤ y.arr)
  | [], _ => List.pairwise_singleton _ _
  | x :: l, h => by
    obtain ⟨h1, h2⟩ := List.pairwise_cons.1 h
    unfold insF
    split
    · rename_i hlt
      refine List.pairwise_cons.2 ⟨fun y hy => ?_, h⟩
      rcases List.mem_cons.1 hy with rfl | hy
      · omega
      · have := h1 y hy; omega
    · rename_i hge
      refine List.pairwise_cons.2 ⟨fun y hy => ?_, insF_srt f l h2⟩
      rcases (insF_mem f l y).1 hy with rfl | hy
      · omega
      · exact h1 y hy
theorem insFs_ok (t num : Int) (g : Msg) : ∀ (ds : List Int) (l : List Frm), l.Pairwise (fun x y => x.arr ≤ y.arr) →
    (insFs t num g ds l).Pairwise (fun x y => x.arr ≤ y.arr) ∧ (insFs t num g ds l).length = l.length + ds.length ∧ ∀ y ∈ insFs t num g ds l, y ∈ l ∨ ∃ d ∈ ds, y = ⟨t + d, num, g⟩
  | [], l, h => ⟨h, rfl, fun y hy => .inl hy⟩
  | d :: ds, l, h => by
    obtain ⟨i1, i2, i3⟩ := insFs_ok t num g ds (insF ⟨t + d, num, g⟩ l) (insF_srt _ l h)
    refine ⟨i1, by show (insFs t num g ds _).length = _; rw [i2, insF_len]; simp; omega, fun y hy => ?_⟩
    rcases i3 y hy with h1 | ⟨d', h1, h2⟩
    · rcases (insF_mem _ l y).1 h1 with rfl | h1
      · exact .inr ⟨d, by simp, rfl⟩
      · exact .inl h1
    · exact .inr ⟨d', by simp [h1], h2⟩
def subI (A B : Iv) : Prop := ∀ t, memI A t = true → memI B t = true
def gOK (n : Nat) (K : Iv) (isd : Bool) : Msg → Prop
  | .dat x => isd = true ∧ okG n x
  | .rep sr C => isd = false ∧ InI n C ∧ subI C K ∧ 1 ≤ sr ∧ sr ≤ 1099511627776
theorem gOK.mono {n : Nat} {K K' : Iv} {isd : Bool} {g : Msg} (h : gOK n K isd g) (hs : subI K K') : gOK n K' isd g := by
  cases g with
  | dat x => exact h
  | rep sr C => exact ⟨h.1, h.2.1, fun t ht => hs t (h.2.2.1 t ht), h.2.2.2⟩
structure ChOK (lo hi : Int) (n : Nat) (K : Iv) (isd : Bool) (c : Ch) : Prop where
  fr : ∀ f ∈ c.fr, lo ≤ f.arr ∧ f.arr ≤ hi ∧ 0 ≤ f.num ∧ f.num < c.sent ∧ gOK n K isd f.g
  srt : c.fr.Pairwise (fun x y => x.arr ≤ y.arr)
  lst : 0 ≤ c.lost ∧ c.lost ≤ c.sent
  len : c.fr.length ≤ 10000
theorem ChOK.mono {lo lo' hi : Int} {n : Nat} {K K' : Iv} {isd : Bool} {c : Ch} (h : ChOK lo hi n K isd c) (hl : lo' ≤ lo) (hs : subI K K') : ChOK lo' hi n K' isd c :=
  ⟨fun f hf => by have := h.fr f hf; exact ⟨by omega, this.2.1, this.2.2.1, this.2.2.2.1, this.2.2.2.2.mono hs⟩, h.srt, h.lst, h.len⟩
theorem ChOK.nil (lo hi : Int) (n : Nat) (K : Iv) (isd : Bool) : ChOK lo hi n K isd ⟨[], 0, 0⟩ :=
  ⟨fun f hf => absurd hf (by simp), List.Pairwise.nil, ⟨Int.le_refl _, Int.le_refl _⟩, Nat.zero_le _⟩
theorem chSend_ok {lo hi rng t : Int} {n : Nat} {K : Iv} {isd : Bool} {c c' : Ch} {g : Msg} {ds : List Int} (h : ChOK lo hi n K isd c) (hg : gOK n K isd g) (hr : 1 ≤ rng ∧ rng ≤ 1048576) (hlo : lo ≤ t + rng) (hhi : t + 2 * rng ≤ hi) (hd : ∀ d ∈ ds, rng ≤ d ∧ d ≤ 2 * rng) (e : chSend rng c t g ds = some c') :
    ChOK lo hi n K isd c' ∧ c'.sent = c.sent + 1 := by
  unfold chSend at e
  split at e
  · cases e
  · rename_i hle
    obtain rfl := Option.some.inj e
    obtain ⟨i1, i2, i3⟩ := insFs_ok t c.sent g ds c.fr h.srt
    refine ⟨⟨fun f hf => ?_, i1, ?_, by show (insFs _ _ _ _ _).length ≤ _; rw [i2]; omega⟩, rfl⟩
    · rcases i3 f hf with hf | ⟨d, hd1, rfl⟩
      · have := h.fr f hf
        exact ⟨this.1, this.2.1, this.2.2.1, by dsimp only; omega, this.2.2.2.2⟩
      · have := hd d hd1
        have := h.lst
        exact ⟨by dsimp only; omega, by dsimp only; omega, by dsimp only; omega, by dsimp only; omega, hg⟩
    · have := h.lst
      dsimp only
      split <;> omega
theorem fateM_ok {n rng : Int} (hr : 1 ≤ rng) : ∀ d ∈ fateM n rng, rng ≤ d ∧ d ≤ 2 * rng := by
  intro d hd
  have h1 := Int.emod_nonneg (n / 8) (show rng ≠ 0 by omega)
  have h2 := Int.emod_lt_of_pos (n / 8) (show 0 < rng by omega)
  unfold fateM at hd;simp only at hd
  split at hd
  · simp at hd; omega
  · split at hd
    · simp at hd; omega
    · split at hd
      · simp at hd; omega
      · simp at hd
structure okP (P : Par) (t0 : Int) : Prop where
  hc : chkCt P.c = 0
  n1 : 1 ≤ P.d.length
  n2 : P.d.length ≤ 990
  h0 : P.c.s ≤ t0
  h1 : t0 ≤ P.e
  h2 : P.e ≤ P.c.e
theorem delM_ok {P : Par} {t0 : Int} (hP : okP P t0) (s : Ss) (t : Int) : ∀ d ∈ (delM P s t).1, P.c.g ≤ d ∧ d ≤ 2 * P.c.g := by
  have hg := (chkCt_rg hP.hc).2.1
  intro d hd
  unfold delM at hd
  split at hd
  · cases hd
  split at hd
  · simp at hd; omega
  simp only at hd
  split at hd
  · exact fateM_ok hg.1 d hd
  split at hd
  · simp at hd; omega
  · exact fateM_ok hg.1 d hd
structure SdOK (P : Par) (K : Iv) (s : Sd) : Prop where
  b : P.c.s ≤ s.busy ∧ s.busy ≤ P.e
  r : 1 ≤ s.sr ∧ s.sr ≤ s.busy
  k : InI P.d.length s.K
  ks : subI s.K K
  st : (s.st = 1 ∧ s.K ≠ [((0 : Int), (P.d.length : Int))] ∧ s.due = s.busy + 2 * P.c.g + 1) ∨ (s.st = 2 ∧ s.K = [((0 : Int), (P.d.length : Int))] ∧ s.due = 0) ∨ (s.st = 3 ∧ s.due = 0)
structure SI (P : Par) (t0 : Int) (s : Ss) (ld lr lw lt : Int) : Prop where
  dat : ChOK ld (P.e + 2 * P.c.g) P.d.length s.K true s.dat
  rep : ChOK lr 2199023255552 P.d.length s.K false s.rep
  wt : ∀ x ∈ s.wait, lw ≤ x.1 ∧ x.1 ≤ s.snd.busy ∧ okG P.d.length x.2
  ws : s.wait.Pairwise (fun x y => x.1 < y.1)
  du : waitsM s = true → lt ≤ s.snd.due
  sn : SdOK P s.K s.snd
  k : InI P.d.length s.K
  o0 : ∀ x ∈ s.out0, t0 < x.1 ∧ x.1 ≤ P.e ∧ okG P.d.length x.2
  o1 : ∀ y ∈ s.out1, InI P.d.length y.2.2 ∧ subI y.2.2 s.K
  en : s.ent = s.out0.length + s.out1.length ∧ s.ent = s.dat.sent + s.rep.sent ∧ s.ent ≤ 10000
  kn : s.kn = true → s.snd.K = [((0 : Int), (P.d.length : Int))]
theorem subI.refl (A : Iv) : subI A A := fun _ h => h
theorem enter0_ok {P : Par} {t0 : Int} (hP : okP P t0) {s : Ss} {ld lr lw lt t : Int} {x : Sg} (h : SI P t0 s ld lr lw lt) (hx : okG P.d.length x) (ht : t0 < t ∧ t ≤ P.e) (hl : ld ≤ t + P.c.g) :
    SI P t0 (enter0 P s t x) ld lr lw lt ∧ (enter0 P s t x).wait = s.wait ∧ (enter0 P s t x).now = s.now ∧ (enter0 P s t x).snd = s.snd ∧ (enter0 P s t x).K = s.K ∧ (enter0 P s t x).rep = s.rep ∧ (enter0 P s t x).rcvd = s.rcvd := by
  have hcr := chkCt_rg hP.hc
  have hcs := chkCt_se hP.hc
  have h0 := hP.h0
  have h2 := hP.h2
  unfold enter0
  split
  · exact ⟨h, rfl, rfl, rfl, rfl, rfl, rfl⟩
  rename_i hent
  split
  · exact ⟨⟨h.dat, h.rep, h.wt, h.ws, h.du, h.sn, h.k, h.o0, h.o1, h.en, h.kn⟩, rfl, rfl, rfl, rfl, rfl, rfl⟩
  · rename_i c hc
    obtain ⟨k1, k2⟩ := chSend_ok h.dat (show gOK P.d.length s.K true (.dat x) from ⟨rfl, hx⟩) hcr.2.1 hl (by omega) (delM_ok hP s t) hc
    have en := h.en
    refine ⟨⟨k1, h.rep, h.wt, h.ws, fun hw => h.du ?_, h.sn, h.k, fun y hy => ?_, h.o1, ?_, h.kn⟩, rfl, rfl, rfl, rfl, rfl, rfl⟩
    · unfold waitsM at hw ⊢
      simp only [Bool.and_eq_true, decide_eq_true_eq] at hw ⊢
      exact ⟨hw.1, by omega⟩
    · rcases List.mem_append.1 hy with hy | hy
      · exact h.o0 y hy
      · simp at hy; subst hy; exact ⟨ht.1, ht.2, hx⟩
    · dsimp only
      rw [List.length_append, k2];simp only [List.length_singleton, Int.natCast_add];omega
theorem enter1_ok {P : Par} {t0 : Int} (hP : okP P t0) {s : Ss} {ld lr lw lt t sr : Int} {C : Iv} (h : SI P t0 s ld lr lw lt) (hC : InI P.d.length C) (hs : subI C s.K) (hr : 1 ≤ sr ∧ sr ≤ 1099511627776) (ht : 0 ≤ t ∧ t ≤ 1099511627776) (hl : lr ≤ t + P.c.g) :
    SI P t0 (enter1 P s t sr C) ld lr lw lt ∧ (enter1 P s t sr C).wait = s.wait ∧ (enter1 P s t sr C).now = s.now ∧ (enter1 P s t sr C).snd = s.snd ∧ (enter1 P s t sr C).K = s.K ∧ (enter1 P s t sr C).dat = s.dat ∧ (enter1 P s t sr C).out0 = s.out0 ∧ (enter1 P s t sr C).rcvd = s.rcvd := by
  have hcr := chkCt_rg hP.hc
  unfold enter1
  split
  · exact ⟨h, rfl, rfl, rfl, rfl, rfl, rfl, rfl⟩
  rename_i hent
  split
  · exact ⟨⟨h.dat, h.rep, h.wt, h.ws, h.du, h.sn, h.k, h.o0, h.o1, h.en, h.kn⟩, rfl, rfl, rfl, rfl, rfl, rfl, rfl⟩
  · rename_i c hc
    obtain ⟨k1, k2⟩ := chSend_ok h.rep (show gOK P.d.length s.K false (.rep sr C) from ⟨rfl, hC, hs, hr⟩) hcr.2.1 hl (by omega) (delM_ok hP s t) hc
    have en := h.en
    refine ⟨⟨h.dat, k1, h.wt, h.ws, fun hw => h.du ?_, h.sn, h.k, h.o0, fun y hy => ?_, ?_, h.kn⟩, rfl, rfl, rfl, rfl, rfl, rfl, rfl⟩
    · unfold waitsM at hw ⊢
      simp only [Bool.and_eq_true, decide_eq_true_eq] at hw ⊢
      exact ⟨hw.1, by omega⟩
    · rcases List.mem_append.1 hy with hy | hy
      · exact h.o1 y hy
      · simp at hy; subst hy; exact ⟨hC, hs⟩
    · dsimp only
      rw [List.length_append, k2];simp only [List.length_singleton, Int.natCast_add];omega
theorem trM_ok {P : Par} {t0 : Int} (hP : okP P t0) {ld lr lt n : Int} (ht : t0 < n) (hl : ld ≤ n + P.c.g) : ∀ (w : List (Int × Sg)) {s : Ss}, s.now = n → SI P t0 { s with wait := w } ld lr n lt →
    SI P t0 (trM P w s) ld lr (n + 1) lt ∧ (trM P w s).now = n ∧ (trM P w s).snd = s.snd ∧ (trM P w s).K = s.K ∧ (trM P w s).rep = s.rep ∧ (trM P w s).rcvd = s.rcvd
  | [], s, hn, h => ⟨⟨h.dat, h.rep, fun x hx => absurd hx (by simp [trM]), List.Pairwise.nil, h.du, h.sn, h.k, h.o0, h.o1, h.en, h.kn⟩, hn, rfl, rfl, rfl, rfl⟩
  | (t, x) :: w, s, hn, h => by
    obtain ⟨w1, w2, w3⟩ := h.wt (t, x) (by simp)
    obtain ⟨p1, p2⟩ := List.pairwise_cons.1 h.ws
    dsimp only at w1 w2 w3
    unfold trM
    split
    · rename_i hts
      have hle : s.now ≤ P.e := by have := h.sn.b.2; dsimp only at this; omega
      have hS : SI P t0 { s with wait := w } ld lr n lt := ⟨h.dat, h.rep, fun y hy => h.wt y (List.mem_cons_of_mem _ hy), p2, h.du, h.sn, h.k, h.o0, h.o1, h.en, h.kn⟩
      have e0 : enter0 P { s with wait := w } s.now x = { enter0 P s s.now x with wait := w } := by
        unfold enter0
        split
        · rfl
        · show (match chSend P.c.g s.dat s.now (.dat x) (delM P s s.now).1 with | none => _ | some c => _) = _
          cases chSend P.c.g s.dat s.now (.dat x) (delM P s s.now).1 <;> rfl
      obtain ⟨k1, _, k3, k4, k5, k6, k7⟩ := enter0_ok hP (t := s.now) hS w3 ⟨by omega, hle⟩ (by omega)
      rw [e0] at k1 k3 k4 k5 k6 k7
      dsimp only at k3 k4 k5 k6 k7
      have hr := trM_ok hP ht hl w (s := enter0 P s s.now x) (by rw [k3]; exact hn) k1
      rw [k4, k5, k6, k7] at hr;exact hr
    · rename_i hts
      refine ⟨⟨h.dat, h.rep, fun y hy => ?_, h.ws, h.du, h.sn, h.k, h.o0, h.o1, h.en, h.kn⟩, hn, rfl, rfl, rfl, rfl⟩
      have := h.wt y hy
      dsimp only at this ⊢
      rcases List.mem_cons.1 hy with rfl | hy
      · exact ⟨by dsimp only at this ⊢; omega, this.2⟩
      · have h3 := p1 y hy
        dsimp only at h3
        exact ⟨by omega, this.2⟩
theorem ChOK.tail {lo hi : Int} {n : Nat} {K : Iv} {isd : Bool} {c : Ch} {f : Frm} {l : List Frm} (h : ChOK lo hi n K isd c) (e : c.fr = f :: l) : ChOK lo hi n K isd { c with fr := l } :=
  ⟨fun y hy => h.fr y (by rw [e]; exact List.mem_cons_of_mem _ hy), (by have := h.srt; rw [e] at this; exact (List.pairwise_cons.1 this).2), h.lst, (by have := h.len; rw [e] at this; simp at this; show l.length ≤ _; omega)⟩
theorem ChOK.up {lo hi : Int} {n : Nat} {K : Iv} {isd : Bool} {c : Ch} (h : ChOK lo hi n K isd c) (hh : ∀ f l, c.fr = f :: l → f.arr ≠ lo) : ChOK (lo + 1) hi n K isd c := by
  refine ⟨fun y hy => ?_, h.srt, h.lst, h.len⟩
  have hy2 := h.fr y hy
  cases e : c.fr with
  | nil => rw [e] at hy; cases hy
  | cons f l =>
    have hf := hh f l e
    have hf2 := h.fr f (by rw [e]; simp)
    have hs := h.srt
    rw [e] at hs hy
    have : f.arr ≤ y.arr := by
      rcases List.mem_cons.1 hy with rfl | hy
      · exact Int.le_refl _
      · exact (List.pairwise_cons.1 hs).1 y hy
    exact ⟨by omega, hy2.2⟩
theorem whole_sub {n : Int} {K K' : Iv} (h : InI n K') (hn : 0 < n) (hs : subI K K') (hw : K = [(0, n)]) : K' = [(0, n)] :=
  h.all hn (fun t a b => hs t (by rw [hw, mem_one, decide_eq_true_iff]; exact ⟨a, b⟩))
def rcOK (P : Par) (s : Ss) : Prop := s.rcvd = true ↔ s.K = [((0 : Int), (P.d.length : Int))]
theorem dlv1_ok {P : Par} {t0 : Int} (hP : okP P t0) {s : Ss} {ld lr lw lt n : Int} {x : Sg} (h : SI P t0 s ld lr lw lt) (hrc : rcOK P s) (hn : s.now = n) (hx : okG P.d.length x) (ht : 0 ≤ n ∧ n ≤ 1099511627776) (hl : lr ≤ n + P.c.g) :
    SI P t0 (dlv1 P s x) ld lr lw lt ∧ rcOK P (dlv1 P s x) ∧ (dlv1 P s x).now = n ∧ (dlv1 P s x).snd = s.snd ∧ (dlv1 P s x).wait = s.wait ∧ (dlv1 P s x).dat = s.dat ∧ (dlv1 P s x).out0 = s.out0 := by
  obtain ⟨h1, h2, h3, h4, h5⟩ := hx
  have hn1 := hP.n1
  obtain ⟨k1, k2, _⟩ := h.k.put (a := (x.a : Int)) (b := (x.b : Int)) (by omega) (by omega) (by omega)
  have hsub : subI s.K (unionI s.K [((x.a : Int), (x.b : Int))]) := fun t hm => by rw [k2, hm]; rfl
  have hrw : s.rcvd = true → unionI s.K [((x.a : Int), (x.b : Int))] = [((0 : Int), (P.d.length : Int))] := fun hr => whole_sub k1 (by omega) hsub (hrc.1 hr)
  unfold dlv1;simp only
  generalize unionI s.K [((x.a : Int), (x.b : Int))] = K2 at k1 k2 hsub hrw
  have hS : SI P t0 { s with K := K2 } ld lr lw lt :=
    ⟨h.dat.mono (Int.le_refl _) hsub, h.rep.mono (Int.le_refl _) hsub, h.wt, h.ws, h.du, ⟨h.sn.b, h.sn.r, h.sn.k, fun t hm => hsub t (h.sn.ks t hm), h.sn.st⟩, k1, h.o0, fun y hy => ⟨(h.o1 y hy).1, fun t hm => hsub t ((h.o1 y hy).2 t hm)⟩, h.en, h.kn⟩
  -- with or without a report
  have key : ∃ s1, (if 1 ≤ x.sr then enter1 P { s with K := K2 } s.now x.sr K2 else { s with K := K2 }) = s1 ∧ SI P t0 s1 ld lr lw lt ∧ s1.now = n ∧ s1.snd = s.snd ∧ s1.wait = s.wait ∧ s1.dat = s.dat ∧ s1.out0 = s.out0 ∧ s1.K = K2 ∧ s1.rcvd = s.rcvd := by
    by_cases hc : 1 ≤ x.sr
    · rw [if_pos hc]
      obtain ⟨j1, j2, j3, j4, j5, j6, j7, j8⟩ := enter1_ok hP (t := s.now) (sr := x.sr) (C := K2) hS k1 (subI.refl _) ⟨hc, h5⟩ (by omega) (by omega)
      exact ⟨_, rfl, j1, by rw [j3]; exact hn, j4, j2, j6, j7, j5, j8⟩
    · rw [if_neg hc]
      exact ⟨_, rfl, hS, hn, rfl, rfl, rfl, rfl, rfl, rfl⟩
  obtain ⟨s1, e, i1, i2, i3, i4, i5, i6, i7, i8⟩ := key
  rw [e]
  split
  · rename_i hc
    refine ⟨⟨i1.dat, i1.rep, i1.wt, i1.ws, i1.du, i1.sn, i1.k, i1.o0, i1.o1, i1.en, i1.kn⟩, ?_, i2, i3, i4, i5, i6⟩
    exact ⟨fun _ => by show s1.K = _; rw [i7]; exact hc.2, fun _ => rfl⟩
  · rename_i hc
    refine ⟨i1, ?_, i2, i3, i4, i5, i6⟩;unfold rcOK;rw [i7, i8]
    refine ⟨hrw, fun hw => ?_⟩
    cases hr : s.rcvd with
    | true => rfl
    | false => exact absurd ⟨by rw [i8, hr], hw⟩ hc
theorem dlvM_ok {P : Par} {t0 : Int} (hP : okP P t0) {lr lw lt n : Int} (ht : 0 ≤ n) (hl : lr ≤ n + P.c.g) : ∀ (f : Nat) {s : Ss}, s.dat.fr.length ≤ f → SI P t0 s n lr lw lt → rcOK P s → s.now = n →
    SI P t0 (dlvM P f s) (n + 1) lr lw lt ∧ rcOK P (dlvM P f s) ∧ (dlvM P f s).now = n ∧ (dlvM P f s).snd = s.snd ∧ (dlvM P f s).wait = s.wait ∧ (dlvM P f s).out0 = s.out0
  | 0, s, hf, h, hr, hn => by
    refine ⟨⟨h.dat.up (fun f l e => ?_), h.rep, h.wt, h.ws, h.du, h.sn, h.k, h.o0, h.o1, h.en, h.kn⟩, hr, hn, rfl, rfl, rfl⟩
    rw [e] at hf
    simp at hf
  | f + 1, s, hf, h, hr, hn => by
    unfold dlvM
    split
    · rename_i t num x l e
      have hfr := h.dat.fr ⟨t, num, .dat x⟩ (by rw [e]; simp)
      have hxo : okG P.d.length x := hfr.2.2.2.2.2
      split
      · rename_i hts
        have hS : SI P t0 { s with dat := { s.dat with fr := l } } n lr lw lt := ⟨h.dat.tail e, h.rep, h.wt, h.ws, h.du, h.sn, h.k, h.o0, h.o1, h.en, h.kn⟩
        obtain ⟨j1, j2, j3, j4, j5, j6, j7⟩ := dlv1_ok hP hS hr hn hxo ⟨ht, by have := hfr.2.1; have := (chkCt_rg hP.hc).2.2; have := hP.h2; dsimp only at *; omega⟩ hl
        have hlen : (dlv1 P { s with dat := { s.dat with fr := l } } x).dat.fr.length ≤ f := by
          rw [j6];rw [e] at hf
          simp at hf
          exact hf
        obtain ⟨i1, i2, i3, i4, i5, i6⟩ := dlvM_ok hP ht hl f hlen j1 j2 j3
        exact ⟨i1, i2, i3, i4.trans j4, i5.trans j5, i6.trans j7⟩
      · rename_i hts
        refine ⟨⟨h.dat.up (fun g l' e' => ?_), h.rep, h.wt, h.ws, h.du, h.sn, h.k, h.o0, h.o1, h.en, h.kn⟩, hr, hn, rfl, rfl, rfl⟩
        rw [e] at e'
        obtain ⟨rfl, _⟩ := List.cons.inj e'
        exact fun hh => hts (by dsimp only at hh; omega)
    · rename_i hno
      refine ⟨⟨h.dat.up (fun g l' e' => ?_), h.rep, h.wt, h.ws, h.du, h.sn, h.k, h.o0, h.o1, h.en, h.kn⟩, hr, hn, rfl, rfl, rfl⟩
      obtain ⟨ga, gn, gg⟩ := g
      cases gg with
      | dat x => exact absurd e' (hno ga gn x l')
      | rep sr C =>
        have := (h.dat.fr ⟨ga, gn, .rep sr C⟩ (by rw [e']; simp)).2.2.2.2
        exact absurd this.1 (by simp)
theorem timed_ok {rate : Int} {n : Nat} (hr : 1 ≤ rate) : ∀ (G : List Sg) (t : Int), (∀ x ∈ G, okG n x) →
    (∀ x ∈ timed rate t G, t + 1 ≤ x.1 ∧ x.1 ≤ endG rate t G ∧ okG n x.2) ∧ (timed rate t G).Pairwise (fun x y => x.1 < y.1)
  | [], t, _ => ⟨fun x hx => absurd hx (by simp [timed]), List.Pairwise.nil⟩
  | x :: G, t, h => by
    obtain ⟨h1, h2, h3, _⟩ := h x (by simp)
    have g1 := segT_pos hr (len := ((x.b - x.a : Nat) : Int)) (by omega)
    obtain ⟨i1, i2⟩ := timed_ok hr G (t + segT rate ((x.b - x.a : Nat) : Int)) (fun y hy => h y (by simp [hy]))
    have hE := (endG_le hr (G := G) (t := t + segT rate ((x.b - x.a : Nat) : Int)) (fun y hy => h y (by simp [hy]))).1
    refine ⟨fun y hy => ?_, List.pairwise_cons.2 ⟨fun y hy => ?_, i2⟩⟩
    · rcases List.mem_cons.1 hy with rfl | hy
      · exact ⟨by dsimp only; omega, by show _ ≤ endG rate _ G; dsimp only; omega, h x (by simp)⟩
      · obtain ⟨j1, j2, j3⟩ := i1 y hy
        exact ⟨by omega, j2, j3⟩
    · have := (i1 y hy).1
      dsimp only
      omega
theorem sendM_ok {P : Par} {t0 : Int} (hP : okP P t0) {K : Iv} {s : Sd} {t : Int} {G : List Sg} (hb : P.c.s ≤ s.busy ∧ s.busy ≤ P.e) (hr : 1 ≤ s.sr ∧ s.sr ≤ s.busy) (hk : InI P.d.length s.K) (hks : subI s.K K) (hw : s.K ≠ [((0 : Int), (P.d.length : Int))]) (hG : ∀ x ∈ G, okG P.d.length x) (hne : G ≠ []) (ht : s.busy ≤ t) :
    SdOK P K (sendM P s t (s.sr + 1) G).1 ∧ (sendM P s t (s.sr + 1) G).1.K = s.K ∧ (∀ x ∈ (sendM P s t (s.sr + 1) G).2, t + 1 ≤ x.1 ∧ x.1 ≤ (sendM P s t (s.sr + 1) G).1.busy ∧ okG P.d.length x.2) ∧ (sendM P s t (s.sr + 1) G).2.Pairwise (fun x y => x.1 < y.1) ∧ ((sendM P s t (s.sr + 1) G).1.st = 1 → t + 1 ≤ (sendM P s t (s.sr + 1) G).1.due) ∧ (sendM P s t (s.sr + 1) G).1.st ≠ 2 := by
  have hcr := chkCt_rg hP.hc
  have hl := List.length_pos_iff.2 hne
  have hE := (endG_le hcr.1.1 (G := G) (t := t) hG).1
  unfold sendM
  split
  · exact ⟨⟨hb, hr, hk, hks, .inr (.inr ⟨rfl, rfl⟩)⟩, rfl, fun x hx => (by cases hx), List.Pairwise.nil, fun h => by simp at h, by simp⟩
  · rename_i hle
    obtain ⟨i1, i2⟩ := timed_ok hcr.1.1 G t hG
    exact ⟨⟨⟨by dsimp only; omega, by dsimp only; omega⟩, ⟨by dsimp only; omega, by dsimp only; omega⟩, hk, hks, .inl ⟨rfl, hw, rfl⟩⟩, rfl, i1, i2, fun _ => by dsimp only; omega, by simp⟩
theorem batM_ok {P : Par} {t0 : Int} (hP : okP P t0) {K : Iv} {sr : Int} (hk : InI P.d.length K) (hw : K ≠ [((0 : Int), (P.d.length : Int))]) (hr : 0 ≤ sr ∧ sr ≤ 1099511627776) :
    (∀ x ∈ bat sr (pcsAll (missI P.d.length K)), okG P.d.length x) ∧ bat sr (pcsAll (missI P.d.length K)) ≠ [] := by
  have hn := hP.n1
  have hM := (missI_ok hk (by omega)).1
  refine ⟨bat_ok hM hr.1 hr.2, fun e => ?_⟩
  have h1 := pcsAll_ne hM.1 (fun x hx => (hM.at x hx).1) (missI_ne hk (by omega) hw)
  have h2 := bat_len sr (pcsAll (missI P.d.length K))
  rw [e] at h2;exact h1 (List.eq_nil_of_length_eq_zero h2.symm)
theorem hearM_ok {P : Par} {t0 : Int} (hP : okP P t0) {K : Iv} {s : Sd} {t sr : Int} {C : Iv} (h : SdOK P K s) (hC : InI P.d.length C) (hCs : subI C K) (ht : s.busy ≤ t) :
    SdOK P K (hearM P s t sr C).1 ∧ (∀ x ∈ (hearM P s t sr C).2, t + 1 ≤ x.1 ∧ x.1 ≤ (hearM P s t sr C).1.busy ∧ okG P.d.length x.2) ∧ (hearM P s t sr C).2.Pairwise (fun x y => x.1 < y.1) ∧ ((hearM P s t sr C).1.st = 1 → (hearM P s t sr C).1 = s ∨ t + 1 ≤ (hearM P s t sr C).1.due) ∧ (s.K = [((0 : Int), (P.d.length : Int))] → (hearM P s t sr C).1 = s) := by
  have hcr := chkCt_rg hP.hc
  have h2 := hP.h2
  unfold hearM
  split
  · exact ⟨h, fun x hx => (by cases hx), List.Pairwise.nil, fun _ => .inl rfl, fun _ => rfl⟩
  rename_i hst
  have hs1 : s.st = 1 := Decidable.byContradiction (fun h => hst (.inl h))
  have hKw : s.K ≠ [((0 : Int), (P.d.length : Int))] := by
    rcases h.st with ⟨_, h1, _⟩ | ⟨h1, _⟩ | ⟨h1, _⟩
    · exact h1
    · omega
    · omega
  obtain ⟨u1, u2⟩ := unionI_in h.k hC
  have hus : subI (unionI s.K C) K := fun x hx => by
    rw [u2, Bool.or_eq_true] at hx;exact hx.elim (h.ks x) (hCs x)
  have hb := h.b
  have hr := h.r
  split
  · rename_i hw
    exact ⟨⟨hb, hr, u1, hus, .inr (.inl ⟨rfl, hw, rfl⟩)⟩, fun x hx => (by cases hx), List.Pairwise.nil, fun h => by simp at h, fun h => absurd h hKw⟩
  · rename_i hw
    obtain ⟨b1, b2⟩ := batM_ok hP (sr := s.sr + 1) u1 hw (by omega)
    obtain ⟨i1, i2, i3, i4, i5, i6⟩ := sendM_ok hP (K := K) (s := { s with K := unionI s.K C }) (t := t) (G := batM P { s with K := unionI s.K C }) hb hr u1 hus hw b1 b2 ht
    exact ⟨i1, i3, i4, fun h => .inr (i5 h), fun h => absurd h hKw⟩
theorem lsn1_ok {P : Par} {t0 : Int} (hP : okP P t0) {s : Ss} {ld lr lt n sr : Int} {C : Iv} (h : SI P t0 s ld lr (n + 1) lt) (hn : s.now = n) (hC : InI P.d.length C) (hCs : subI C s.K) (hlt : lt ≤ n + 1) :
    SI P t0 (lsn1 P s sr C) ld lr (n + 1) lt ∧ (lsn1 P s sr C).now = n ∧ (lsn1 P s sr C).K = s.K ∧ (lsn1 P s sr C).rcvd = s.rcvd ∧ (lsn1 P s sr C).rep = s.rep ∧ (lsn1 P s sr C).out0 = s.out0 := by
  unfold lsn1
  split
  · exact ⟨h, hn, rfl, rfl, rfl, rfl⟩
  rename_i hb
  obtain ⟨i1, i2, i3, i4, i5⟩ := hearM_ok hP (t := s.now) (sr := sr) h.sn hC hCs (by omega)
  have hw : s.wait = [] := by
    cases e : s.wait with
    | nil => rfl
    | cons x w =>
      have := h.wt x (by rw [e]; simp)
      omega
  simp only
  generalize hearM P s.snd s.now sr C = r at i1 i2 i3 i4 i5
  have hkn : s.kn = true → r.1.K = [((0 : Int), (P.d.length : Int))] := fun hk => by rw [i5 (h.kn hk)]; exact h.kn hk
  have hS : ∀ (b : Bool) (a : Int), (b = true → r.1.K = [((0 : Int), (P.d.length : Int))]) → SI P t0 { s with snd := r.1, wait := s.wait ++ r.2, kn := b, knAt := a } ld lr (n + 1) lt := fun b a hb2 =>
    ⟨h.dat, h.rep, fun x hx => by
      dsimp only at hx ⊢
      rw [hw, List.nil_append] at hx;rw [← hn]
      exact i2 x hx, by dsimp only; rw [hw, List.nil_append]; exact i3, fun hwt => by
      unfold waitsM at hwt;simp only [Bool.and_eq_true, decide_eq_true_eq] at hwt
      rcases i4 hwt.1 with h4 | h4
      · dsimp only
        rw [h4]
        exact h.du (by unfold waitsM; simp only [Bool.and_eq_true, decide_eq_true_eq]; exact ⟨by rw [← h4]; exact hwt.1, hwt.2⟩)
      · dsimp only
        omega, i1, h.k, h.o0, h.o1, h.en, hb2⟩
  split
  · rename_i hc
    refine ⟨hS true s.now (fun _ => ?_), hn, rfl, rfl, rfl, rfl⟩
    rcases i1.st with ⟨g, _⟩ | ⟨_, g, _⟩ | ⟨g, _⟩
    · have := hc.2; omega
    · exact g
    · have := hc.2; omega
  · exact ⟨hS s.kn s.knAt hkn, hn, rfl, rfl, rfl, rfl⟩
theorem lsnM_ok {P : Par} {t0 : Int} (hP : okP P t0) {ld lt n : Int} (hlt : lt ≤ n + 1) : ∀ (f : Nat) {s : Ss}, s.rep.fr.length ≤ f → SI P t0 s ld n (n + 1) lt → s.now = n →
    SI P t0 (lsnM P f s) ld (n + 1) (n + 1) lt ∧ (lsnM P f s).now = n ∧ (lsnM P f s).K = s.K ∧ (lsnM P f s).rcvd = s.rcvd ∧ (lsnM P f s).out0 = s.out0
  | 0, s, hf, h, hn => by
    refine ⟨⟨h.dat, h.rep.up (fun f l e => ?_), h.wt, h.ws, h.du, h.sn, h.k, h.o0, h.o1, h.en, h.kn⟩, hn, rfl, rfl, rfl⟩
    rw [e] at hf
    simp at hf
  | f + 1, s, hf, h, hn => by
    unfold lsnM
    split
    · rename_i t num sr C l e
      have hfr := h.rep.fr ⟨t, num, .rep sr C⟩ (by rw [e]; simp)
      obtain ⟨_, hC, hCs, _⟩ := hfr.2.2.2.2
      split
      · rename_i hts
        have hS : SI P t0 { s with rep := { s.rep with fr := l } } ld n (n + 1) lt := ⟨h.dat, h.rep.tail e, h.wt, h.ws, h.du, h.sn, h.k, h.o0, h.o1, h.en, h.kn⟩
        obtain ⟨j1, j2, j3, j4, j5, j6⟩ := lsn1_ok hP (sr := sr) hS hn hC hCs hlt
        have hlen : (lsn1 P { s with rep := { s.rep with fr := l } } sr C).rep.fr.length ≤ f := by
          rw [j5];rw [e] at hf
          simp at hf
          exact hf
        obtain ⟨i1, i2, i3, i4, i5⟩ := lsnM_ok hP hlt f hlen j1 j2
        exact ⟨i1, i2, i3.trans j3, i4.trans j4, i5.trans j6⟩
      · rename_i hts
        refine ⟨⟨h.dat, h.rep.up (fun g l' e' => ?_), h.wt, h.ws, h.du, h.sn, h.k, h.o0, h.o1, h.en, h.kn⟩, hn, rfl, rfl, rfl⟩
        rw [e] at e'
        obtain ⟨rfl, _⟩ := List.cons.inj e'
        exact fun hh => hts (by dsimp only at hh; omega)
    · rename_i hno
      refine ⟨⟨h.dat, h.rep.up (fun g l' e' => ?_), h.wt, h.ws, h.du, h.sn, h.k, h.o0, h.o1, h.en, h.kn⟩, hn, rfl, rfl, rfl⟩
      obtain ⟨ga, gn, gg⟩ := g
      cases gg with
      | rep sr C => exact absurd e' (hno ga gn sr C l')
      | dat x =>
        have := (h.rep.fr ⟨ga, gn, .dat x⟩ (by rw [e']; simp)).2.2.2.2
        exact absurd this.1 (by simp)
theorem expM_ok {P : Par} {t0 : Int} (hP : okP P t0) {s : Ss} {ld lr n : Int} (h : SI P t0 s ld lr (n + 1) n) (hn : s.now = n) :
    SI P t0 (expM P s) ld lr (n + 1) (n + 1) ∧ (expM P s).now = n ∧ (expM P s).K = s.K ∧ (expM P s).rcvd = s.rcvd ∧ (expM P s).out0 = s.out0 := by
  have hcr := chkCt_rg hP.hc
  have h2 := hP.h2
  unfold expM
  split
  · rename_i hc
    refine ⟨⟨h.dat, h.rep, h.wt, h.ws, fun hw => ?_, h.sn, h.k, h.o0, h.o1, h.en, h.kn⟩, hn, rfl, rfl, rfl⟩
    have := h.du hw
    rcases hc with hc | hc
    · rw [hc] at hw; cases hw
    · omega
  rename_i hc
  have hwt : waitsM s = true := by
    cases hw : waitsM s with
    | true => rfl
    | false => exact absurd (.inl hw) hc
  have hdue : s.snd.due = s.now := Decidable.byContradiction (fun h => hc (.inr h))
  have hst : s.snd.st = 1 := by
    unfold waitsM at hwt;simp only [Bool.and_eq_true, decide_eq_true_eq] at hwt;exact hwt.1
  obtain ⟨hKw, hdu⟩ : s.snd.K ≠ [((0 : Int), (P.d.length : Int))] ∧ s.snd.due = s.snd.busy + 2 * P.c.g + 1 := by
    rcases h.sn.st with ⟨_, g⟩ | ⟨g, _⟩ | ⟨g, _⟩
    · exact g
    · omega
    · omega
  have hw : s.wait = [] := by
    cases e : s.wait with
    | nil => rfl
    | cons x w =>
      have := h.wt x (by rw [e]; simp)
      omega
  have hb := h.sn.b
  have hr := h.sn.r
  obtain ⟨b1, b2⟩ := batM_ok hP (sr := s.snd.sr + 1) h.sn.k hKw (by omega)
  have hl := List.length_pos_iff.2 b2
  have hdr : (batM P s.snd).drop ((batM P s.snd).length - 1) ≠ [] := fun e => by
    have h3 := List.drop_eq_nil_iff.1 e
    have h4 : 0 < (batM P s.snd).length := hl
    omega
  obtain ⟨i1, i2, i3, i4, i5, i6⟩ := sendM_ok hP (K := s.K) (s := s.snd) (t := s.now) (G := (batM P s.snd).drop ((batM P s.snd).length - 1)) hb hr h.sn.k h.sn.ks hKw (fun x hx => b1 x (List.mem_of_mem_drop hx)) hdr (by omega)
  simp only
  have ew : waitM P s.snd s.now = sendM P s.snd s.now (s.snd.sr + 1) ((batM P s.snd).drop ((batM P s.snd).length - 1)) := rfl
  rw [ew]
  generalize sendM P s.snd s.now (s.snd.sr + 1) ((batM P s.snd).drop ((batM P s.snd).length - 1)) = r at i1 i2 i3 i4 i5
  refine ⟨⟨h.dat, h.rep, fun x hx => ?_, ?_, fun hw2 => ?_, i1, h.k, h.o0, h.o1, h.en, fun hk => by rw [i2]; exact h.kn hk⟩, by first | exact hn | trivial, by first | rfl | trivial, by first | rfl | trivial, by first | rfl | trivial⟩
  · dsimp only at hx ⊢
    rw [hw, List.nil_append] at hx;rw [← hn];exact i3 x hx
  · dsimp only
    rw [hw, List.nil_append];exact i4
  · unfold waitsM at hw2
    simp only [Bool.and_eq_true, decide_eq_true_eq] at hw2
    have := i5 hw2.1
    dsimp only
    omega
theorem minO_in {a b : Option Int} {t : Int} (h : minO a b = some t) : a = some t ∨ b = some t := by
  cases a with
  | none => exact .inr h
  | some a =>
    cases b with
    | none => exact .inl h
    | some b =>
      by_cases hb : b < a
      · have e : minO (some a) (some b) = some b := if_pos hb
        exact .inr (e ▸ h)
      · have e : minO (some a) (some b) = some a := if_neg hb
        exact .inl (e ▸ h)
theorem minO_all {a b : Option Int} {t : Int} (h : ∀ x, minO a b = some x → t ≤ x) : (∀ x, a = some x → t ≤ x) ∧ (∀ x, b = some x → t ≤ x) := by
  cases a with
  | none => exact ⟨fun x hx => (by cases hx), fun x hx => h x hx⟩
  | some a =>
    cases b with
    | none => exact ⟨fun x hx => h x hx, fun x hx => (by cases hx)⟩
    | some b =>
      by_cases hb : b < a
      · have h1 := h b (by unfold minO; exact if_pos hb)
        exact ⟨fun x hx => by have := Option.some.inj hx; omega, fun x hx => by have := Option.some.inj hx; omega⟩
      · have h1 := h a (by unfold minO; exact if_neg hb)
        exact ⟨fun x hx => by have := Option.some.inj hx; omega, fun x hx => by have := Option.some.inj hx; omega⟩
theorem clrM_ok {P : Par} {t0 : Int} {s : Ss} {ld lr lw lt : Int} (h : SI P t0 s ld lr lw lt) : SI P t0 (clrM s) ld lr lw lt ∧ (clrM s).now = s.now ∧ (clrM s).K = s.K ∧ (clrM s).rcvd = s.rcvd ∧ (clrM s).out0 = s.out0 := by
  unfold clrM
  split
  · exact ⟨⟨h.dat, h.rep, fun x hx => absurd hx (by simp), List.Pairwise.nil, h.du, h.sn, h.k, h.o0, h.o1, h.en, h.kn⟩, rfl, rfl, rfl, rfl⟩
  · exact ⟨h, rfl, rfl, rfl, rfl⟩
theorem ChOK.ge {lo hi : Int} {n : Nat} {K : Iv} {isd : Bool} {c : Ch} (h : ChOK lo hi n K isd c) {t : Int} (ht : ∀ x, c.fr.head?.map (·.arr) = some x → t ≤ x) : ChOK t hi n K isd c := by
  refine ⟨fun y hy => ?_, h.srt, h.lst, h.len⟩
  have hy2 := h.fr y hy
  cases e : c.fr with
  | nil => rw [e] at hy; cases hy
  | cons f l =>
    have hf := ht f.arr (by rw [e]; rfl)
    have hs := h.srt
    rw [e] at hs hy
    have : f.arr ≤ y.arr := by
      rcases List.mem_cons.1 hy with rfl | hy
      · exact Int.le_refl _
      · exact (List.pairwise_cons.1 hs).1 y hy
    exact ⟨by omega, hy2.2⟩
theorem next_ok {P : Par} {t0 : Int} (hP : okP P t0) {s : Ss} {u t : Int} (h : SI P t0 s u u u u) (e : nextM s = some t) : u ≤ t ∧ t ≤ 2199023255552 ∧ SI P t0 s t t t t := by
  have hcr := chkCt_rg hP.hc
  have h2 := hP.h2
  have hb := h.sn.b
  unfold nextM at e
  have hall : ∀ x, minO (minO (minO (s.wait.head?.map (·.1)) (s.dat.fr.head?.map (·.arr))) (s.rep.fr.head?.map (·.arr))) (if waitsM s then some s.snd.due else none) = some x → t ≤ x := fun x hx => by rw [e] at hx; have := Option.some.inj hx; omega
  obtain ⟨g1, g2⟩ := minO_all hall
  obtain ⟨g3, g4⟩ := minO_all g1
  obtain ⟨g5, g6⟩ := minO_all g3
  have hdue : waitsM s = true → s.snd.due = s.snd.busy + 2 * P.c.g + 1 := fun hw => by
    unfold waitsM at hw;simp only [Bool.and_eq_true, decide_eq_true_eq] at hw
    rcases h.sn.st with ⟨_, _, g⟩ | ⟨g, _⟩ | ⟨g, _⟩
    · exact g
    · omega
    · omega
  have hbd : u ≤ t ∧ t ≤ 2199023255552 := by
    rcases minO_in e with e | e
    · rcases minO_in e with e | e
      · rcases minO_in e with e | e
        · cases e3 : s.wait with
          | nil => rw [e3] at e; cases e
          | cons y w =>
            have hy := h.wt y (by rw [e3]; simp)
            rw [e3] at e
            have := Option.some.inj (show some y.1 = some t from e)
            omega
        · cases e3 : s.dat.fr with
          | nil => rw [e3] at e; cases e
          | cons y w =>
            have hy := h.dat.fr y (by rw [e3]; simp)
            rw [e3] at e
            have := Option.some.inj (show some y.arr = some t from e)
            omega
      · cases e3 : s.rep.fr with
        | nil => rw [e3] at e; cases e
        | cons y w =>
          have hy := h.rep.fr y (by rw [e3]; simp)
          rw [e3] at e
          have := Option.some.inj (show some y.arr = some t from e)
          omega
    · split at e
      · rename_i hw
        have h3 := h.du hw
        have h4 := hdue hw
        have := Option.some.inj e
        omega
      · cases e
  refine ⟨hbd.1, hbd.2, ⟨h.dat.ge g6, h.rep.ge g4, fun x hx => ?_, h.ws, fun hw => g2 _ (if_pos hw), h.sn, h.k, h.o0, h.o1, h.en, h.kn⟩⟩
  have hx2 := h.wt x hx
  refine ⟨?_, hx2.2⟩
  cases e3 : s.wait with
  | nil => rw [e3] at hx; cases hx
  | cons y w =>
    have hy := g5 y.1 (by rw [e3]; rfl)
    have hs := h.ws
    rw [e3] at hs hx
    rcases List.mem_cons.1 hx with rfl | hx
    · exact hy
    · have := (List.pairwise_cons.1 hs).1 x hx
      omega
theorem begin_ok {P : Par} {t0 : Int} (hP : okP P t0) (hE : endG P.c.r t0 (bat 1 (pcsAll (missI P.d.length []))) ≤ P.e) : SI P t0 (beginM P t0) (t0 + 1) (t0 + 1) (t0 + 1) (t0 + 1) ∧ rcOK P (beginM P t0) := by
  have hcr := chkCt_rg hP.hc
  have hcs := chkCt_se hP.hc
  have h0 := hP.h0
  have hn := hP.n1
  have hw : ([] : Iv) ≠ [((0 : Int), (P.d.length : Int))] := by simp
  obtain ⟨b1, b2⟩ := batM_ok hP (sr := 1) (InI.nil _) hw (by omega)
  obtain ⟨i1, i2⟩ := timed_ok hcr.1.1 _ t0 b1
  have hl := List.length_pos_iff.2 b2
  have hE2 := (endG_le hcr.1.1 (t := t0) b1).1
  unfold beginM;simp only
  generalize bat 1 (pcsAll (missI (P.d.length : Int) [])) = G at *
  refine ⟨⟨ChOK.nil _ _ _ _ _, ChOK.nil _ _ _ _ _, i1, i2, fun _ => by dsimp only; omega, ⟨⟨by dsimp only; omega, hE⟩, ⟨by dsimp only; omega, by dsimp only; omega⟩, InI.nil _, subI.refl _, .inl ⟨rfl, hw, rfl⟩⟩, InI.nil _, fun x hx => absurd hx (by simp), fun x hx => absurd hx (by simp), by simp, fun h => by simp at h⟩, ?_⟩
  unfold rcOK
  simp
end Go.Step
namespace Go.Eng
variable {C:Cx} {R H:List PH} {L:Env} {dst:Option Tmp} {ty:TypeId} {pos:String} {aft:Array Edge} {g:Option (Nat × Bool)}
variable {x y:Operand} {xT yT:TypeId} {m n:Int} {k:IntKind}
theorem GL (h1:evalE L x=some (.int .i64 m)) (h2:evalE L y=some (.int .i64 n)) (hn:0<n) (hb:In64 (m.tdiv n)):Quiet C R H L ⟨dst,.binOp .quo xT x y yT,ty,pos,aft,g⟩ (.int .i64 (m.tdiv n)):=
  ⟨by intro c; simp,fun a w hx _=>by
    have e1:=hx x (by simp [Op.operands]) _ h1
    have e2:=hx y (by simp [Op.operands]) _ h2
    have hz:n≠0:=by omega
    simp [execOp,e1,e2,eqGuard,binOp,Op.intDiv,hz,wrap_in hb]⟩
theorem FP (h1:evalE L x=some (.int k m)) (h2:evalE L y=some (.int k n)) (hn:0<n):Quiet C R H L ⟨dst,.binOp .rem xT x y yT,ty,pos,aft,g⟩ (.int k (m.tmod n)):=
  ⟨by intro c; simp,fun a w hx _=>by
    have e1:=hx x (by simp [Op.operands]) _ h1
    have e2:=hx y (by simp [Op.operands]) _ h2
    have hz:n≠0:=by omega
    simp [execOp,e1,e2,eqGuard,binOp,Op.intDiv,hz]⟩
theorem tdiv_bd {m n:Int} (hn:0<n) (hm:-9223372036854775808≤m∧m≤9223372036854775807):-9223372036854775808≤m.tdiv n∧m.tdiv n≤9223372036854775807:=by
  rcases Int.le_total 0 m with h|h
  · rw [Int.tdiv_eq_ediv_of_nonneg h]
    have h1:=Int.ediv_nonneg h (Int.le_of_lt hn)
    have h2:=Int.ediv_le_self n h
    omega
  · have e:m.tdiv n = -((-m).tdiv n):=by rw [Int.neg_tdiv,Int.neg_neg]
    rw [e,Int.tdiv_eq_ediv_of_nonneg (by omega)]
    have h1:=Int.ediv_nonneg (show 0 ≤ -m by omega) (Int.le_of_lt hn)
    have h2:=Int.ediv_le_self n (show 0 ≤ -m by omega)
    omega
theorem split_eq {m n:Int} (hn:0<n):(if m.tmod n<0 then m.tmod n+n else m.tmod n)=m % n∧(if m.tmod n<0 then m.tdiv n-1 else m.tdiv n)=m / n:=by
  have h1:=Int.mul_tdiv_add_tmod m n
  have h2:=Int.mul_ediv_add_emod m n
  have h3:=Int.emod_nonneg m (show n≠0 by omega)
  have h4:=Int.emod_lt_of_pos m hn
  have h5:=Int.tmod_lt_of_pos m hn
  have h6:-n<m.tmod n:=by
    rcases Int.le_total 0 m with h|h
    · have:=Int.tmod_nonneg n h
      omega
    · have e:m.tmod n = -((-m).tmod n):=by rw [Int.neg_tmod,Int.neg_neg]
      have:=Int.tmod_lt_of_pos (-m) hn
      omega
  have key:∀ a b r s:Int,n*a+r=n*b+s→0≤r→r<n→0≤s→s<n→a=b∧r=s:=fun a b r s e r0 r1 s0 s1=>by
    have e2:n*(a-b)=s-r:=by rw [Int.mul_sub]; omega
    have:a-b=0:=by
      rcases Int.lt_trichotomy (a-b) 0 with h|h|h
      · have:=Int.mul_le_mul_of_nonneg_left (show a-b ≤ -1 by omega) (Int.le_of_lt hn)
        omega
      · exact h
      · have:=Int.mul_le_mul_of_nonneg_left (show 1≤a-b by omega) (Int.le_of_lt hn)
        omega
    have hab:a=b:=by omega
    subst hab
    exact ⟨rfl,by omega⟩
  by_cases h:m.tmod n<0
  · rw [if_pos h,if_pos h]
    obtain ⟨k1,k2⟩:=key (m.tdiv n-1) (m / n) (m.tmod n+n) (m % n) (by rw [Int.mul_sub]; omega) (by omega) (by omega) h3 h4
    exact ⟨k2,k1⟩
  · rw [if_neg h,if_neg h]
    obtain ⟨k1,k2⟩:=key (m.tdiv n) (m / n) (m.tmod n) (m % n) (by omega) (by omega) (by omega) h3 h4
    exact ⟨k2,k1⟩
end Go.Eng
namespace Go.Eng
theorem ownS_sng {e:TypeId} {s n b:Nat} {cs:List Value} (hl:cs.length=n*s) (hn:n≤maxLen):OwnS e s (.slice (some ⟨b,0,none⟩) n n) n cs (sng b (.cells cs.toArray e (0,0))):=
  ⟨hl,.inr ⟨b,n,cs.toArray,rfl,rfl,Nat.le_refl _,hn,by simpa using hl,by rw [← hl]; simp⟩⟩
end Go.Eng
namespace Go.Step
open Go.Eng
def encMsg (d:List UInt8) (v:Value):Msg→List Value
  | .dat x=>encG 0 d x
  | .rep sr _=>encRp 0 sr d.length v
def encF (d:List UInt8) (f:Frm × Value):List Value:=int f.1.arr::int f.1.num::encMsg d f.2 f.1.g
theorem encF_len (d:List UInt8) (f:Frm × Value):(encF d f).length=10:=by
  obtain ⟨⟨a,n,g⟩,v⟩:=f
  cases g <;> rfl
theorem encMsg_ones {d:List UInt8} {v:Value} {g:Msg} (hv:v.oneCell'=true):∀ u∈encMsg d v g,u.oneCell'=true:=by
  cases g with
  | dat x=>exact encG_ones 0 d x
  | rep sr K =>
    intro u hu
    simp only [encMsg,encRp,List.mem_cons,List.not_mem_nil,or_false] at hu
    rcases hu with rfl|rfl|rfl|rfl|rfl|rfl|rfl|rfl <;> first|rfl|exact hv
theorem encF_ones {d:List UInt8} {F:List (Frm × Value)} (h:∀ f∈F,f.2.oneCell'=true):∀ u∈F.flatMap (encF d),u.oneCell'=true:=by
  intro u hu
  obtain ⟨f,hf,hu⟩:=List.mem_flatMap.1 hu
  rcases List.mem_cons.1 hu with rfl|hu
  · rfl
  rcases List.mem_cons.1 hu with rfl|hu
  · rfl
  · exact encMsg_ones (h f hf) u hu
theorem enc8 (d:List UInt8) {v:Value} (g:Msg) (hv:v.oneCell'=true):∃ m0 m1 m2 m3 m4 m5 m6 m7:Value,encMsg d v g=[m0,m1,m2,m3,m4,m5,m6,m7]∧m0.oneCell'=true∧m1.oneCell'=true∧m2.oneCell'=true∧m3.oneCell'=true∧m4.oneCell'=true∧m5.oneCell'=true∧m6.oneCell'=true∧m7.oneCell'=true:=by
  cases g with
  | dat x=>exact ⟨_,_,_,_,_,_,_,_,rfl,rfl,rfl,rfl,rfl,rfl,rfl,rfl,rfl⟩
  | rep sr K=>exact ⟨_,_,_,_,_,_,_,_,rfl,rfl,rfl,rfl,rfl,rfl,rfl,rfl,hv⟩
structure V10 where
  a0:Value
  a1:Value
  a2:Value
  a3:Value
  a4:Value
  a5:Value
  a6:Value
  a7:Value
  a8:Value
  a9:Value
  h:∀ u∈[a0,a1,a2,a3,a4,a5,a6,a7,a8,a9],u.oneCell'=true
def enc10 (x:V10):List Value:=[x.a0,x.a1,x.a2,x.a3,x.a4,x.a5,x.a6,x.a7,x.a8,x.a9]
theorem enc10_len (x:V10):(enc10 x).length=10:=rfl
theorem ones10:∀ (l:List V10),∀ u∈l.flatMap enc10,u.oneCell'=true:=fun l u hu=>by
  obtain ⟨x,_,hx⟩:=List.mem_flatMap.1 hu
  exact x.h u hx
def fix1 (v:Value):Value:=if v.oneCell'=true then v else .slice none 0 0
theorem fix1_one (v:Value):(fix1 v).oneCell'=true:=by
  unfold fix1
  split
  · assumption
  · rfl
theorem fix1_eq {v:Value} (h:v.oneCell'=true):fix1 v=v:=if_pos h
def to10 (d:List UInt8) (f:Frm × Value):V10:=
  match f.1.g with
  | .dat x=>⟨int f.1.arr,int f.1.num,int 1,int 0,int x.sr,int (x.a:Int),int (d.length:Int),.bool (decide (1≤x.sr)),str (cutD d x.a x.b),.slice none 0 0,by
      intro u hu
      simp only [List.mem_cons,List.not_mem_nil,or_false] at hu
      rcases hu with rfl|rfl|rfl|rfl|rfl|rfl|rfl|rfl|rfl|rfl <;> rfl⟩
  | .rep sr _=>⟨int f.1.arr,int f.1.num,int 2,int 0,int sr,int 0,int (d.length:Int),.bool false,str [],fix1 f.2,by
      intro u hu
      simp only [List.mem_cons,List.not_mem_nil,or_false] at hu
      rcases hu with rfl|rfl|rfl|rfl|rfl|rfl|rfl|rfl|rfl|rfl <;> first|rfl|exact fix1_one _⟩
theorem enc10_to {d:List UInt8} {f:Frm × Value} (h:f.2.oneCell'=true):enc10 (to10 d f)=encF d f:=by
  obtain ⟨⟨a,n,g⟩,v⟩:=f
  cases g with
  | dat x=>rfl
  | rep sr K =>
    show [int a,int n,int 2,int 0,int sr,int 0,int (d.length:Int),.bool false,str [],fix1 v]=_
    rw [fix1_eq h]
    rfl
theorem flat10 {d:List UInt8} {F:List (Frm × Value)} (h:∀ f∈F,f.2.oneCell'=true):(F.map (to10 d)).flatMap enc10=F.flatMap (encF d):=by
  induction F with
  | nil=>rfl
  | cons f F ih=>rw [List.map_cons,List.flatMap_cons,List.flatMap_cons,enc10_to (h f (by simp)),ih (fun g hg=>h g (by simp [hg]))]
theorem insF_at (f:Frm):∀ (l:List Frm) (k:Nat),k≤l.length→(∀ i x,i<k→l[i]?=some x→¬ f.arr<x.arr)→(∀ x,l[k]?=some x→f.arr<x.arr)→insF f l=l.take k ++ f::l.drop k
  | [],k,hk,_,_=>by
    have:k=0:=by simpa using hk
    subst this
    rfl
  | x::l,0,_,_,h2=>by
    have:=h2 x rfl
    unfold insF;rw [if_pos this]
    rfl
  | x::l,k+1,hk,h1,h2=>by
    have:=h1 0 x (by omega) rfl
    unfold insF
    rw [if_neg this,insF_at f l k (by simpa using hk) (fun i y hi hy=>h1 (i+1) y (by omega) (by simpa using hy)) (fun y hy=>h2 y (by simpa using hy))]
    rfl
theorem insFs_snoc (t num:Int) (g:Msg) (x:Int):∀ (ds:List Int) (l:List Frm),insFs t num g (ds ++ [x]) l=insF ⟨t+x,num,g⟩ (insFs t num g ds l)
  | [],l=>rfl
  | d::ds,l=>insFs_snoc t num g x ds _
theorem insL_enc {d:List UInt8} {F:List (Frm × Value)} {k:Nat} {f:Frm × Value} {h:V10} (hF:∀ x∈F,x.2.oneCell'=true) (hh:enc10 h=encF d f):(insL (F.map (to10 d)) k h).flatMap enc10=(insL F k f).flatMap (encF d):=by
  unfold insL
  rw [← List.map_take,← List.map_drop,List.flatMap_append,List.flatMap_cons,List.flatMap_append,List.flatMap_cons,hh,flat10 (fun x hx=>hF x (List.mem_of_mem_take hx)),flat10 (fun x hx=>hF x (List.mem_of_mem_drop hx))]
theorem insL_map {F:List (Frm × Value)} {k:Nat} {f:Frm × Value}:(insL F k f).map (·.1)=(F.map (·.1)).take k ++ f.1::(F.map (·.1)).drop k:=by
  unfold insL;rw [List.map_append,List.map_cons,List.map_take,List.map_drop]
theorem insL_mem {F:List (Frm × Value)} {k:Nat} {f x:Frm × Value} (h:x∈insL F k f):x=f∨x∈F:=by
  unfold insL at h
  rcases List.mem_append.1 h with h|h
  · exact .inr (List.mem_of_mem_take h)
  · rcases List.mem_cons.1 h with h|h
    · exact .inl h
    · exact .inr (List.mem_of_mem_drop h)
theorem fateM_len (n rng:Int):(fateM n rng).length≤2:=by
  unfold fateM;simp only
  split
  · simp
  · split
    · simp
    · split <;> simp
theorem delM_len (P:Par) (s:Ss) (t:Int):(delM P s t).1.length≤2:=by
  unfold delM
  split
  · simp
  split
  · simp
  simp only
  split
  · exact fateM_len _ _
  split
  · simp
  · exact fateM_len _ _
theorem enter0_full {P:Par} {s:Ss} {t:Int} {x:Sg} (h:10000≤s.ent):enter0 P s t x=s:=if_pos h
theorem enter0_none {P:Par} {s:Ss} {t:Int} {x:Sg} (h:¬ 10000≤s.ent) (hc:10000<s.dat.fr.length+(delM P s t).1.length):enter0 P s t x={ s with dis:=(delM P s t).2 }:=by
  have e:chSend P.c.g s.dat t (.dat x) (delM P s t).1=none:=if_pos hc
  unfold enter0;rw [if_neg h,e]
theorem enter0_some {P:Par} {s:Ss} {t:Int} {x:Sg} (h:¬ 10000≤s.ent) (hc:s.dat.fr.length+(delM P s t).1.length≤10000):enter0 P s t x={ s with dat:=⟨insFs t s.dat.sent (.dat x) (delM P s t).1 s.dat.fr,s.dat.sent+1,if P.c.g∈(delM P s t).1 then s.dat.lost else s.dat.lost+1⟩,dis:=(delM P s t).2,ent:=s.ent+1,out0:=s.out0 ++ [(t,x)] }:=by
  have e:chSend P.c.g s.dat t (.dat x) (delM P s t).1=some ⟨insFs t s.dat.sent (.dat x) (delM P s t).1 s.dat.fr,s.dat.sent+1,if P.c.g∈(delM P s t).1 then s.dat.lost else s.dat.lost+1⟩:=if_neg (by omega)
  unfold enter0;rw [if_neg h,e]
theorem enter1_full {P:Par} {s:Ss} {t sr:Int} {C:Iv} (h:10000≤s.ent):enter1 P s t sr C=s:=if_pos h
theorem enter1_none {P:Par} {s:Ss} {t sr:Int} {C:Iv} (h:¬ 10000≤s.ent) (hc:10000<s.rep.fr.length+(delM P s t).1.length):enter1 P s t sr C={ s with dis:=(delM P s t).2 }:=by
  have e:chSend P.c.g s.rep t (.rep sr C) (delM P s t).1=none:=if_pos hc
  unfold enter1;rw [if_neg h,e]
theorem enter1_some {P:Par} {s:Ss} {t sr:Int} {C:Iv} (h:¬ 10000≤s.ent) (hc:s.rep.fr.length+(delM P s t).1.length≤10000):enter1 P s t sr C={ s with rep:=⟨insFs t s.rep.sent (.rep sr C) (delM P s t).1 s.rep.fr,s.rep.sent+1,if P.c.g∈(delM P s t).1 then s.rep.lost else s.rep.lost+1⟩,dis:=(delM P s t).2,ent:=s.ent+1,out1:=s.out1 ++ [(t,sr,C)] }:=by
  have e:chSend P.c.g s.rep t (.rep sr C) (delM P s t).1=some ⟨insFs t s.rep.sent (.rep sr C) (delM P s t).1 s.rep.fr,s.rep.sent+1,if P.c.g∈(delM P s t).1 then s.rep.lost else s.rep.lost+1⟩:=if_neg (by omega)
  unfold enter1;rw [if_neg h,e]
end Go.Step
namespace Go.Step
open Go.Eng
theorem enter0_frame (P:Par) (s:Ss) (t:Int) (x:Sg):∃ c d e o,enter0 P s t x={ s with dat:=c,dis:=d,ent:=e,out0:=o }:=by
  unfold enter0
  split
  · exact ⟨_,_,_,_,rfl⟩
  · cases chSend P.c.g s.dat t (.dat x) (delM P s t).1 with
    | none=>exact ⟨_,_,_,_,rfl⟩
    | some c=>exact ⟨_,_,_,_,rfl⟩
theorem enter1_frame (P:Par) (s:Ss) (t sr:Int) (C:Iv):∃ c d e o,enter1 P s t sr C={ s with rep:=c,dis:=d,ent:=e,out1:=o }:=by
  unfold enter1
  split
  · exact ⟨_,_,_,_,rfl⟩
  · cases chSend P.c.g s.rep t (.rep sr C) (delM P s t).1 with
    | none=>exact ⟨_,_,_,_,rfl⟩
    | some c=>exact ⟨_,_,_,_,rfl⟩
theorem delM_dis (P:Par) (s:Ss) (t:Int):s.dis≤(delM P s t).2∧(delM P s t).2≤s.dis+1:=by
  unfold delM
  split
  · dsimp only; omega
  split
  · dsimp only; omega
  dsimp only
  split
  · dsimp only; omega
  split
  · dsimp only; omega
  · dsimp only; omega
theorem enter0_dis (P:Par) (s:Ss) (t:Int) (x:Sg):s.dis≤(enter0 P s t x).dis∧(enter0 P s t x).dis≤s.dis+1:=by
  have h:=delM_dis P s t
  unfold enter0
  split
  · omega
  · cases chSend P.c.g s.dat t (.dat x) (delM P s t).1 <;> exact h
theorem enter1_dis (P:Par) (s:Ss) (t sr:Int) (C:Iv):s.dis≤(enter1 P s t sr C).dis∧(enter1 P s t sr C).dis≤s.dis+1:=by
  have h:=delM_dis P s t
  unfold enter1
  split
  · omega
  · cases chSend P.c.g s.rep t (.rep sr C) (delM P s t).1 <;> exact h
theorem enter0_wait (P:Par) (s:Ss) (w:List (Int × Sg)) (t:Int) (x:Sg):enter0 P { s with wait:=w } t x={ enter0 P s t x with wait:=w }:=by
  unfold enter0
  split
  · rfl
  · show (match chSend P.c.g s.dat t (.dat x) (delM P s t).1 with|none=>_|some c=>_)=_
    cases chSend P.c.g s.dat t (.dat x) (delM P s t).1 <;> rfl
theorem trM_wait (P:Par):∀ (w:List (Int × Sg)) (s:Ss) (v:List (Int × Sg)),trM P w { s with wait:=v }=trM P w s
  | [],s,v=>rfl
  | (t,x)::w,s,v=>by
    unfold trM
    split
    · show trM P w (enter0 P { s with wait:=v } s.now x)=_
      rw [enter0_wait,trM_wait]
    · rfl
theorem trM_nil {P:Par} {s:Ss} (h:s.wait=[]):trM P s.wait s=s:=by
  rw [h]
  show ({ s with wait:=[] }:Ss)=s
  rw [← h]
theorem trM_stop {P:Par} {s:Ss} {t:Int} {x:Sg} {w:List (Int × Sg)} (h:s.wait=(t,x)::w) (ht:t≠s.now):trM P s.wait s=s:=by
  rw [h];unfold trM;rw [if_neg ht,← h]
theorem trM_go {P:Par} {s:Ss} {t:Int} {x:Sg} {w:List (Int × Sg)} (h:s.wait=(t,x)::w) (ht:t=s.now):trM P s.wait s=trM P w { enter0 P s s.now x with wait:=w }:=by
  rw [h]
  conv=>lhs; unfold trM
  rw [if_pos ht];exact (trM_wait P w _ _).symm
theorem trM1_ok {P:Par} {t0:Int} (hP:okP P t0) {ld lr lt:Int} {s:Ss} {x:Sg} {w:List (Int × Sg)} (ht:t0<s.now) (hl:ld≤s.now+P.c.g) (h:SI P t0 s ld lr s.now lt) (hw:s.wait=(s.now,x)::w) :
    SI P t0 { enter0 P s s.now x with wait:=w } ld lr s.now lt:=by
  obtain ⟨w1,w2,w3⟩:=h.wt (s.now,x) (by rw [hw]; simp)
  have hws:=h.ws
  rw [hw] at hws
  obtain ⟨p1,p2⟩:=List.pairwise_cons.1 hws
  dsimp only at w1 w2 w3
  have hle:s.now≤P.e:=by have:=h.sn.b.2; omega
  have hS:SI P t0 { s with wait:=w } ld lr s.now lt:=⟨h.dat,h.rep,fun y hy=>h.wt y (by rw [hw]; exact List.mem_cons_of_mem _ hy),p2,h.du,h.sn,h.k,h.o0,h.o1,h.en,h.kn⟩
  have k1:=(enter0_ok hP (t:=s.now) hS w3 ⟨by omega,hle⟩ (by omega)).1
  rw [enter0_wait] at k1;exact k1
theorem trM_dis (P:Par):∀ (w:List (Int × Sg)) (s:Ss),s.dis≤(trM P w s).dis∧(trM P w s).dis≤s.dis+w.length
  | [],s=>⟨Int.le_refl _,by show s.dis≤_; simp⟩
  | (t,x)::w,s=>by
    unfold trM
    split
    · have h1:=enter0_dis P s s.now x
      have h2:=trM_dis P w (enter0 P s s.now x)
      rw [List.length_cons];omega
    · show s.dis≤s.dis∧s.dis≤_
      omega
theorem trM_wlen (P:Par):∀ (w:List (Int × Sg)) (s:Ss),(trM P w s).wait.length≤w.length
  | [],s=>Nat.le_refl _
  | (t,x)::w,s=>by
    unfold trM
    split
    · have:=trM_wlen P w (enter0 P s s.now x)
      rw [List.length_cons];omega
    · exact Nat.le_refl _
end Go.Step
namespace Go.Step
open Go.Eng
def dlvA (P:Par) (s:Ss) (x:Sg):Ss:=
  if 1≤x.sr then enter1 P { s with K:=unionI s.K [((x.a:Int),(x.b:Int))] } s.now x.sr (unionI s.K [((x.a:Int),(x.b:Int))]) else { s with K:=unionI s.K [((x.a:Int),(x.b:Int))] }
def dlvB (P:Par) (s:Ss):Ss:=if s.rcvd=false∧s.K=[((0:Int),(P.d.length:Int))] then { s with rcvd:=true,arr:=s.now } else s
theorem dlvA_frame (P:Par) (s:Ss) (x:Sg):∃ c d e o,dlvA P s x={ s with rep:=c,dis:=d,ent:=e,out1:=o,K:=unionI s.K [((x.a:Int),(x.b:Int))] }:=by
  unfold dlvA
  split
  · obtain ⟨c,d,e,o,h⟩:=enter1_frame P { s with K:=unionI s.K [((x.a:Int),(x.b:Int))] } s.now x.sr (unionI s.K [((x.a:Int),(x.b:Int))])
    exact ⟨c,d,e,o,h⟩
  · exact ⟨_,_,_,_,rfl⟩
theorem dlv1_eq (P:Par) (s:Ss) (x:Sg):dlv1 P s x=dlvB P (dlvA P s x):=by
  obtain ⟨c,d,e,o,h⟩:=dlvA_frame P s x
  have hK:(dlvA P s x).K=unionI s.K [((x.a:Int),(x.b:Int))]:=by rw [h]
  have e1:dlv1 P s x=(if (dlvA P s x).rcvd=false∧unionI s.K [((x.a:Int),(x.b:Int))]=[((0:Int),(P.d.length:Int))] then { dlvA P s x with rcvd:=true,arr:=(dlvA P s x).now } else dlvA P s x):=rfl
  rw [e1];unfold dlvB
  by_cases hc:(dlvA P s x).rcvd=false∧unionI s.K [((x.a:Int),(x.b:Int))]=[((0:Int),(P.d.length:Int))]
  · rw [if_pos hc,if_pos (by rw [hK]; exact hc)]
  · rw [if_neg hc,if_neg (by rw [hK]; exact hc)]
theorem dlvB_frame (P:Par) (s:Ss):∃ r a,dlvB P s={ s with rcvd:=r,arr:=a }:=by
  unfold dlvB
  split
  · exact ⟨_,_,rfl⟩
  · exact ⟨_,_,rfl⟩
theorem dlv1_dat (P:Par) (s:Ss) (x:Sg):(dlv1 P s x).dat=s.dat:=by
  obtain ⟨c,d,e,o,h⟩:=dlvA_frame P s x
  obtain ⟨r,a,h2⟩:=dlvB_frame P (dlvA P s x)
  rw [dlv1_eq,h2,h]
theorem dlvM_stop {P:Par} {s:Ss} (n:Nat) (h:∀ f l,s.dat.fr=f::l→f.arr≠s.now):dlvM P n s=s:=by
  cases n with
  | zero=>rfl
  | succ n =>
    unfold dlvM
    split
    · rename_i t num x l e
      exact if_neg (h _ _ e)
    · rfl
theorem dlvM_go {P:Par} {s:Ss} {t num:Int} {x:Sg} {l:List Frm} (e:s.dat.fr=⟨t,num,.dat x⟩::l) (ht:t=s.now) :
    dlvM P s.dat.fr.length s=dlvM P (dlv1 P { s with dat:={ s.dat with fr:=l } } x).dat.fr.length (dlv1 P { s with dat:={ s.dat with fr:=l } } x):=by
  rw [dlv1_dat]
  conv=>lhs; rw [e]
  show dlvM P (l.length+1) s=_
  conv=>lhs; unfold dlvM
  rw [e];exact if_pos ht
theorem lsn1_rep (P:Par) (s:Ss) (sr:Int) (C:Iv):(lsn1 P s sr C).rep=s.rep:=by
  unfold lsn1
  split
  · rfl
  · simp only
    split <;> rfl
theorem lsnM_stop {P:Par} {s:Ss} (n:Nat) (h:∀ f l,s.rep.fr=f::l→f.arr≠s.now):lsnM P n s=s:=by
  cases n with
  | zero=>rfl
  | succ n =>
    unfold lsnM
    split
    · rename_i t num sr C l e
      exact if_neg (h _ _ e)
    · rfl
theorem lsnM_go {P:Par} {s:Ss} {t num sr:Int} {C:Iv} {l:List Frm} (e:s.rep.fr=⟨t,num,.rep sr C⟩::l) (ht:t=s.now) :
    lsnM P s.rep.fr.length s=lsnM P (lsn1 P { s with rep:={ s.rep with fr:=l } } sr C).rep.fr.length (lsn1 P { s with rep:={ s.rep with fr:=l } } sr C):=by
  rw [lsn1_rep]
  conv=>lhs; rw [e]
  show lsnM P (l.length+1) s=_
  conv=>lhs; unfold lsnM
  rw [e];exact if_pos ht
theorem dlvS_ok {P:Par} {t0:Int} (hP:okP P t0) {s:Ss} {lr lw lt:Int} {f:Frm} {l:List Frm} (h:SI P t0 s s.now lr lw lt) (hrc:rcOK P s) (ht:0≤s.now) (hl:lr≤s.now+P.c.g) (e:s.dat.fr=f::l) (ha:f.arr=s.now) :
    ∃ num x,f=⟨s.now,num,.dat x⟩∧okG P.d.length x∧s.now≤1099511627776∧SI P t0 { s with dat:={ s.dat with fr:=l } } s.now lr lw lt∧SI P t0 (dlv1 P { s with dat:={ s.dat with fr:=l } } x) s.now lr lw lt∧rcOK P (dlv1 P { s with dat:={ s.dat with fr:=l } } x)∧(dlv1 P { s with dat:={ s.dat with fr:=l } } x).now=s.now:=by
  have hfr:=h.dat.fr f (by rw [e]; simp)
  obtain ⟨a,num,g⟩:=f
  dsimp only at ha
  subst ha
  cases g with
  | rep sr C=>exact absurd hfr.2.2.2.2.1 (by simp)
  | dat x =>
    have hxo:okG P.d.length x:=hfr.2.2.2.2.2
    have hb:s.now≤1099511627776:=by have:=hfr.2.1; have:=(chkCt_rg hP.hc).2.2; have:=hP.h2; dsimp only at *; omega
    have hS:SI P t0 { s with dat:={ s.dat with fr:=l } } s.now lr lw lt:=⟨h.dat.tail e,h.rep,h.wt,h.ws,h.du,h.sn,h.k,h.o0,h.o1,h.en,h.kn⟩
    obtain ⟨j1,j2,j3,_⟩:=dlv1_ok hP hS hrc rfl hxo ⟨ht,hb⟩ hl
    exact ⟨num,x,rfl,hxo,hb,hS,j1,j2,j3⟩
theorem lsnS_ok {P:Par} {t0:Int} (hP:okP P t0) {s:Ss} {ld lt:Int} {f:Frm} {l:List Frm} (h:SI P t0 s ld s.now (s.now+1) lt) (hlt:lt≤s.now+1) (e:s.rep.fr=f::l) (ha:f.arr=s.now) :
    ∃ num sr C,f=⟨s.now,num,.rep sr C⟩∧InI P.d.length C∧subI C s.K∧(1≤sr∧sr≤1099511627776)∧SI P t0 { s with rep:={ s.rep with fr:=l } } ld s.now (s.now+1) lt∧SI P t0 (lsn1 P { s with rep:={ s.rep with fr:=l } } sr C) ld s.now (s.now+1) lt∧(lsn1 P { s with rep:={ s.rep with fr:=l } } sr C).now=s.now:=by
  have hfr:=h.rep.fr f (by rw [e]; simp)
  obtain ⟨a,num,g⟩:=f
  dsimp only at ha
  subst ha
  cases g with
  | dat x=>exact absurd hfr.2.2.2.2.1 (by simp)
  | rep sr C =>
    obtain ⟨_,hC,hCs,h1,h2⟩:=hfr.2.2.2.2
    have hS:SI P t0 { s with rep:={ s.rep with fr:=l } } ld s.now (s.now+1) lt:=⟨h.dat,h.rep.tail e,h.wt,h.ws,h.du,h.sn,h.k,h.o0,h.o1,h.en,h.kn⟩
    obtain ⟨j1,j2,_⟩:=lsn1_ok hP (sr:=sr) hS rfl hC hCs hlt
    exact ⟨num,sr,C,rfl,hC,hCs,⟨h1,h2⟩,hS,j1,j2⟩
theorem wait_nil {P:Par} {t0:Int} {s:Ss} {ld lr lt:Int} (h:SI P t0 s ld lr (s.now+1) lt) (hb:s.snd.busy≤s.now):s.wait=[]:=by
  cases e:s.wait with
  | nil=>rfl
  | cons x w =>
    have:=h.wt x (by rw [e]; simp)
    omega
theorem exp_nil {P:Par} {t0:Int} (hP:okP P t0) {s:Ss} {ld lr lt:Int} (h:SI P t0 s ld lr (s.now+1) lt) (hw:waitsM s=true) (hd:s.snd.due=s.now):s.wait=[]:=by
  have hcr:=chkCt_rg hP.hc
  have hst:s.snd.st=1:=by
    unfold waitsM at hw;simp only [Bool.and_eq_true,decide_eq_true_eq] at hw;exact hw.1
  refine wait_nil h ?_
  rcases h.sn.st with ⟨_,_,g⟩|⟨g,_⟩|⟨g,_⟩
  · omega
  · omega
  · omega
/-! ### how much waits -/
theorem sendM_len (P:Par) (s:Sd) (t sr:Int) (G:List Sg):(sendM P s t sr G).2.length≤G.length:=by
  unfold sendM
  split
  · exact Nat.zero_le _
  · rw [timed_len]; exact Nat.le_refl _
theorem batM_len {P:Par} {t0:Int} (hP:okP P t0) {s:Sd} (hk:InI P.d.length s.K):(batM P s).length≤990:=by
  have hn:=hP.n1
  have hn2:=hP.n2
  have hM:=(missI_ok hk (by omega)).1
  have:=pcsAll_len hM (by omega)
  unfold batM;rw [bat_len];omega
theorem hearM_len {P:Par} {t0:Int} (hP:okP P t0) {s:Sd} {t sr:Int} {C:Iv} (hk:InI P.d.length s.K) (hC:InI P.d.length C):(hearM P s t sr C).2.length≤990:=by
  unfold hearM
  split
  · exact Nat.zero_le _
  split
  · exact Nat.zero_le _
  · exact Nat.le_trans (sendM_len _ _ _ _ _) (batM_len hP (s:={ s with K:=unionI s.K C }) (unionI_in hk hC).1)
theorem lsn1_wl {P:Par} {t0:Int} (hP:okP P t0) {s:Ss} {ld lr lt sr n:Int} {C:Iv} (h:SI P t0 s ld lr (n+1) lt) (hnn:s.now=n) (hC:InI P.d.length C) (hw:s.wait.length≤1000):(lsn1 P s sr C).wait.length≤1000:=by
  subst hnn;unfold lsn1
  split
  · exact hw
  rename_i hb
  have hn:=wait_nil h (by omega)
  have hl:=hearM_len hP (t:=s.now) (sr:=sr) h.sn.k hC
  simp only
  split
  · show (s.wait ++ _).length≤_
    rw [hn,List.nil_append];omega
  · show (s.wait ++ _).length≤_
    rw [hn,List.nil_append];omega
theorem lsnM_wl {P:Par} {t0:Int} (hP:okP P t0) {ld lt n:Int} (hlt:lt≤n+1):∀ (f:Nat) {s:Ss},SI P t0 s ld n (n+1) lt→s.now=n→s.wait.length≤1000→(lsnM P f s).wait.length≤1000
  | 0,s,_,_,hw=>hw
  | f+1,s,h,hn,hw=>by
    unfold lsnM
    split
    · rename_i t num sr C l e
      have hfr:=h.rep.fr ⟨t,num,.rep sr C⟩ (by rw [e]; simp)
      obtain ⟨_,hC,hCs,_⟩:=hfr.2.2.2.2
      split
      · have hS:SI P t0 { s with rep:={ s.rep with fr:=l } } ld n (n+1) lt:=⟨h.dat,h.rep.tail e,h.wt,h.ws,h.du,h.sn,h.k,h.o0,h.o1,h.en,h.kn⟩
        obtain ⟨j1,j2,_⟩:=lsn1_ok hP (sr:=sr) hS hn hC hCs hlt
        exact lsnM_wl hP hlt f j1 j2 (lsn1_wl hP hS hn hC hw)
      · exact hw
    · exact hw
theorem expM_wl {P:Par} {t0:Int} (hP:okP P t0) {s:Ss} {ld lr lt:Int} (h:SI P t0 s ld lr (s.now+1) lt) (hw:s.wait.length≤1000):(expM P s).wait.length≤1000:=by
  unfold expM
  split
  · exact hw
  rename_i hc
  have hwt:waitsM s=true:=by
    cases hw:waitsM s with
    | true=>rfl
    | false=>exact absurd (.inl hw) hc
  have hdue:s.snd.due=s.now:=Decidable.byContradiction (fun h=>hc (.inr h))
  have hn:=exp_nil hP h hwt hdue
  simp only;rw [hn,List.nil_append]
  have h1:=batM_len hP (s:=s.snd) h.sn.k
  have h2:=sendM_len P s.snd s.now (s.snd.sr+1) ((batM P s.snd).drop ((batM P s.snd).length-1))
  rw [List.length_drop] at h2
  show (waitM P s.snd s.now).2.length≤1000
  unfold waitM;omega
/-! ### frames that were disturbed -/
theorem dlv1_dis (P:Par) (s:Ss) (x:Sg):s.dis≤(dlv1 P s x).dis∧(dlv1 P s x).dis≤s.dis+1:=by
  have hA:s.dis≤(dlvA P s x).dis∧(dlvA P s x).dis≤s.dis+1:=by
    unfold dlvA
    split
    · exact enter1_dis P { s with K:=unionI s.K [((x.a:Int),(x.b:Int))] } s.now x.sr _
    · show s.dis≤s.dis∧s.dis≤_
      omega
  obtain ⟨r,a,h2⟩:=dlvB_frame P (dlvA P s x)
  rw [dlv1_eq,h2];exact hA
theorem dlvM_dis (P:Par):∀ (f:Nat) (s:Ss),s.dis≤(dlvM P f s).dis∧(dlvM P f s).dis≤s.dis+f
  | 0,s=>⟨Int.le_refl _,by show s.dis≤_; omega⟩
  | f+1,s=>by
    unfold dlvM
    split
    · split
      · rename_i t num x l e _
        have h1:=dlv1_dis P { s with dat:={ s.dat with fr:=l } } x
        have h2:=dlvM_dis P f (dlv1 P { s with dat:={ s.dat with fr:=l } } x)
        have h3:({ s with dat:={ s.dat with fr:=l } }:Ss).dis=s.dis:=rfl
        rw [h3] at h1;omega
      · omega
    · omega
theorem lsn1_dis (P:Par) (s:Ss) (sr:Int) (C:Iv):(lsn1 P s sr C).dis=s.dis:=by
  unfold lsn1
  split
  · rfl
  · simp only
    split <;> rfl
theorem lsnM_dis (P:Par):∀ (f:Nat) (s:Ss),(lsnM P f s).dis=s.dis
  | 0,s=>rfl
  | f+1,s=>by
    unfold lsnM
    split
    · split
      · rw [lsnM_dis P f,lsn1_dis]
      · rfl
    · rfl
theorem expM_dis (P:Par) (s:Ss):(expM P s).dis=s.dis:=by
  unfold expM
  split
  · rfl
  · rfl
/-! ### what was sent first is sent or waits -/
structure Cv (P:Par) (s:Ss):Prop where
  en:s.ent=s.out0.length+s.out1.length
  cn:s.out1.length+s.dat.fr.length≤2*s.out0.length
  cv:60<s.out0.length∨∀ g∈bat 1 (pcsAll (missI P.d.length [])),(∃ t,(t,g)∈s.out0)∨∃ t,(t,g)∈s.wait
theorem insFs_len (t num:Int) (g:Msg):∀ (ds:List Int) (l:List Frm),(insFs t num g ds l).length=l.length+ds.length
  | [],l=>rfl
  | d::ds,l=>by
    show (insFs t num g ds _).length=_
    rw [insFs_len,insF_len,List.length_cons];omega
theorem enter0_cv {P:Par} {s:Ss} {t:Int} {x:Sg} {w:List (Int × Sg)} (h:Cv P { s with wait:=(t,x)::w }):Cv P { enter0 P s s.now x with wait:=w }:=by
  obtain ⟨h1,h2,h3⟩:=h
  dsimp only at h1 h2 h3
  have hdl:=delM_len P s s.now
  by_cases hf:10000≤s.ent
  · rw [enter0_full hf]
    exact ⟨h1,h2,.inl (by dsimp only; omega)⟩
  by_cases hc:s.dat.fr.length+(delM P s s.now).1.length≤10000
  rotate_left
  · rw [enter0_none hf (by omega)]
    exact ⟨h1,h2,.inl (by dsimp only; omega)⟩
  rw [enter0_some hf hc];refine ⟨?_,?_,?_⟩
  · dsimp only
    rw [List.length_append,List.length_singleton];omega
  · dsimp only
    rw [List.length_append,List.length_singleton,insFs_len];omega
  · dsimp only
    rcases h3 with h3|h3
    · exact .inl (by rw [List.length_append]; omega)
    · refine .inr (fun g hg=>?_)
      rcases h3 g hg with ⟨t',k⟩|⟨t',k⟩
      · exact .inl ⟨t',List.mem_append.2 (.inl k)⟩
      · rcases List.mem_cons.1 k with k|k
        · exact .inl ⟨s.now,List.mem_append.2 (.inr (by simp only [Prod.mk.injEq] at k; rw [k.2]; exact List.mem_singleton.2 rfl))⟩
        · exact .inr ⟨t',k⟩
theorem trM_cv {P:Par}:∀ (w:List (Int × Sg)) {s:Ss},Cv P { s with wait:=w }→Cv P (trM P w s)
  | [],s,h=>h
  | (t,x)::w,s,h=>by
    unfold trM
    split
    · exact trM_cv w (enter0_cv h)
    · exact h
theorem dlv1_cv {P:Par} {s:Ss} {x:Sg} (en:s.ent=s.out0.length+s.out1.length) (cn:s.out1.length+s.dat.fr.length+1≤2*s.out0.length)
    (cv:60<s.out0.length∨∀ g∈bat 1 (pcsAll (missI P.d.length [])),(∃ t,(t,g)∈s.out0)∨∃ t,(t,g)∈s.wait):Cv P (dlv1 P s x):=by
  have hA:Cv P (dlvA P s x):=by
    unfold dlvA
    split
    · unfold enter1
      split
      · exact ⟨en,by dsimp only; omega,cv⟩
      · cases chSend P.c.g ({ s with K:=unionI s.K [((x.a:Int),(x.b:Int))] }:Ss).rep s.now (.rep x.sr (unionI s.K [((x.a:Int),(x.b:Int))])) (delM P { s with K:=unionI s.K [((x.a:Int),(x.b:Int))] } s.now).1 with
        | none=>exact ⟨en,by dsimp only; omega,cv⟩
        | some c =>
          refine ⟨?_,?_,cv⟩
          · dsimp only
            rw [List.length_append,List.length_singleton];omega
          · dsimp only
            rw [List.length_append,List.length_singleton];omega
    · exact ⟨en,by dsimp only; omega,cv⟩
  obtain ⟨r,a,h2⟩:=dlvB_frame P (dlvA P s x)
  rw [dlv1_eq,h2];exact ⟨hA.en,hA.cn,hA.cv⟩
theorem dlvM_cv {P:Par}:∀ (f:Nat) {s:Ss},Cv P s→Cv P (dlvM P f s)
  | 0,s,h=>h
  | f+1,s,h=>by
    unfold dlvM
    split
    · split
      · rename_i t num x l e _
        have:=h.cn
        rw [e,List.length_cons] at this
        exact dlvM_cv f (dlv1_cv h.en (by dsimp only; omega) h.cv)
      · exact h
    · exact h
theorem Cv.more {P:Par} {s:Ss} (h:Cv P s) {w:List (Int × Sg)}:60<s.out0.length∨∀ g∈bat 1 (pcsAll (missI P.d.length [])),(∃ t,(t,g)∈s.out0)∨∃ t,(t,g)∈s.wait ++ w:=by
  rcases h.cv with h|h
  · exact .inl h
  · refine .inr (fun g hg=>?_)
    rcases h g hg with h|⟨t,h⟩
    · exact .inl h
    · exact .inr ⟨t,List.mem_append.2 (.inl h)⟩
theorem lsn1_cv {P:Par} {s:Ss} {sr:Int} {C:Iv} (h:Cv P s):Cv P (lsn1 P s sr C):=by
  unfold lsn1
  split
  · exact h
  · simp only
    split
    · exact ⟨h.en,h.cn,h.more⟩
    · exact ⟨h.en,h.cn,h.more⟩
theorem lsnM_cv {P:Par}:∀ (f:Nat) {s:Ss},Cv P s→Cv P (lsnM P f s)
  | 0,s,h=>h
  | f+1,s,h=>by
    unfold lsnM
    split
    · split
      · exact lsnM_cv f (lsn1_cv ⟨h.en,h.cn,h.cv⟩)
      · exact h
    · exact h
theorem expM_cv {P:Par} {s:Ss} (h:Cv P s):Cv P (expM P s):=by
  unfold expM
  split
  · exact h
  · exact ⟨h.en,h.cn,h.more⟩
theorem clrM_cv {P:Par} {s:Ss} (h:Cv P s):Cv P (clrM s):=by
  unfold clrM
  split
  · rename_i hf
    have h1:=h.en
    have h2:=h.cn
    exact ⟨h1,h2,.inl (by dsimp only; omega)⟩
  · exact h
/-! ### rounds -/
structure RI (P:Par) (t0:Int) (s:Ss) (u:Int):Prop where
  si:SI P t0 s u u u u
  rc:rcOK P s
  u0:t0<u
  u1:u≤2199023255553
  wl:s.wait.length≤1000
  ds:0≤s.dis∧s.dis≤20000*u
  cv:Cv P s
theorem RI.mid {P:Par} {t0:Int} (hP:okP P t0) {s s0 s1 s2 s3 s4:Ss} {u t:Int} (h:RI P t0 s u) (e:nextM (clrM s)=some t) (e0:s0={ clrM s with now:=t }) (e1:s1=trM P s0.wait s0) (e2:s2=dlvM P s1.dat.fr.length s1) (e3:s3=lsnM P s2.rep.fr.length s2) (e4:s4=expM P s3) :
    (u≤t∧t≤2199023255552∧t0<t∧s4=roundM P (clrM s) t∧RI P t0 s4 (t+1)) ∧
    (s0.now=t∧SI P t0 s0 t t t t∧0≤s0.dis∧s0.dis+s0.wait.length≤1152921504606846976) ∧
    (s1.now=t∧SI P t0 s1 t t (t+1) t∧rcOK P s1∧0≤s1.dis∧s1.dis+s1.dat.fr.length≤1152921504606846976) ∧
    (s2.now=t∧SI P t0 s2 (t+1) t (t+1) t) ∧
    (s3.now=t∧SI P t0 s3 (t+1) (t+1) (t+1) t):=by
  have hcr:=chkCt_rg hP.hc
  have hcs:=chkCt_se hP.hc
  have h0:=hP.h0
  obtain ⟨c1,c2,c3,c4,c5⟩:=clrM_ok h.si
  obtain ⟨b1,b2,b3⟩:=next_ok hP c1 e
  have u0:=h.u0
  have hwl:(clrM s).wait.length≤1000:=by
    unfold clrM
    split
    · exact Nat.zero_le _
    · exact h.wl
  have hds:(clrM s).dis=s.dis:=by
    unfold clrM
    split <;> rfl
  have hcv:=clrM_cv h.cv
  have hd:=h.ds
  have hu:=h.u1
  have hr0:rcOK P (clrM s):=by unfold rcOK; rw [c3,c4]; exact h.rc
  have f0:SI P t0 s0 t t t t:=by rw [e0]; exact ⟨b3.dat,b3.rep,b3.wt,b3.ws,b3.du,b3.sn,b3.k,b3.o0,b3.o1,b3.en,b3.kn⟩
  have n0:s0.now=t:=by rw [e0]
  have w0:s0.wait.length≤1000:=by rw [e0]; exact hwl
  have d0:s0.dis=s.dis:=by rw [e0]; exact hds
  have r0:rcOK P s0:=by rw [e0]; exact hr0
  have v0:Cv P s0:=by rw [e0]; exact ⟨hcv.en,hcv.cn,hcv.cv⟩
  obtain ⟨a1,a2,a3,a4,a5,a6⟩:=trM_ok hP (show t0<t by omega) (ld:=t) (lr:=t) (lt:=t) (by omega) s0.wait (s:=s0) n0 ⟨f0.dat,f0.rep,f0.wt,f0.ws,f0.du,f0.sn,f0.k,f0.o0,f0.o1,f0.en,f0.kn⟩
  have d1:=trM_dis P s0.wait s0
  have w1:=trM_wlen P s0.wait s0
  have v1:Cv P (trM P s0.wait s0):=trM_cv s0.wait ⟨v0.en,v0.cn,v0.cv⟩
  rw [← e1] at a1 a2 a3 a4 a5 a6 d1 w1 v1
  have r1:rcOK P s1:=by unfold rcOK; rw [a4,a6]; exact r0
  have l1:=a1.dat.len
  obtain ⟨g1,g2,g3,g4,g5,g6⟩:=dlvM_ok hP (by omega) (by omega) s1.dat.fr.length (Nat.le_refl _) a1 r1 a2
  have d2:=dlvM_dis P s1.dat.fr.length s1
  have v2:=dlvM_cv s1.dat.fr.length v1
  rw [← e2] at g1 g2 g3 g4 g5 g6 d2 v2
  obtain ⟨k1,k2,k3,k4,k5⟩:=lsnM_ok hP (by omega) s2.rep.fr.length (Nat.le_refl _) g1 g3
  have d3:=lsnM_dis P s2.rep.fr.length s2
  have w3:=lsnM_wl hP (by omega) s2.rep.fr.length g1 g3 (by rw [g5]; omega)
  have v3:=lsnM_cv s2.rep.fr.length v2
  rw [← e3] at k1 k2 k3 k4 k5 d3 w3 v3
  obtain ⟨m1,m2,m3,m4,m5⟩:=expM_ok hP k1 k2
  have d4:=expM_dis P s3
  have w4:=expM_wl hP (s:=s3) (by rw [k2]; exact k1) w3
  have v4:=expM_cv v3
  rw [← e4] at m1 m2 m3 m4 m5 d4 w4 v4
  have r4:rcOK P s4:=by unfold rcOK; rw [m3,m4,k3,k4]; exact g2
  refine ⟨⟨b1,b2,by omega,?_,m1,r4,by omega,by omega,w4,⟨by omega,by omega⟩,v4⟩,⟨n0,f0,by omega,by omega⟩,⟨a2,a1,r1,by omega,by omega⟩,⟨g3,g1⟩,k2,k1⟩
  rw [e4,e3,e2,e1,e0]
  rfl
theorem RI.begin {P:Par} {t0:Int} (hP:okP P t0) (hE:endG P.c.r t0 (bat 1 (pcsAll (missI P.d.length [])))≤P.e):RI P t0 (beginM P t0) (t0+1):=by
  have hcr:=chkCt_rg hP.hc
  have hcs:=chkCt_se hP.hc
  have h0:=hP.h0
  have h1:=hP.h1
  have h2:=hP.h2
  obtain ⟨a,b⟩:=begin_ok hP hE
  refine ⟨a,b,by omega,by omega,?_,⟨Int.le_refl _,by show (0:Int)≤_; omega⟩,⟨rfl,Nat.le_refl _,.inr (fun g hg=>.inr ?_)⟩⟩
  · show (timed _ _ _).length≤1000
    rw [timed_len]
    exact Nat.le_trans (batM_len hP (s:=⟨0,0,0,0,[]⟩) (InI.nil _)) (by omega)
  · obtain ⟨i,hi⟩:=List.mem_iff_getElem?.1 hg
    have:=timed_get P.c.r _ t0 i g hi
    exact ⟨_,List.mem_iff_getElem?.2 ⟨i,this⟩⟩
end Go.Step
namespace Go.Step
open Go.Eng
theorem RI.clr {P:Par} {t0 u:Int} {s:Ss} (h:RI P t0 s u):RI P t0 (clrM s) u:=by
  obtain ⟨c1,c2,c3,c4,c5⟩:=clrM_ok h.si
  refine ⟨c1,by unfold rcOK; rw [c3,c4]; exact h.rc,h.u0,h.u1,?_,?_,clrM_cv h.cv⟩
  · unfold clrM
    split
    · exact Nat.zero_le _
    · exact h.wl
  · have e:(clrM s).dis=s.dis:=by
      unfold clrM
      split <;> rfl
    rw [e];exact h.ds
def st1 (P:Par) (s:Ss):Ss:=trM P s.wait s
def st2 (P:Par) (s:Ss):Ss:=dlvM P (st1 P s).dat.fr.length (st1 P s)
def st3 (P:Par) (s:Ss):Ss:=lsnM P (st2 P s).rep.fr.length (st2 P s)
def st4 (P:Par) (s:Ss):Ss:=expM P (st3 P s)
def stg (P:Par) (s:Ss):Nat→Ss
  | 0=>s
  | 1=>st1 P s
  | 2=>st2 P s
  | 3=>st3 P s
  | _=>st4 P s
theorem minO_none {a b:Option Int} (h:minO a b=none):a=none∧b=none:=by
  cases a with
  | none=>exact ⟨rfl,h⟩
  | some a =>
    cases b with
    | none=>cases h
    | some b =>
      have e:minO (some a) (some b)=if b<a then some b else some a:=rfl
      rw [e] at h
      split at h <;> simp at h
theorem next_wait {s:Ss} (h:nextM s=none):s.wait=[]:=by
  have h1:=(minO_none (minO_none (minO_none h).1).1).1
  cases e:s.wait with
  | nil=>rfl
  | cons x w=>rw [e] at h1; cases h1
theorem expM_frame (P:Par) (s:Ss):∃ b r du st W,expM P s={ s with snd:=⟨b,r,du,st,s.snd.K⟩,wait:=W }:=by
  unfold expM
  split
  · exact ⟨_,_,_,_,_,rfl⟩
  · unfold waitM sendM
    split
    · exact ⟨_,_,_,_,_,rfl⟩
    · exact ⟨_,_,_,_,_,rfl⟩
end Go.Step
namespace Go.Step
end Go.Step
namespace Go.Eng
open Go.IntWalk
variable {R H:List PH} {L:Env}
end Go.Eng
namespace Go.Step
open Go.Eng
structure EndOK (P:Par) (t0:Int) (s:Ss):Prop where
  ok:okP P t0
  o0:∀ x∈s.out0,t0<x.1∧x.1≤P.e∧okG P.d.length x.2
  en:s.ent=s.out0.length+s.out1.length
  lo:s.dat.lost+s.rep.lost≤s.ent
  kn:s.kn=true→s.rcvd=true
  o1:s.rcvd=false→∀ y∈s.out1,y.2.2≠[((0:Int),(P.d.length:Int))]
  fst:s.out0.length≤60→∀ g∈bat 1 (pcsAll (missI (P.d.length:Int) [])),g∈s.out0.map (·.2)
  le:s.ent≤10000
  o2:∀ y∈s.out1,y.2.2.length≤1000
theorem RI.fin {P:Par} {t0 u:Int} {s:Ss} (hP:okP P t0) (h:RI P t0 s u) (hn:nextM s=none):EndOK P t0 s:=by
  have hS:=h.si
  have en:=hS.en
  have l0:=hS.dat.lst
  have l1:=hS.rep.lst
  have hn1:=hP.n1
  refine ⟨hP,hS.o0,h.cv.en,by omega,fun hk=>?_,fun hr y hy e=>?_,fun hl g hg=>?_,by omega,fun y hy=>?_⟩
  · have:=hS.kn hk
    exact h.rc.2 (whole_sub hS.k (by omega) hS.sn.ks this)
  · have hy:=hS.o1 y hy
    have:=h.rc.2 (whole_sub hS.k (by omega) hy.2 e)
    rw [hr] at this
    cases this
  · rcases h.cv.cv with hc|hc
    · omega
    · rcases hc g hg with ⟨t,hc⟩|⟨t,hc⟩
      · exact List.mem_map.2 ⟨_,hc,rfl⟩
      · rw [next_wait hn] at hc
        cases hc
  · have:=(hS.o1 y hy).1.len (by omega)
    have:=hP.n2
    omega
end Go.Step
namespace Go.Step
open Go.Eng
theorem segsF_none:∀ (f:Nat) {s:Int},s≤0→segsF f s=[]
  | 0,_,_=>rfl
  | f+1,s,h=>by
    unfold segsF
    exact if_neg (by omega)
theorem pcs_none:∀ (f:Nat) {a b:Int},b≤a→pcs f a b=[]
  | 0,_,_,_=>rfl
  | f+1,a,b,h=>by
    unfold pcs
    exact if_neg (by omega)
theorem pcs_segs:∀ (f:Nat) (a b:Int),0≤a→a % 16=0→(pcs f a b).map (fun x=>x.2-x.1)=segsF f (b-a)
  | 0,a,b,_,_=>rfl
  | f+1,a,b,h0,h16=>by
    unfold pcs segsF
    by_cases hab:a<b
    · rw [if_pos hab,if_pos (by omega)]
      rw [List.map_cons]
      by_cases hle:a+16≤b
      · have e1:min b ((a / 16+1)*16)=a+16:=by omega
        have e2:min (b-a) 16=16:=by omega
        rw [e1,e2,pcs_segs f (a+16) b (by omega) (by omega)]
        have e3:b-(a+16)=b-a-16:=by omega
        rw [e3]
        have e4:a+16-a=16:=by omega
        dsimp only
        rw [e4]
      · have e1:min b ((a / 16+1)*16)=b:=by omega
        have e2:min (b-a) 16=b-a:=by omega
        rw [e1,e2,pcs_none f (Int.le_refl b),segsF_none f (by omega)]
        rfl
    · rw [if_neg hab,if_neg (by omega)]
      rfl
theorem endG_fold (rate:Int):∀ (G:List Sg) (t:Int),endG rate t G=(G.map (fun x=>((x.b-x.a:Nat):Int))).foldl (fun a n=>a+segT rate n) t
  | [],t=>rfl
  | x::G,t=>by
    show endG rate (t+segT rate ((x.b-x.a:Nat):Int)) G=_
    rw [endG_fold rate G]
    rfl
theorem bat_lens (sr:Int) {P:Iv} (h:∀ x∈P,0≤x.1∧x.1≤x.2):(bat sr P).map (fun x=>((x.b-x.a:Nat):Int))=P.map (fun x=>x.2-x.1):=by
  apply List.ext_getElem?
  intro i
  rw [List.getElem?_map,List.getElem?_map,bat_get]
  cases hi:P[i]? with
  | none=>rfl
  | some x =>
    have:=h x (List.mem_of_getElem? hi)
    simp only [Option.map_some]
    congr 1
    omega
theorem foldl_shift (f:Int→Int):∀ (l:List Int) (a t:Int),l.foldl (fun a n=>a+f n) (t+a)=t+l.foldl (fun a n=>a+f n) a
  | [],a,t=>rfl
  | x::l,a,t=>by
    rw [List.foldl_cons,List.foldl_cons,Int.add_assoc,foldl_shift f l (a+f x) t]
theorem segsL_eq (n:Int):segsL n=segsF n.toNat n:=rfl
theorem end_pass (c:Ct) {n:Nat} (hn:0<n) (t:Int):endG c.r t (bat 1 (pcsAll (missI (n:Int) [])))=t+passC c n:=by
  rw [endG_fold,missI_nil (by omega)]
  have e1:pcsAll [((0:Int),(n:Int))]=pcs ((n:Int)-0).toNat 0 n:=by
    unfold pcsAll
    simp
  obtain ⟨q1,_⟩:=pcs_ok ((n:Int)-0).toNat 0 n (by omega) (Nat.le_refl _)
  rw [e1,bat_lens 1 (fun x hx=>by have:=q1 x hx; omega),pcs_segs _ 0 n (by omega) (by omega)]
  unfold passC;rw [segsL_eq]
  have e2:((n:Int)-0)=n:=by omega
  rw [e2]
  have:=foldl_shift (tickC c) (segsF (n:Int).toNat n) 0 t
  rw [Int.add_zero] at this;exact this
theorem pass_dur {c:Ct} {n:Int} (hc:chkCt c=0):passC c n≤durC c n:=by
  have hok:okCt c:=by
    unfold chkCt at hc
    split at hc
    · omega
    · rename_i h; exact Decidable.not_not.1 h
  obtain ⟨_,_,hr,hg,hl⟩:=hok
  have h3:=tickC_bd (c:=c) (n:=16) hr.1 (by omega)
  have h4:0≤c.l*(2*c.g+1+tickC c 16):=Int.mul_nonneg hl.1 (by omega)
  unfold durC;omega
/-! ### what is sent first -/
theorem enter0_pre (P:Par) (s:Ss) (t:Int) (x:Sg):∃ r,(enter0 P s t x).out0=s.out0 ++ r:=by
  unfold enter0
  split
  · exact ⟨[],by simp⟩
  · cases chSend P.c.g s.dat t (.dat x) (delM P s t).1 with
    | none=>exact ⟨[],by simp⟩
    | some c=>exact ⟨_,rfl⟩
theorem trM_pre (P:Par):∀ (w:List (Int × Sg)) (s:Ss),∃ r,(trM P w s).out0=s.out0 ++ r
  | [],s=>⟨[],by show s.out0=_; simp⟩
  | (t,x)::w,s=>by
    unfold trM
    split
    · obtain ⟨r1,e1⟩:=enter0_pre P s s.now x
      obtain ⟨r2,e2⟩:=trM_pre P w (enter0 P s s.now x)
      exact ⟨r1 ++ r2,by rw [e2,e1,List.append_assoc]⟩
    · exact ⟨[],by show s.out0=_; simp⟩
theorem dlv1_out (P:Par) (s:Ss) (x:Sg):(dlv1 P s x).out0=s.out0:=by
  obtain ⟨c,d,e,o,h⟩:=dlvA_frame P s x
  obtain ⟨r,a,h2⟩:=dlvB_frame P (dlvA P s x)
  rw [dlv1_eq,h2,h]
theorem dlvM_out (P:Par):∀ (f:Nat) (s:Ss),(dlvM P f s).out0=s.out0
  | 0,s=>rfl
  | f+1,s=>by
    unfold dlvM
    split
    · split
      · rw [dlvM_out P f,dlv1_out]
      · rfl
    · rfl
theorem lsn1_out (P:Par) (s:Ss) (sr:Int) (C:Iv):(lsn1 P s sr C).out0=s.out0:=by
  unfold lsn1
  split
  · rfl
  · simp only
    split <;> rfl
theorem lsnM_out (P:Par):∀ (f:Nat) (s:Ss),(lsnM P f s).out0=s.out0
  | 0,s=>rfl
  | f+1,s=>by
    unfold lsnM
    split
    · split
      · rw [lsnM_out P f,lsn1_out]
      · rfl
    · rfl
theorem round_pre (P:Par) (s:Ss) (t:Int):∃ r,(roundM P s t).out0=s.out0 ++ r:=by
  obtain ⟨r,e⟩:=trM_pre P s.wait { s with now:=t }
  obtain ⟨b,r2,du,st,W,hE⟩:=expM_frame P (lsnM P (dlvM P (trM P s.wait { s with now:=t }).dat.fr.length (trM P s.wait { s with now:=t })).rep.fr.length (dlvM P (trM P s.wait { s with now:=t }).dat.fr.length (trM P s.wait { s with now:=t })))
  refine ⟨r,?_⟩
  show (expM P _).out0=_
  rw [hE]
  show (lsnM P _ _).out0=_
  rw [lsnM_out,dlvM_out,e]
theorem clr_out (s:Ss):(clrM s).out0=s.out0:=by
  unfold clrM
  split <;> rfl
theorem runs_pre {P:Par} {s s':Ss} (h:Runs P s s'):∃ r,s'.out0=s.out0 ++ r:=by
  induction h with
  | stop _=>exact ⟨[],by rw [clr_out]; simp⟩
  | @step s s' t _ _ ih =>
    obtain ⟨r,e⟩:=ih
    obtain ⟨r2,e2⟩:=round_pre P (clrM s) t
    exact ⟨r2 ++ r,by rw [e,e2,clr_out,List.append_assoc]⟩
theorem first_sent {P:Par} {t0:Int} (hP:okP P t0) (hE:endG P.c.r t0 (bat 1 (pcsAll (missI (P.d.length:Int) [])))≤P.e) {s':Ss} (h:Runs P (beginM P t0) s') :
    ∃ x r,s'.out0=(t0+segT P.c.r ((x.b-x.a:Nat):Int),x)::r:=by
  have hn:=hP.n1
  obtain ⟨hS,_⟩:=begin_ok hP hE
  obtain ⟨b1,b2⟩:=batM_ok hP (sr:=1) (InI.nil (P.d.length:Int)) (by simp) (by omega)
  obtain ⟨x,G,hG⟩:∃ x G,bat 1 (pcsAll (missI (P.d.length:Int) []))=x::G:=by
    cases hb:bat 1 (pcsAll (missI (P.d.length:Int) [])) with
    | nil=>exact absurd hb b2
    | cons x G=>exact ⟨x,G,rfl⟩
  have hw:(beginM P t0).wait=(t0+segT P.c.r ((x.b-x.a:Nat):Int),x)::timed P.c.r (t0+segT P.c.r ((x.b-x.a:Nat):Int)) G:=by
    show timed P.c.r t0 (bat 1 (pcsAll (missI (P.d.length:Int) [])))=_
    rw [hG]
    rfl
  have hcl:clrM (beginM P t0)=beginM P t0:=if_neg (by show ¬ (10000:Int)≤0; omega)
  have hle:=hS.wt _ (by rw [hw]; exact List.mem_cons_self)
  have hcr:=chkCt_rg hP.hc
  generalize hT:t0+segT P.c.r ((x.b-x.a:Nat):Int)=T at hw hle ⊢
  have hdue:(beginM P t0).snd.due=(beginM P t0).snd.busy+2*P.c.g+1:=rfl
  have hnx:nextM (beginM P t0)=some T:=by
    unfold nextM;rw [hw]
    have e2:(beginM P t0).dat.fr=[]:=rfl
    have e3:(beginM P t0).rep.fr=[]:=rfl
    have e4:waitsM (beginM P t0)=true:=rfl
    rw [e2,e3,e4]
    show minO (some T) (some (beginM P t0).snd.due)=some T
    have e5:minO (some T) (some (beginM P t0).snd.due)=if (beginM P t0).snd.due<T then some (beginM P t0).snd.due else some T:=rfl
    rw [e5,if_neg (by dsimp only at hle; omega)]
  have key:∃ r,(roundM P (beginM P t0) T).out0=(T,x)::r:=by
    have e1:(trM P (beginM P t0).wait { beginM P t0 with now:=T }).out0=(trM P (timed P.c.r T G) (enter0 P { beginM P t0 with now:=T } T x)).out0:=by
      rw [hw]
      conv=>lhs; unfold trM
      rw [if_pos rfl]
    obtain ⟨r,e⟩:=trM_pre P (timed P.c.r T G) (enter0 P { beginM P t0 with now:=T } T x)
    have hdl:=delM_len P { beginM P t0 with now:=T } T
    have e3:=enter0_some (P:=P) (s:={ beginM P t0 with now:=T }) (t:=T) (x:=x) (by show ¬ (10000:Int)≤0; omega) (by show 0+_≤10000; omega)
    have e4:(enter0 P { beginM P t0 with now:=T } T x).out0=[(T,x)]:=by rw [e3]; rfl
    obtain ⟨b,r2,du,st,W,hEx⟩:=expM_frame P (lsnM P (dlvM P (trM P (beginM P t0).wait { beginM P t0 with now:=T }).dat.fr.length (trM P (beginM P t0).wait { beginM P t0 with now:=T })).rep.fr.length (dlvM P (trM P (beginM P t0).wait { beginM P t0 with now:=T }).dat.fr.length (trM P (beginM P t0).wait { beginM P t0 with now:=T })))
    refine ⟨r,?_⟩
    show (expM P _).out0=_
    rw [hEx]
    show (lsnM P _ _).out0=_
    rw [lsnM_out,dlvM_out,e1,e,e4]
    rfl
  cases h with
  | stop hs=>rw [hcl,hnx] at hs; cases hs
  | step h1 h2 =>
    rw [hcl] at h1 h2;rw [hnx] at h1
    obtain rfl:=Option.some.inj h1
    obtain ⟨r,e⟩:=key
    obtain ⟨r2,e2⟩:=runs_pre h2
    exact ⟨x,r ++ r2,by rw [e2,e]; simp [hT]⟩
/-! ### gaps -/
theorem gaps_nil {c:Ct} {cs:List Ct} (hc:cs[0]?=some c) (hlt:c.s<c.e):freeC cs [] 0=[(c.s,c.e)]:=by
  unfold freeC;rw [hc]
  show gapsP c.e c.s []=_
  unfold gapsP;exact if_pos hlt
theorem gaps_one {c:Ct} {cs:List Ct} (hc:cs[0]?=some c) {b:Int} {k:Int}:freeC cs [⟨0,c.s,b,k⟩] 0=if b<c.e then [(b,c.e)] else []:=by
  unfold freeC;rw [hc]
  show gapsP c.e c.s [(c.s,b)]=_
  unfold gapsP
  rw [if_neg (by dsimp only; omega)]
  show [] ++ gapsP c.e b []=_
  rw [List.nil_append];unfold gapsP
  rfl
def fitL:List (Int × Int)→Int→Option Int
  | [],_=>none
  | x::l,n=>if n≤x.2-x.1 then some x.1 else fitL l n
end Go.Step
namespace Go.Eng
variable {L:Env} {R H:List PH}
theorem resS1 {fn:Func} {N:Bs} {M:Nat} {P:Program} {t b1:Nat} {T:TypeId} {v1:List Value} (hr:fn.results = #[.cell t T]) (ht:look L t=some (.pointer (some ⟨b1,0,none⟩))) (a1:aggP P T=some true)
    (n1:szP P T=some v1.length) (c1:Cells N R H b1 0 v1):∀ a w,Frm M L a→Sat N R H w→(results fn a.tmps).run P w=.ok (.agg v1.toArray) w:=by
  intro a w hf hs
  have e1:a.tmps[t]?.getD undef=.pointer (some ⟨b1,0,none⟩):=by simpa using hf.get t _ ht
  have l1:=run_loadCells_list (P:=P) (w:=w) ⟨b1,0,none⟩ v1 (fun j v hv=>by rw [Addr.add_lit]; exact c1 w hs j v hv)
  simp [results,hr,e1,loadVar,run_isAgg a1,run_sizeOf n1,l1,asAddr]
theorem resSE {fn:Func} {N:Bs} {M:Nat} {P:Program} {t u b1:Nat} {T:TypeId} {v1:List Value} {v2:Value} (hr:fn.results = #[.cell t T,.tmp u]) (ht:look L t=some (.pointer (some ⟨b1,0,none⟩))) (hu:look L u=some v2) (a1:aggP P T=some true)
    (n1:szP P T=some v1.length) (c1:Cells N R H b1 0 v1):∀ a w,Frm M L a→Sat N R H w→(results fn a.tmps).run P w=.ok (.tuple #[.agg v1.toArray,v2]) w:=by
  intro a w hf hs
  have e1:a.tmps[t]?.getD undef=.pointer (some ⟨b1,0,none⟩):=by simpa using hf.get t _ ht
  have e2:a.tmps[u]?.getD undef=v2:=by simpa using hf.get u _ hu
  have l1:=run_loadCells_list (P:=P) (w:=w) ⟨b1,0,none⟩ v1 (fun j v hv=>by rw [Addr.add_lit]; exact c1 w hs j v hv)
  simp [results,hr,e1,e2,loadVar,run_isAgg a1,run_sizeOf n1,l1,asAddr]
end Go.Eng
namespace Go.Eng
variable {C:Cx} {D:List Deferred} {R H:List PH} {L:Env} {K:List It}
end Go.Eng
namespace Go.Eng
variable {C:Cx} {D:List Deferred} {R H:List PH} {L:Env} {K:List It}
end Go.Eng
namespace Go.Proofs.YtekcielcagdcmaaGreatDoor
open Go.Eng Go.Step
set_option maxRecDepth 100000
set_option maxHeartbeats 64000000
theorem durC_posA {c:Ct} {s:Int} (hc:chkCt c=0) (hs:1≤s∧s≤65536):1≤durC c s∧durC c s≤40000000:=⟨(durC_bd hc hs).1,(durC_bd hc hs).2.1⟩
theorem chkCt_gA {c:Ct} (h:chkCt c=0):1≤c.g∧c.g≤1048576∧0≤c.s∧c.s<c.e∧c.e≤1099511627776-2*c.g∧0≤c.f∧0≤c.t:=by
 unfold chkCt at h
 split at h
 ·omega
 ·rename_i hk
  split at h
  ·omega
  ·split at h
   ·omega
   ·unfold okCt at hk
    omega
theorem saReq_spec {ρ τ:PH} {pq pc:Option Addr} {kq kc:Nat} {qs:List Int} {cs:List Ct} {q:Rq} (hq:IntsAt ρ (.slice pq qs.length kq) qs) (hc:CtAt τ (.slice pc cs.length kc) cs) (hcap:cs.length≤kc) (lq:qs.length≤9223372036854775807) (lc:cs.length≤9223372036854775807) (hp:chkPl qs cs=0) (ho:okRq qs.length q) :
  Ans Tryz.prog (fv 17) [.agg #[.slice pq qs.length kq,.slice pc cs.length kc],.agg #[int q.src,int q.dst,int q.size,int q.rdy,int q.dln,int q.pri,.bool q.cus]] [ρ,τ] (fun r=>r=int 0):=by
 obtain ⟨⟨a1,a2,a3,a4⟩,a5,⟨a6,a7,a8,a9,a10⟩,a11,a12⟩:=ho
 have hck:=planCheck_spec ρ τ pq pc kq kc qs cs hq hc hcap lq lc
 rw [hp] at hck
 refine spec_in (cap:=[]) Tryz.func17 rfl rfl Tryz.ntmps17 rfl envZ (fun N β=>?_)
 refine Aa ?_;refine BJ (BL rfl) rfl rfl rfl ?_;rintro _ _ ⟨b2,rfl,rfl⟩;refine BJ (BL rfl) rfl rfl rfl ?_;rintro _ _ ⟨b3,rfl,rfl⟩;refine AS (ρ:=sng b2 _) takeZ ?_;refine AS (ρ:=sng b3 _) takeZ ?_
 have cp:=rdB b2 33 [.slice pq qs.length kq,.slice pc cs.length kc]
 have p0:=rdC cp 0
 have bx43_3:=rdB b3 44 [int q.src,int q.dst,int q.size,int q.rdy,int q.dln,int q.pri,.bool q.cus]
 have r0:=rdC bx43_3 0
 have r1:=rdC bx43_3 1
 have r2:=rdC bx43_3 2
 have r3:=rdC bx43_3 3
 have r4:=rdC bx43_3 4
 have r5:=rdC bx43_3 5
 refine Abu ?_;refine BD ?_;refine Aaa ?_;refine Aa2 ?_;refine Aau ?_;refine AT hck rfl rfl rdZ rfl rfl ?_;rintro _ rfl;refine BM ?_;refine Ab9 ?_;refine Aam ?_;refine BK ?_;refine Aak ?_;refine AB ?_;refine CP ?_;refine Aa5 ?_;refine BK ?_;refine Aa5 ?_;refine AB ?_;refine CP ?_;refine AP ?_;refine Ab9 ?_;refine Aam ?_;refine Aad ?_;refine B9 ?_;refine Ab9 ?_;refine Aam ?_;refine BK ?_;refine Aak ?_;refine Ab1 ?_;refine BK ?_;refine Adl ?_;refine Ab1 ?_;refine BO ?_;refine AP ?_;refine Ab9 ?_;refine Aam ?_;refine BK ?_;refine Aak ?_;refine BO ?_;refine Ac2 ?_;refine Aaf ?_;refine BH ?_;refine Aal ?_;exact A9 ⟨rfl,rfl⟩
theorem saFits0_spec (c:Ct) (b s:Int) (hc:chkCt c=0) (hs:1≤s∧s≤65536) (h1:c.s≤b) (h2:b+durC c s≤c.e):Ans Tryz.prog (fv 42) [.agg #[int c.f,int c.t,int c.s,int c.e,int c.r,int c.g,int c.l],int b,int s] [] (fun r=>r=.bool true):=by
 have hdu:=dur0_spec c s hc hs
 have hd:=durC_posA hc hs
 have hg:=chkCt_gA hc
 refine spec_in (cap:=[]) Tryz.func42 rfl rfl Tryz.ntmps42 rfl envZ (fun N β=>?_)
 refine Aa ?_;refine BJ (BL rfl) rfl rfl rfl ?_;rintro _ _ ⟨b2,rfl,rfl⟩;refine AS (ρ:=sng b2 _) takeZ ?_
 have cb:=rdB b2 23 [int c.f,int c.t,int c.s,int c.e,int c.r,int c.g,int c.l]
 have cb2:=rdC cb 2
 have cb3:=rdC cb 3
 refine Ad ?_
 refine BB (.q 0 (.q 1 (.q 2 (.q 3 (.q 4 (.q 5 (.q 6 (.q 7 (.q 8 (.q 9 (.l 10 .e (.q 11 (.q 12 (.q 13 (.q 14 .nil))))))))))))))) [] rfl (by kernel_rfl) selZ ?_
 refine Ab2 ?_;refine EX ?_;refine Abp ?_;refine Aan ?_;refine BP ?_;refine AL ?_;refine BQ (CI rfl hdu rfl rfl rdZ rfl rfl ?_);rintro _ rfl;refine EG ?_;refine zd_le ?_;refine BY ?_;refine Aaq ?_
 skip
 exact A9 ⟨rfl,rfl⟩
theorem saFits_spec (c:Ct) (b s:Int) (hc:chkCt c=0) (hs:1≤s∧s≤65536) (h1:c.s≤b) (h2:b+durC c s≤c.e):Ans Tryz.prog (fv 18) [.agg #[int c.f,int c.t,int c.s,int c.e,int c.r,int c.g,int c.l],int b,int s] [] (fun r=>r=.bool true):=by
 have hck:=chk98_spec c s hc hs
 have hfi:=saFits0_spec c b s hc hs h1 h2
 refine spec_in (cap:=[]) Tryz.func18 rfl rfl Tryz.ntmps18 rfl envZ (fun N β=>?_)
 refine Aa ?_;refine BJ (BL rfl) rfl rfl rfl ?_;rintro _ _ ⟨b2,rfl,rfl⟩;refine AS (ρ:=sng b2 _) takeZ ?_
 have cb:=rdB b2 23 [int c.f,int c.t,int c.s,int c.e,int c.r,int c.g,int c.l]
 refine Ac5 ?_;refine AB ?_;refine AT hck rfl rfl rdZ rfl rfl ?_;rintro _ rfl;refine CN ?_;refine AB ?_;refine AQ ?_;refine Aao ?_;refine AT hfi rfl rfl rdZ rfl rfl ?_;rintro _ rfl;refine Abm ?_;exact A9 ⟨rfl,rfl⟩
theorem saHop0_spec {ρ τ:PH} {pq pc:Option Addr} {kq kc:Nat} {qs:List Int} {cs:List Ct} {q:Rq} (hq:IntsAt ρ (.slice pq qs.length kq) qs) (hc:CtAt τ (.slice pc cs.length kc) cs) (hcap:cs.length≤kc) (lq:qs.length≤9223372036854775807) (lc:cs.length≤9223372036854775807) (hp:chkPl qs cs=0) (hs:1≤q.size∧q.size≤65536) {i:Nat} {c:Ct} (hi:cs[i]?=some c) (t0:Int) (hb:0≤t0∧t0≤1099511627776) :
  Ans Tryz.prog (fv 19) [.agg #[.slice pq qs.length kq,.slice pc cs.length kc],.agg #[int q.src,int q.dst,int q.size,int q.rdy,int q.dln,int q.pri,.bool q.cus],int (i:Int),int t0] [τ] (fun r=>r=.agg #[int (i:Int),int t0,int (t0+durC c q.size),int (t0+durC c q.size+c.g)]):=by
 have hck:=(chkPl_ct hp).2 c (List.mem_of_getElem? hi)
 have hdu:=dur_spec c q.size hck.1 hs
 have hd:=durC_posA hck.1 hs
 have hg:=chkCt_gA hck.1
 have hil:=(List.getElem?_eq_some_iff.1 hi).1
 obtain ⟨_,_,e,hrc⟩:=hc.val encC_len
 simp only [Value.slice.injEq] at e
 obtain ⟨rfl,_,rfl⟩:=e
 obtain ⟨bq,oq,rfl,hrd⟩:=ctRow hrc hi
 refine spec_in (cap:=[]) Tryz.func19 rfl rfl Tryz.ntmps19 rfl envZ (fun N β=>?_)
 refine Aa ?_;refine BJ (BL rfl) rfl rfl rfl ?_;rintro _ _ ⟨b4,rfl,rfl⟩;refine BJ (BL rfl) rfl rfl rfl ?_;rintro _ _ ⟨b5,rfl,rfl⟩;refine BJ (C5 rfl) rfl rfl rfl ?_;rintro _ _ ⟨b8,rfl,rfl⟩;refine AS (ρ:=sng b4 _) takeZ ?_;refine AS (ρ:=sng b5 _) takeZ ?_
 have bx241_3:=rdB b4 33 [.slice pq qs.length kq,.slice (some ⟨bq,oq,none⟩) cs.length kc]
 have cp1:=rdC bx241_3 1
 have bx242_3:=rdB b5 44 [int q.src,int q.dst,int q.size,int q.rdy,int q.dln,int q.pri,.bool q.cus]
 have cr2:=rdC bx242_3 2
 refine Ac4 ?_;refine AB ?_;refine Ab4 ?_;refine A4 ?_; rintro _ _ ⟨b,rfl,rfl⟩;refine AY ?_; rintro _ _ ⟨rfl,rfl⟩;refine AE ?_;refine Aau ?_;refine Aad ?_
 revert b; intro b
 refine AT hdu rfl rfl rdZ rfl rfl ?_;rintro _ rfl;refine Aa7 ?_;refine Aab ?_;refine Abq ?_;refine CD ?_;refine Aao ?_;refine CD ?_;refine Aad ?_;refine CD ?_;refine B6 ?_;refine AY ?_; rintro _ _ ⟨rfl,rfl⟩;refine AE ?_;exact AK (resS1 (b1:=b8) (T:=40) (v1:=[int (i:Int),int t0,int (t0+durC c q.size),int (t0+durC c q.size+c.g)]) rfl rfl rfl rfl (cells_own memZ)) rsubZ selZ ⟨rfl,rfl⟩
theorem saHop_spec {ρ τ:PH} {pq pc:Option Addr} {kq kc:Nat} {qs:List Int} {cs:List Ct} {q:Rq} (hq:IntsAt ρ (.slice pq qs.length kq) qs) (hc:CtAt τ (.slice pc cs.length kc) cs) (hcap:cs.length≤kc) (lq:qs.length≤9223372036854775807) (lc:cs.length≤9223372036854775807) (hp:chkPl qs cs=0) (ho:okRq qs.length q) {i:Nat} {c:Ct} (hi:cs[i]?=some c) (t0:Int) (h1:c.s≤t0) (h2:t0+durC c q.size≤c.e) :
  Ans Tryz.prog (fv 7) [.agg #[.slice pq qs.length kq,.slice pc cs.length kc],.agg #[int q.src,int q.dst,int q.size,int q.rdy,int q.dln,int q.pri,.bool q.cus],int (i:Int),int t0] [ρ,τ] (fun r=>r=.tuple #[.agg #[int (i:Int),int t0,int (t0+durC c q.size),int (t0+durC c q.size+c.g)],int 0]):=by
 have hck:=(chkPl_ct hp).2 c (List.mem_of_getElem? hi)
 have hcs:=chkCt_se hck.1
 have hs:1≤q.size∧q.size≤65536:=⟨ho.2.2.1.1,ho.2.2.1.2.1⟩
 have hd:=durC_bd hck.1 hs
 have hrq:=saReq_spec hq hc hcap lq lc hp ho
 have hft:=saFits_spec c t0 q.size hck.1 hs h1 h2
 have hhp:=saHop0_spec hq hc hcap lq lc hp hs hi t0 ⟨by omega,by omega⟩
 have hil:=(List.getElem?_eq_some_iff.1 hi).1
 obtain ⟨_,_,e,hrc⟩:=hc.val encC_len
 simp only [Value.slice.injEq] at e
 obtain ⟨rfl,_,rfl⟩:=e
 obtain ⟨bq,oq,e4,hrd⟩:=ctRow hrc hi
 refine spec_in (cap:=[]) Tryz.func7 rfl rfl Tryz.ntmps7 rfl envZ (fun N β=>?_)
 refine Aa ?_;refine BJ (BL rfl) rfl rfl rfl ?_;rintro _ _ ⟨b4,rfl,rfl⟩;refine AS (ρ:=sng b4 _) takeZ ?_
 have cp:=rdB b4 33 [.slice pq qs.length kq,.slice pc cs.length kc]
 have cp0:=rdC cp 0
 have cp1:=rdC cp 1
 refine BJ (BL rfl) rfl rfl rfl ?_;rintro _ _ ⟨b5,rfl,rfl⟩;refine AS (ρ:=sng b5 _) takeZ ?_
 have cq:=rdB b5 44 [int q.src,int q.dst,int q.size,int q.rdy,int q.dln,int q.pri,.bool q.cus]
 have cq0:=rdC cq 0
 have cq1:=rdC cq 1
 have cq2:=rdC cq 2
 have cq3:=rdC cq 3
 have cq4:=rdC cq 4
 have cq5:=rdC cq 5
 have cq6:=rdC cq 6
 subst e4;refine A4 ?_; rintro _ _ ⟨b,rfl,rfl⟩;refine Ads ?_;refine AQ ?_
 revert b; intro b8
 refine AT hrq rfl rfl rdZ rfl rfl ?_;rintro _ rfl;refine Add ?_;refine BK ?_;refine AB ?_;refine Aak ?_;refine BD ?_;refine CP ?_;refine Aa4 ?_;refine Acv ?_
 refine BB (.q 0 (.q 1 (.q 2 (.q 3 (.q 4 (.q 5 (.q 6 (.q 7 (.l 8 .e (.q 9 .nil)))))))))) [] rfl (by kernel_rfl) Sel.nil ?_
 refine Aan ?_;refine AL ?_;refine CE ?_;refine BP ?_;refine Ab2 ?_;refine BQ (CI rfl hft rfl rfl rdZ rfl rfl ?_);rintro _ rfl;refine DC ?_;refine Ab0 ?_;refine Aau ?_;refine AQ ?_;refine Aao ?_;refine AT hhp rfl rfl rdZ rfl rfl ?_;rintro _ rfl;refine AY ?_; rintro _ _ ⟨rfl,rfl⟩;refine Aaa ?_;exact AK (resSE (b1:=b8) (T:=40) (v1:=[int (i:Int),int t0,int (t0+durC c q.size),int (t0+durC c q.size+c.g)]) rfl rfl rfl rfl rfl (cells_own memZ)) rsubZ selZ ⟨rfl,rfl⟩
theorem saChk_spec {ρ τ σ υ:PH} {pq pc pb ph:Option Addr} {kq kc kb kh:Nat} {qs:List Int} {cs:List Ct} {bs:List Bk} {hs:List Hd} (hT:TbAt ρ τ σ υ pq pc pb ph kq kc kb kh qs cs bs hs) (i:Nat) (h0:chkB qs cs bs≠0) :
  Ans Tryz.prog (fv 14) [.agg #[.slice pq qs.length kq,.slice pc cs.length kc],.slice pb bs.length kb,int (i:Int)] [ρ,τ,σ] (fun r=>r=int 1):=by
 have hck:=bkCheck_spec ρ τ σ pq pc kq kc qs cs _ bs hT.hq hT.hc hT.hcap hT.lq hT.lc hT.hb hT.lb
 generalize chkB qs cs bs=e at h0 hck
 refine spec_in (cap:=[]) Tryz.func14 rfl rfl Tryz.ntmps14 rfl envZ (fun N β=>?_)
 refine Aa ?_;refine BJ (BL rfl) rfl rfl rfl ?_;rintro _ _ ⟨b3,rfl,rfl⟩;refine AS (ρ:=sng b3 _) takeZ ?_
 have cp:=rdB b3 33 [.slice pq qs.length kq,.slice pc cs.length kc]
 have cp0:=rdC cp 0
 have cp1:=rdC cp 1
 refine Ads ?_;refine AB ?_;refine AT hck rfl rfl rdZ rfl rfl ?_;rintro _ rfl;refine C8 ?_;refine Acd ?_;exact A9 ⟨rfl,rfl⟩
theorem saFit_spec {ρ τ σ υ:PH} {pq pc pb ph:Option Addr} {kq kc kb kh:Nat} {qs:List Int} {cs:List Ct} {bs:List Bk} {hs:List Hd} (hT:TbAt ρ τ σ υ pq pc pb ph kq kc kb kh qs cs bs hs) {x:Ct} (hx:cs[0]?=some x) (hcx:chkCt x=0) (sz:Int) (hsz:1≤sz∧sz≤65536) :
  Ans Tryz.prog (fv 6) [.agg #[.slice pq qs.length kq,.slice pc cs.length kc],.slice pb bs.length kb,int 0,int x.s,int sz] [ρ,τ,σ] (fun r=>(chkB qs cs bs≠0∧r=.tuple #[int 0,int 1])∨(chkB qs cs bs=0∧fitL (freeC cs bs 0) (durC x sz)=none∧r=.tuple #[int 0,int 16])∨(chkB qs cs bs=0∧∃ b,fitL (freeC cs bs 0) (durC x sz)=some b∧r=.tuple #[int b,int 0])):=by
 have hil:=(List.getElem?_eq_some_iff.1 hx).1
 have hcs:=chkCt_se hcx
 have hdu:=dur_spec x sz hcx hsz
 obtain ⟨bq,oq,e4,hrd⟩:=ctRow hT.rc hx
 by_cases h0:chkB qs cs bs=0
 rotate_left
 ·have hck:=saChk_spec hT 0 h0
  refine spec_in (cap:=[]) Tryz.func6 rfl rfl Tryz.ntmps6 rfl envZ (fun N β=>?_)
  refine Aa ?_;refine BJ (BL rfl) rfl rfl rfl ?_;rintro _ _ ⟨b5,rfl,rfl⟩;refine AS (ρ:=sng b5 _) takeZ ?_
  have cp:=rdB b5 33 [.slice pq qs.length kq,.slice pc cs.length kc]
  have cp0:=rdC cp 0
  have cp1:=rdC cp 1
  refine Ac6 ?_;refine Aao ?_;refine AT hck rfl rfl rdZ rfl rfl ?_;rintro _ rfl;refine Abv ?_;refine C8 ?_;refine Aai ?_;refine Aab ?_;refine Aaj ?_;exact AK (res2 rfl rfl rfl) rsubZ selZ ⟨rfl,.inl ⟨h0,rfl⟩⟩
 have hck:=bkCheck0_spec hT 0 h0 hil
 obtain ⟨hbl,hF⟩:=chkB_ok h0
 have hfr:=bkFree0_spec hT 0 x hx hF hbl
 obtain ⟨⟨hfn,_⟩,hfb,_⟩:=freeC_ok hF hx
 have hfl:=gapsP_len x.e (busyL bs 0) x.s
 have hfc:freeC cs bs 0=gapsP x.e x.s (busyL bs 0):=by unfold freeC; rw [hx]; rfl
 have hbll:=busyL_len bs 0
 have hfl2:(freeC cs bs 0).length≤600:=by rw [hfc]; omega
 generalize freeC cs bs 0=G at hfr hfb hfn hfl2 ⊢
 generalize durC x sz=D at hdu ⊢
 refine spec_in (cap:=[]) Tryz.func6 rfl rfl Tryz.ntmps6 rfl envZ (fun N β=>?_)
 refine Aa ?_;refine BJ (BL rfl) rfl rfl rfl ?_;rintro _ _ ⟨b5,rfl,rfl⟩;refine AS (ρ:=sng b5 _) takeZ ?_
 have cp:=rdB b5 33 [.slice pq qs.length kq,.slice pc cs.length kc]
 have cp0:=rdC cp 0
 have cp1:=rdC cp 1
 subst e4;refine Ac6 ?_;refine Aao ?_;refine AT hck rfl rfl rdZ rfl rfl ?_;rintro _ rfl;refine Abv ?_;refine Aba ?_;refine Aam ?_;refine AB ?_;refine Ab4 ?_;refine AB ?_;refine AT hdu rfl rfl rdZ rfl rfl ?_;rintro _ rfl;refine Acz ?_;refine Aba ?_;refine Abz ?_;refine Abq ?_;refine B8 hfr rfl rfl rdZ rfl rfl ?_;rintro w χ hO
 obtain ⟨pw,kw,rfl⟩:=hO.form
 obtain ⟨_,_,ew,hrw⟩:=SlE.val (enc:=encS) encS_len (show SlE encS 2 χ _ G from hO.at)
 simp only [Value.slice.injEq] at ew
 obtain ⟨rfl,_,rfl⟩:=ew
 refine AS (ρ:=χ) takeZ ?_;refine Aby ?_
 refine BU [13,40,41,10,11] (X:=Nat) 0 (fun k=>k≤G.length∧fitL G D=fitL (G.drop k) D) (fun k=>[(42,int (k:Int))]) (fun _=>[]) (fun k=>G.length-k) pickZ ⟨Nat.zero_le _,rfl⟩ covZ selZ ?_
 rintro k ⟨hk,hfk⟩
 by_cases hlt:k<G.length
 ·have hy:=List.getElem?_eq_getElem hlt
  have hin:=hfb _ (List.getElem_mem hlt)
  have hin2:=hfn _ (List.getElem_mem hlt)
  rw [List.drop_eq_getElem_cons hlt] at hfk
  obtain ⟨b6,o6,rfl,hRd6,y0,y1⟩:=spRow hrw hy
  generalize G[k]=y at hy hin hin2 hfk hRd6 y0 y1
  by_cases hfit:D≤y.2-y.1
  ·have hfk2:fitL G D=some y.1:=hfk.trans (if_pos hfit)
   refine Ade ?_;refine A4 ?_; rintro _ _ ⟨b,rfl,rfl⟩;refine AY ?_; rintro _ _ ⟨rfl,rfl⟩;refine Ac4 ?_;refine Aad ?_;refine DM ?_;refine AB ?_;refine C9 ?_;refine Aai ?_;refine Aam ?_;refine Aaj ?_;exact AK (res2 rfl rfl rfl) rsubZ selZ ⟨rfl,.inr (.inr ⟨h0,y.1,hfk2,rfl⟩)⟩
  ·have hfk2:fitL G D=fitL (G.drop (k+1)) D:=hfk.trans (if_neg hfit)
   refine Ade ?_;refine A4 ?_; rintro _ _ ⟨b,rfl,rfl⟩;refine AY ?_; rintro _ _ ⟨rfl,rfl⟩;refine Ac4 ?_;refine Aad ?_;refine DM ?_;refine AB ?_;refine CP ?_;refine Aag ?_;refine Abf ?_
   exact BG (k+1) ⟨by omega,hfk2⟩ (by omega) covZ selZ
 ·have hke:k=G.length:=by omega
  subst hke;rw [List.drop_length] at hfk;refine Ab5 ?_;refine Acn ?_;exact AK (res2 rfl rfl rfl) rsubZ selZ ⟨rfl,.inr (.inl ⟨h0,hfk,rfl⟩)⟩
theorem saAdd_spec (ρ τ σ:PH) (pq pc p:Option Addr) (kq kc kk:Nat) (qs:List Int) (cs:List Ct) (l:List Bk) (x:Bk) (hq:IntsAt ρ (.slice pq qs.length kq) qs) (hc:CtAt τ (.slice pc cs.length kc) cs) (hcap:cs.length≤kc) (lq:qs.length≤9223372036854775807) (lc:cs.length≤9223372036854775807) (hv:BkAt σ (.slice p l.length kk) l) (hl:l.length≤9223372036854775807) (h0:chkB qs cs l=0) (hx:okBkB cs x=true) (hfull:l.length≠512) (ho:(busyL l x.c).any (overB x)=false) :
  Makes Tryz.prog (fv 8) [.agg #[.slice pq qs.length kq,.slice pc cs.length kc],.slice p l.length kk,.agg #[int x.c,int x.a,int x.b,int x.k]] [ρ,τ,σ] (fun r χ=>∃ (u:Value) (l':List Bk),r=.tuple #[u,int 0]∧chkB qs cs l'=0∧(l=[]→l'=[x])∧OwnS 48 4 u l'.length (l'.flatMap encB) χ):=by
 have hck:=bkCheck_spec ρ τ σ pq pc kq kc qs cs _ l hq hc hcap lq lc hv hl
 have hvl:=bkValid_spec τ pq pc qs.length kq kc cs x hc
 refine spec_in (cap:=[]) Tryz.func8 rfl rfl Tryz.ntmps8 rfl envZ (fun N β=>?_)
 refine CG ?_;refine Aa ?_;refine BJ (BL rfl) rfl rfl rfl ?_;rintro _ _ ⟨b1,rfl,rfl⟩;refine AS (ρ:=sng b1 _) takeZ ?_
 have c:=rdB b1 33 [.slice pq qs.length kq,.slice pc cs.length kc]
 have c0:=rdC c 0
 have c1:=rdC c 1
 refine BJ (BL rfl) rfl rfl rfl ?_;rintro _ _ ⟨b2,rfl,rfl⟩;refine AS (ρ:=sng b2 _) takeZ ?_
 have cx:=rdB b2 48 [int x.c,int x.a,int x.b,int x.k]
 have cx0:=rdC cx 0
 have cx1:=rdC cx 1
 have cx2:=rdC cx 2
 have cx3:=rdC cx 3
 refine Ac6 ?_;refine AB ?_;refine AT hck rfl rfl rdZ rfl rfl ?_;rintro _ rfl;rw [h0];refine Aba ?_;refine Abz ?_;refine AQ ?_;refine AT hvl rfl rfl rdZ rfl rfl ?_;rintro _ rfl;rw [hx]
 obtain ⟨hl5,hF⟩:=chkB_ok h0
 have hsort:l.Pairwise (fun x y=>cmpBk x y<0):=(bks_apart hF).imp_of_mem (fun {y z} hy _ hyz=>by
  obtain ⟨_,c,_,_,h2,_⟩:=bkE_ok hF y hy
  rw [cmpBk_lt]
  omega)
 have hbusy:=busy_spec σ _ l x.c hv (by omega)
 have hbl:=busyL_len l x.c
 refine Abr ?_;refine Aah ?_;refine BD ?_;refine Ab8 ?_;refine Aah ?_;refine Aad ?_;refine B8 hbusy rfl rfl rdZ rfl rfl ?_;rintro w χb hOb
 have hSb:SpAt χb w (busyL l x.c):=hOb.at
 refine AS (ρ:=χb) takeZ ?_
 have hct:=contS_spec χb [sng b2 (.cells #[int x.c,int x.a,int x.b,int x.k] 48 (0,0))] w (.func (.func 24) #[] #[.pointer (some ⟨b2,0,none⟩)]) (busyL l x.c) (overB x) hSb (by omega) (fun i s _=>bkOver_spec b2 x s)
 refine BZ ?_;refine AT hct rfl rfl rdZ rfl rfl ?_;rintro _ rfl;rw [ho]
 have hins:=bkInsert_spec σ p kk l x hv hsort (by omega)
 refine Aag ?_;refine Aab ?_;refine AQ ?_;refine B8 hins rfl rfl rdZ rfl rfl ?_;rintro u χi ⟨k,k1,k2,hOi⟩;refine Aaj ?_
 exact AK (res2 rfl rfl rfl) rsubZ selZ ⟨χi,⟨u,insL l k x,rfl,(insB_ok h0 ((okBkB_iff cs x).1 hx) hfull ho k1 k2).1,(fun e=>by subst e; simp [insL]),hOi⟩,rfl⟩
end Go.Proofs.YtekcielcagdcmaaGreatDoor
