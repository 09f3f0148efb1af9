/- Loops whose rounds hold a range over a function: the marks add up. No conditions. -/
import Derived.Test.YtnbihndlbopmeaaWMbMore
set_option linter.all false
namespace Go.Eng
variable {C : Cx} {D : List Deferred} {R H : List PH} {L : Env} {K : List It}

/-- the marks of the loops so far, in one chunk -/
def MkIn (μ : PH) (ms : List Nat) : Prop := ms.Nodup ∧ ∀ b ∈ ms, μ b = some defO
theorem MkIn.nil : MkIn emp [] := ⟨by simp, by simp⟩
theorem jk_markJoin {b : Nat} {μ : PH} {ms : List Nat} {H1 H2 : List PH} (t1 : Take (sng b defO) H H1) (t2 : Take μ H1 H2) (hm : MkIn μ ms) (h : ∀ μ', MkIn μ' (b :: ms) → JK C D R (μ' :: H2) L K) : JK C D R H L K := by
  by_cases hb : μ b = none
  · refine jk_join t1 t2 (fun γ g1 g2 => h γ ⟨List.nodup_cons.2 ⟨fun hin => ?_, hm.1⟩, fun c hc => ?_⟩)
    · rw [hm.2 b hin] at hb; simp at hb
    · simp at hc
      rcases hc with rfl | hc
      · exact g1 _ _ (sng_self _ _)
      · exact g2 _ _ (hm.2 c hc)
  · refine ⟨fun a w hf hd hs => ?_⟩
    have := (t1.pw hs.hd).2 μ t2.mem b
    rcases this with e | e
    · simp [sng_self] at e
    · exact absurd e hb
theorem MkIn.run {P : Program} {fn : Func} {tmps : Array Value} {S : Value → World → Prop} {N : Bs} : ∀ {ms : List Nat} {μ : PH} {w : World}, MkIn μ ms → Sat N R (μ :: H) w → (∀ w', Sat N R H w' → ∃ v, (results fn tmps).run P w' = .ok v w' ∧ S v w') → MarksQ P fn tmps S (ms.map mk) w := by
  intro ms
  induction ms with
  | nil => intro μ w _ hs h; exact h w hs.tail
  | cons b ms ih =>
    intro μ w hm hs h
    have hb : w.heap[b]? = some defO := hs.h μ (by simp) b _ (hm.2 b (by simp))
    refine ⟨b, { w with heap := w.heap.setIfInBounds b (.deferred none) }, rfl, by simp [Instr.takeDeferred, getObj, setObj, Sem.run, hb], ?_⟩
    have hnd := List.nodup_cons.1 hm.1
    let μ' : PH := fun c => if c = b then none else μ c
    have hμ' : MkIn μ' ms := ⟨hnd.2, fun c hc => by
      have hne : c ≠ b := fun e => by subst e; exact hnd.1 hc
      simp only [μ', if_neg hne]
      exact hm.2 c (by simp [hc])⟩
    have hp := List.pairwise_cons.1 hs.hd
    have keep : ∀ ρ : PH, ρ b = none → ρ.le w → ρ.le { w with heap := w.heap.setIfInBounds b (.deferred none) } := fun ρ hn hr c o hc => by
      have hne : b ≠ c := fun e => by subst e; rw [hn] at hc; simp at hc
      simp only [Array.getElem?_setIfInBounds, if_neg hne]
      exact hr c o hc
    have hμb : μ b ≠ none := by rw [hm.2 b (by simp)]; simp
    have dj : ∀ τ : PH, μ.disj τ → μ'.disj τ := fun τ hd c => by
      by_cases e : c = b
      · left; simp only [μ', if_pos e]
      · simp only [μ', if_neg e]; exact hd c
    refine ih hμ' (μ := μ') ⟨by simp; exact hs.sz, fun ρ hρ => keep ρ ((hs.rd ρ hρ μ (by simp) b).resolve_right hμb) (hs.r ρ hρ), fun ρ hρ => ?_, List.pairwise_cons.2 ⟨fun τ hτ => dj τ (hp.1 τ hτ), hp.2⟩, fun ρ hρ σ hσ => ?_⟩ h
    · simp at hρ
      rcases hρ with rfl | hρ
      · refine keep μ' (by simp only [μ', if_true]) (fun c o hc => ?_)
        simp only [μ'] at hc
        split at hc
        · simp at hc
        · exact hs.h μ (by simp) c o hc
      · exact keep ρ ((hp.1 ρ hρ b).resolve_left hμb) (hs.h ρ (by simp [hρ]))
    · simp at hσ
      rcases hσ with rfl | hσ
      · exact (dj ρ (hs.rd ρ hρ μ (by simp)).symm).symm
      · exact hs.rd ρ hρ σ (by simp [hσ])
theorem jk_retMu {P : Program} {fn : Func} {N : Bs} {M : Nat} {R R0 H H1 H' : List PH} {L : Env} {K : List It} {post : Value → List PH → Prop} {v : Value} {ms : List Nat} {μ : PH} (m : MkIn μ ms) (t : Take μ H H1)
    (hv : ∀ a w, Frm M L a → Sat N R H1 w → (results fn a.tmps).run P w = .ok v w) (hR : ∀ ρ ∈ R0, ρ ∈ R) (hH : Sel H1 H') (hp : post v H') :
    JK ⟨none, P, FnQ P fn N R0 post, N, M⟩ (ms.map mk) R H L (.code .ret :: K) := by
  refine ⟨fun a w hf hd hs => wpIn_ret (wpK_ret K a w ?_)⟩
  show MarksQ _ _ _ _ a.defers w
  rw [hd]
  exact m.run (hs.take t) (fun w' hs' => ⟨v, hv a w' hf hs', H', hp, (hs'.rsub hR).sel hH⟩)
theorem jk_rdrop {R' : List PH} (hR : ∀ ρ ∈ R', ρ ∈ R) (h : JK C D R' H L K) : JK C D R H L K :=
  ⟨fun a w hf hd hs => h.run a w hf hd (hs.rsub hR)⟩

def RoundD {X : Type} (C : Cx) (Dx : X → List Deferred) (R : List PH) (Inv : X → Prop) (Lx : X → Env) (Hx : X → List PH) (μ : X → Nat) (m : Nat) (a : Act) (w : World) : Prop :=
  ∃ x, Inv x ∧ μ x < m ∧ Frm C.M (Lx x) a ∧ a.defers = Dx x ∧ Sat C.N R (Hx x) w
theorem jk_loopD {X : Type} {c : Code} {Lk : Env} (keep : List Nat) (x0 : X) (Dx : X → List Deferred) (Inv : X → Prop) (Lx : X → Env) (Hx : X → List PH) (μ : X → Nat)
    (hk : Pick L keep Lk) (hD : D = Dx x0) (h0 : Inv x0) (hL : Cover L (Lx x0)) (hH : Sel H (Hx x0))
    (round : ∀ x, Inv x → JK C (Dx x) R (Hx x) (Lx x ++ Lk) (.code c :: .till (RoundD C Dx R Inv (fun y => Lx y ++ Lk) Hx μ (μ x)) :: K)) :
    JK C D R H L (.code (.loop c) :: K) := by
  refine ⟨fun a w hf hd hs => ?_⟩
  refine wpIn_loop_nat (fun m a w => ∃ x, Inv x ∧ μ x = m ∧ Frm C.M (Lx x ++ Lk) a ∧ a.defers = Dx x ∧ Sat C.N R (Hx x) w) (m := μ x0)
    ⟨x0, h0, rfl, hf.cover (hL.append hk.cover), hd.trans hD, hs.sel hH⟩ ?_
  rintro m a w ⟨x, hI, rfl, hf, hd, hs⟩
  refine wpIn_mono ((round x hI).run a w hf hd hs) (fun e a' w' hq => ?_)
  cases e with
  | normal =>
    obtain ⟨y, h1, h2, h3, h4, h5⟩ := hq
    exact ⟨μ y, h2, y, h1, rfl, h3, h4, h5⟩
  | _ => exact hq
theorem jk_roundD {X : Type} {Dx : X → List Deferred} {Inv : X → Prop} {Lx : X → Env} {Hx : X → List PH} {μ : X → Nat} {m : Nat} (y : X) (hD : D = Dx y) (h1 : Inv y) (h2 : μ y < m) (h3 : Cover L (Lx y)) (h4 : Sel H (Hx y)) :
    JK C D R H L (.till (RoundD C Dx R Inv Lx Hx μ m) :: K) :=
  ⟨fun _ _ hf hd hs => ⟨y, h1, h2, hf.cover h3, hd.trans hD, hs.sel h4⟩⟩
end Go.Eng
