/- A range over a function: the iterator's contract, the rounds, the return of a function that holds such a loop. No conditions. -/
import Derived.Test.YtnbihndlbopmeaaWMbKit
set_option linter.all false
namespace Go.Eng
variable {C : Cx} {D : List Deferred} {R H T : List PH} {L : Env} {K : List It}

def RQ (P : Program) (l : Nat) (N : Bs) (R : List PH) (post : Value → List PH → Prop) : Exit → Act → World → Prop :=
  roundPost P l (fun e w' => ∃ v, e = .returned v ∧ ∃ H', post v H' ∧ Sat N R H' w')
abbrev yv (l : Nat) : Value := .func (.yield l) #[] #[]
def putEnv : List Nat → List Value → Env → Env
  | p :: ps, v :: vs, L => putEnv ps vs ((p, v) :: L)
  | _, _, L => L
inductive PutI : List Nat → List Value → Env → Env → Prop
  | nil {L : Env} : PutI [] [] L L
  | cons {p : Nat} {v : Value} {ps : List Nat} {vs : List Value} {L L' : Env} : PutI ps vs ((p, v) :: L) L' → PutI (p :: ps) (v :: vs) L L'
theorem PutI.frm {M : Nat} {ps : List Nat} {vs : List Value} {L L' : Env} (h : PutI ps vs L L') (hps : ∀ p ∈ ps, p < M) : ∀ {tmps : Array Value}, Frm M L ⟨tmps, []⟩ → Frm M L' ⟨(ps.zip vs).foldl (fun tmps (x : Nat × Value) => tmps.setIfInBounds x.1 x.2) tmps, []⟩ := by
  induction h with
  | nil => intro tmps hf; exact hf
  | @cons p v ps vs L L' _ ih =>
    intro tmps hf
    simp only [List.zip_cons_cons, List.foldl_cons]
    exact ih (fun q hq => hps q (by simp [hq])) (hf.put (d := p) (hps p (by simp)) v)
theorem PutI.len {ps : List Nat} {vs : List Value} {L L' : Env} (h : PutI ps vs L L') : ps.length = vs.length := by
  induction h with
  | nil => rfl
  | cons _ ih => simp [ih]

theorem run_getLoop {P : Program} {w : World} {l : Nat} {r : Loop} (h : w.heap[l]? = some (.loop r)) : (Instr.getLoop l).run P w = .ok r w := by
  simp [Instr.getLoop, getObj, Sem.run, h]
theorem run_setLoop {P : Program} {w : World} {l : Nat} {r : Loop} {o : Obj} (h : w.heap[l]? = some (.loop r)) : (setObj l o).run P w = .ok () { w with heap := w.heap.setIfInBounds l o } := by
  simp [setObj, Sem.run, h]
theorem Sat.turnAny {N : Bs} {w : World} {b : Nat} {o o' : Obj} {H' : List PH} (h : Sat N R H w) (t : Take (sng b o) H H') : Sat N R (sng b o' :: H') { w with heap := w.heap.setIfInBounds b o' } := by
  have hb := h.own t
  have hlt : b < w.heap.size := (Array.getElem?_eq_some_iff.1 hb).1
  refine h.turn t (by simp) (by simp [hlt]) (fun k hk => ?_)
  simp [Ne.symm hk]

theorem jk_begin {l : Nat} {r : Loop} {H' : List PH} (t : Take (sng l (.loop r)) H H') (hs : r.state = .ready) (h : JK C D R (sng l (.loop { r with state := .busy }) :: H') L K) : JK C D R H L (.sem (Instr.beginRound l) :: K) := by
  refine ⟨fun a w hf hd hsat => ⟨{ w with heap := w.heap.setIfInBounds l (.loop { r with state := .busy }) }, ?_, h.run a _ hf hd (hsat.turnAny t)⟩⟩
  have hb := hsat.own t
  simp [Instr.beginRound, run_getLoop hb, run_setLoop hb, hs]

/-- a round ends: on, or out by a jump -/
theorem run_endRound {P : Program} {w : World} {l : Nat} {r : Loop} (jump : Option Code) (h : w.heap[l]? = some (.loop r)) :
    (Instr.endRound l jump).run P w = .ok (.bool jump.isNone) { w with heap := w.heap.setIfInBounds l (.loop { r with state := if jump.isNone then .ready else .done, pending := jump }) } := by
  simp [Instr.endRound, run_getLoop h, run_setLoop h]
section
variable {P : Program} {N : Bs} {l M : Nat} {R0 : List PH} {post : Value → List PH → Prop} {r : Loop} {H1 H2 : List PH}
theorem jk_roundEnd (t : Take (sng l (.loop r)) H H1) (hR : ∀ ρ ∈ R0, ρ ∈ R) (hH : Sel (sng l (.loop { r with state := .ready, pending := none }) :: H1) H2) (hp : post (.bool true) H2) :
    JK ⟨some l, P, RQ P l N R0 post, N, M⟩ D R H L [] := by
  refine ⟨fun a w hf hd hsat => ?_⟩
  exact ⟨_, _, run_endRound none (hsat.own t), _, rfl, H2, hp, ((hsat.turnAny t).rsub hR).sel hH⟩
theorem jk_roundExit {id : Nat} (hk : popK id K = none) (t : Take (sng l (.loop r)) H H1) (hR : ∀ ρ ∈ R0, ρ ∈ R) (hH : Sel (sng l (.loop { r with state := .done, pending := some (.exit id) }) :: H1) H2) (hp : post (.bool false) H2) :
    JK ⟨some l, P, RQ P l N R0 post, N, M⟩ D R H L (.code (.exit id) :: K) := by
  refine ⟨fun a w hf hd hsat => wpIn_exit (wpK_out id K a w hk ?_)⟩
  exact ⟨_, _, run_endRound (some (.exit id)) (hsat.own t), _, rfl, H2, hp, ((hsat.turnAny t).rsub hR).sel hH⟩
theorem jk_roundRet (t : Take (sng l (.loop r)) H H1) (hR : ∀ ρ ∈ R0, ρ ∈ R) (hH : Sel (sng l (.loop { r with state := .done, pending := some .ret }) :: H1) H2) (hp : post (.bool false) H2) :
    JK ⟨some l, P, RQ P l N R0 post, N, M⟩ D R H L (.code .ret :: K) := by
  refine ⟨fun a w hf hd hsat => wpIn_ret (wpK_ret K a w ?_)⟩
  exact ⟨_, _, run_endRound (some .ret) (hsat.own t), _, rfl, H2, hp, ((hsat.turnAny t).rsub hR).sel hH⟩
end

theorem yield_spec {P : Program} {l M : Nat} {r : Loop} {ps : List Nat} {vs : List Value} {L' : Env} {post : Value → List PH → Prop} (hf : Frm M L ⟨r.tmps, []⟩) (hps : r.params = ps.toArray) (hpl : ∀ p ∈ ps, p < M) (hL : PutI ps vs L L')
    (h : ∀ N β, JK ⟨some l, P, fun _ _ _ => False, N, M⟩ [] (β :: R) (sng l (.loop r) :: H) L' [.code r.assign, .till (wpK ⟨some l, P, RQ P l N (β :: R) post, N, M⟩ [.sem (Instr.beginRound l), .code r.body] .normal)]) :
    Spec P (yv l) vs R (sng l (.loop r) :: H) post := by
  intro N0 w hs
  unfold CallsV
  have hb : w.heap[l]? = some (.loop r) := hs.h _ (by simp) l _ (sng_self _ _)
  have hrun : ((do let d ← Deferred.ofValue (yv l) vs.toArray; invoke d.target d.args : Sem Next).run P w) = .ok (.round l r.fn ((ps.zip vs).foldl (fun tmps (x : Nat × Value) => tmps.setIfInBounds x.1 x.2) r.tmps) r.assign r.body) w := by
    have hlen := hL.len
    simp [Deferred.ofValue, invoke, Instr.yield, run_getLoop hb, hps, hlen]
  rw [hrun]
  simp only
  obtain ⟨β, hsat, hup⟩ := exists_base hs
  have hj := h (.of w) β
  refine roundIn_of_wpIn (F := Fence.wide) trivial ?_
  have hrun2 := hj.run _ w (hL.frm hpl hf) rfl hsat
  refine wpIn_mono (show r.assign.wpIn (Fence.wide.inRound l) 0 P (wpK _ _) _ w from hrun2) (fun e a' w' hq => ?_)
  have bodyQ : ∀ e a' w', RQ P l (.of w) (β :: R) post e a' w' → roundPost P l (fun e w' => ∃ v, e = .returned v ∧ ∃ H', post v H' ∧ Upd (sng l (.loop r) :: H) H' w w') e a' w' := by
    intro e a' w' hq
    cases e with
    | normal => obtain ⟨v, w2, h1, v', h2, H', h3, h4⟩ := hq; exact ⟨v, w2, h1, v', h2, H', h3, hup H' w2 h4⟩
    | ret => obtain ⟨v, w2, h1, v', h2, H', h3, h4⟩ := hq; exact ⟨v, w2, h1, v', h2, H', h3, hup H' w2 h4⟩
    | exit id => obtain ⟨v, w2, h1, v', h2, H', h3, h4⟩ := hq; exact ⟨v, w2, h1, v', h2, H', h3, hup H' w2 h4⟩
    | goto t => obtain ⟨v, w2, h1, v', h2, H', h3, h4⟩ := hq; exact ⟨v, w2, h1, v', h2, H', h3, hup H' w2 h4⟩
    | panic c => exact hq.elim
    | outgrown => exact hq.elim
  cases e with
  | normal =>
    obtain ⟨w2, h1, h2⟩ := (hq : ∃ w2, _ ∧ _)
    refine ⟨w2, h1, wpIn_mono (show r.body.wpIn (Fence.wide.inRound l) 0 P (wpK _ []) a' w2 from h2) (fun e a3 w3 hq => ?_)⟩
    exact bodyQ e a3 w3 hq
  | _ => exact hq.elim
theorem jk_switch {C2 : Cx} {K2 : List It} (hN : C2.N = C.N) (hM : C2.M = C.M) (h : JK C2 D R H L K2) : JK C D R H L (.till (wpK C2 K2 .normal) :: K) :=
  ⟨fun a w hf hd hs => h.run a w (by rw [hM]; exact hf) hd (by rw [hN]; exact hs)⟩

theorem Sat.perm {N : Bs} {H' : List PH} {w : World} (h : Sat N R H w) (p : H.Perm H') : Sat N R H' w :=
  ⟨h.sz, h.r, fun ρ hρ => h.h ρ (p.mem_iff.2 hρ), (p.pairwise_iff (fun hd => PH.disj.symm hd)).1 h.hd, fun ρ hρ σ hσ => h.rd ρ hρ σ (p.mem_iff.2 hσ)⟩
theorem Sat.left {N : Bs} {H1 H2 : List PH} {w : World} (h : Sat N R (H1 ++ H2) w) : Sat N R H1 w :=
  ⟨h.sz, h.r, fun ρ hρ => h.h ρ (by simp [hρ]), (List.pairwise_append.1 h.hd).1, fun ρ hρ σ hσ => h.rd ρ hρ σ (by simp [hσ])⟩
/-! ### iterators -/
/-- an iterator's contract: it hands on the elements xs, in their order, as long as yield says yes. What it reads: R1. What the rounds own: Own. -/
def Iter (P : Program) (gv : Value) (R1 : List PH) (xs : List (List Value)) : Prop :=
  ∀ (y : Value) (S : Type) (Own : S → List PH) (Inv : Nat → S → Prop) (Stop : S → Prop) (Ry : List PH),
    (∀ i σ vs, xs[i]? = some vs → Inv i σ → Spec P y vs Ry (Own σ) (fun v H' => ∃ σ', H' = Own σ' ∧ ((v = .bool true ∧ Inv (i + 1) σ') ∨ (v = .bool false ∧ Stop σ')))) →
    (∃ l, y = yv l) → ∀ σ, Inv 0 σ → Spec P gv [y] (R1 ++ Ry) (Own σ) (fun _ H' => ∃ σ', H' = Own σ' ∧ (Inv xs.length σ' ∨ Stop σ'))

abbrev mk (b : Nat) : Deferred := { target := .collected b, args := #[] }
abbrev defO : Obj := .deferred (some [])

/-- the rounds' state: the loop's record, and what the body owns -/
theorem jk_range {P : Program} {Q : Exit → Act → World → Prop} {N : Bs} {M : Nat} {g : Operand} {gf : FuncId} {cap : List Value} {ps : List Nat} {assign body : Code} {X : Type} {R1 Hr : List PH} {xs : List (List Value)} {fn : Func} {gc : Code}
    (hg : evalE L g = some (.func (.func gf) #[] cap.toArray)) (hgf : P.funcs[gf]? = some fn) (hgb : fn.body = some gc) (hname : (fn.name == "runtime.NumGoroutine") = false)
    (hit : Iter P (.func (.func gf) #[] cap.toArray) R1 xs) (hR1 : ∀ ρ ∈ R1, ρ ∈ R)
    (I : Nat → X → Prop) (Hx : X → List PH) (J : Code → X → Prop) (x0 : X) (hx0 : Hx x0 = T) (hT : Takes H T Hr) (h0 : I 0 x0)
    (hround : ∀ l (r : Loop) i x vs, xs[i]? = some vs → I i x → r.params = ps.toArray → r.assign = assign → r.body = body → r.state = .ready → r.pending = none → Frm M L ⟨r.tmps, []⟩ →
      Spec P (yv l) vs R (sng l (.loop r) :: Hx x) (fun v H' => ∃ x', (v = .bool true ∧ I (i + 1) x' ∧ H' = sng l (.loop r) :: Hx x') ∨ (v = .bool false ∧ ∃ c, J c x' ∧ H' = sng l (.loop { r with state := .done, pending := some c }) :: Hx x')))
    (hdone : ∀ b x, I xs.length x → JK ⟨none, P, Q, N, M⟩ (mk b :: D) R (sng b defO :: (Hx x ++ Hr)) L K)
    (hjump : ∀ b c x, J c x → JK ⟨none, P, Q, N, M⟩ (mk b :: D) R (sng b defO :: (Hx x ++ Hr)) L (.code c :: K)) :
    JK ⟨none, P, Q, N, M⟩ D R H L (.code (.rangeFunc g ps.toArray assign body) :: K) := by
  subst hx0
  refine ⟨fun a w hf hd hs => wpIn_rangeFunc (fun fnn _ => ?_)⟩
  let r : Loop := { state := .ready, pending := none, fn := fnn, tmps := a.tmps, params := ps.toArray, assign, body, defers := w.heap.size }
  let w1 : World := (w.alloc defO).alloc (.loop r)
  have hs2 := hT.sat hs
  have hs3 := (hs2.alloc defO).alloc (.loop r)
  have hl : (w.alloc defO).heap.size = w.heap.size + 1 := by simp
  rw [hl] at hs3
  refine ⟨w.heap.size + 1, [mk w.heap.size], w1, ⟨.fn (.func gf) cap.toArray, #[yv (w.heap.size + 1)]⟩, w1, gf, ([yv (w.heap.size + 1)] ++ cap).toArray, w1, ?_, ?_, fun _ _ => trivial, ?_, fun h => by simp [Fence.wide] at h, ?_⟩
  · simp [Instr.enterLoop, w1, r]
  · have hgv' : a.eval g = .func (.func gf) #[] cap.toArray := hf.on g _ hg
    have hc : a.eval (.const (yv (w.heap.size + 1))) = yv (w.heap.size + 1) := rfl
    simp [resolve, Deferred.ofValue, hgv', hc]
  · have hname' : ¬ fn.name = "runtime.NumGoroutine" := by simpa using hname
    simp [invoke, callFunc, program, Sem.run, bind, Sem.bind, pure, hgf, hgb, hname']
  · let Own : X × Option Code → List PH := fun σ => match σ.2 with
      | none => sng (w.heap.size + 1) (.loop r) :: Hx σ.1
      | some c => sng (w.heap.size + 1) (.loop { r with state := .done, pending := some c }) :: Hx σ.1
    have hspec := hit (yv (w.heap.size + 1)) (X × Option Code) Own (fun i σ => σ.2 = none ∧ I i σ.1) (fun σ => ∃ c, σ.2 = some c ∧ J c σ.1) R
      (fun i σ vs hvs ⟨h1, h2⟩ => by
        obtain ⟨x, o⟩ := σ
        simp only at h1 h2
        subst h1
        refine (hround (w.heap.size + 1) r i x vs hvs h2 rfl rfl rfl rfl rfl ⟨hf.size, hf.get⟩).mono ?_
        rintro v H' ⟨x', ⟨e1, e2, e3⟩ | ⟨e1, c, e2, e3⟩⟩
        · exact ⟨(x', none), e3, .inl ⟨e1, rfl, e2⟩⟩
        · exact ⟨(x', some c), e3, .inr ⟨e1, c, rfl, e2⟩⟩)
      ⟨_, rfl⟩ (x0, none) ⟨rfl, h0⟩
    have hs4 : Sat N R (Own (x0, none) ++ (sng w.heap.size defO :: Hr)) w1 := hs3.perm (by
      simp only [Own, List.cons_append]
      exact (List.perm_middle.symm).cons _)
    have hs5 : Sat N (R1 ++ R) (Own (x0, none)) w1 := (hs4.rsub (R' := R1 ++ R) (fun ρ hρ => by
      rcases List.mem_append.1 hρ with h | h
      · exact hR1 ρ h
      · exact h)).left
    have hc := hspec N w1 hs5
    unfold CallsV at hc
    have hname' : ¬ fn.name = "runtime.NumGoroutine" := by simpa using hname
    have hrun : ((do let d ← Deferred.ofValue (.func (.func gf) #[] cap.toArray) [yv (w.heap.size + 1)].toArray; invoke d.target d.args : Sem Next).run P w1) = .ok (.enter gf ([yv (w.heap.size + 1)] ++ cap).toArray) w1 := by
      simp [Deferred.ofValue, invoke, callFunc, program, Sem.run, bind, Sem.bind, pure, hgf, hgb, hname']
    rw [hrun] at hc
    simp only at hc
    refine CallsIn.mono (show CallsIn (wideR none) 0 P gf _ w1 _ from hc) ?_
    rintro e w3 ⟨v, rfl, H', ⟨⟨x, o⟩, rfl, hfin⟩, hu⟩
    have hs6 := hs4.upd hu
    have hfin' : ∃ r', r'.state ≠ .busy ∧ Own (x, o) = sng (w.heap.size + 1) (.loop r') :: Hx x ∧ ((r'.pending = none ∧ I xs.length x) ∨ ∃ c, r'.pending = some c ∧ J c x) := by
      rcases hfin with ⟨h1, h2⟩ | ⟨c, h1, h2⟩
      · simp only at h1 h2; subst h1; exact ⟨r, by simp [r], rfl, .inl ⟨rfl, h2⟩⟩
      · simp only at h1 h2; subst h1; exact ⟨{ r with state := .done, pending := some c }, by simp, rfl, .inr ⟨c, rfl, h2⟩⟩
    obtain ⟨r', hb, ho, hfin'⟩ := hfin'
    rw [ho] at hs6
    simp only [List.cons_append] at hs6
    have hown := hs6.own Take.here
    have hend : (Instr.endLoop (w.heap.size + 1)).run P w3 = .ok r'.pending { w3 with heap := w3.heap.setIfInBounds (w.heap.size + 1) (.loop { r' with state := .exhausted }) } := by
      simp [Instr.endLoop, run_getLoop hown, run_setLoop hown, hb]
    refine ⟨r'.pending, _, hend, ?_⟩
    have hs7 : Sat N R (sng w.heap.size defO :: (Hx x ++ Hr)) { w3 with heap := w3.heap.setIfInBounds (w.heap.size + 1) (.loop { r' with state := .exhausted }) } :=
      ((hs6.turnAny (o' := .loop { r' with state := .exhausted }) Take.here).tail).perm List.perm_middle
    have hfr : Frm M L { a with defers := [mk w.heap.size] ++ a.defers } := ⟨hf.size, hf.get⟩
    have hdf : ({ a with defers := [mk w.heap.size] ++ a.defers } : Act).defers = mk w.heap.size :: D := by simp [hd]
    rcases hfin' with ⟨hp, hI⟩ | ⟨c, hp, hJ⟩
    · rw [hp] at hs7 ⊢
      exact (hdone w.heap.size x hI).run _ _ hfr hdf hs7
    · rw [hp] at hs7 ⊢
      exact (hjump w.heap.size c x hJ).run _ _ hfr hdf hs7

/-! ### the return of a function whose body held such loops -/
inductive Marks : List Deferred → List PH → List PH → Prop
  | nil {H : List PH} : Marks [] H H
  | cons {b : Nat} {ds : List Deferred} {H H1 H2 : List PH} : Take (sng b defO) H H1 → Marks ds H1 H2 → Marks (mk b :: ds) H H2
theorem Marks.run {P : Program} {fn : Func} {tmps : Array Value} {S : Value → World → Prop} {N : Bs} {ds : List Deferred} {H H2 : List PH} (m : Marks ds H H2) : ∀ {w : World}, Sat N R H w → (∀ w', Sat N R H2 w' → ∃ v, (results fn tmps).run P w' = .ok v w' ∧ S v w') → MarksQ P fn tmps S ds w := by
  induction m with
  | nil => intro w hs h; exact h w hs
  | @cons b ds H H1 H2 t _ ih =>
    intro w hs h
    have hb := hs.own t
    refine ⟨b, { w with heap := w.heap.setIfInBounds b (.deferred none) }, rfl, ?_, ih (hs.turnAny t).tail h⟩
    simp [Instr.takeDeferred, getObj, setObj, Sem.run, hb]
theorem jk_retM {P : Program} {fn : Func} {N : Bs} {M : Nat} {R R0 H H1 H' : List PH} {L : Env} {K : List It} {post : Value → List PH → Prop} {v : Value} {D : List Deferred} (m : Marks D H H1)
    (hv : ∀ a w, Frm M L a → Sat N R H1 w → (results fn a.tmps).run P w = .ok v w) (hR : ∀ ρ ∈ R0, ρ ∈ R) (hH : Sel H1 H') (hp : post v H') :
    JK ⟨none, P, FnQ P fn N R0 post, N, M⟩ D R H L (.code .ret :: K) := by
  refine ⟨fun a w hf hd hs => wpIn_ret (wpK_ret K a w ?_)⟩
  show MarksQ _ _ _ _ a.defers w
  rw [hd]
  exact m.run hs (fun w' hs' => ⟨v, hv a w' hf hs', H', hp, (hs'.rsub hR).sel hH⟩)
theorem jk_endM {P : Program} {fn : Func} {N : Bs} {M : Nat} {R R0 H H1 H' : List PH} {L : Env} {post : Value → List PH → Prop} {v : Value} {D : List Deferred} (m : Marks D H H1)
    (hv : ∀ a w, Frm M L a → Sat N R H1 w → (results fn a.tmps).run P w = .ok v w) (hR : ∀ ρ ∈ R0, ρ ∈ R) (hH : Sel H1 H') (hp : post v H') :
    JK ⟨none, P, FnQ P fn N R0 post, N, M⟩ D R H L [] := by
  refine ⟨fun a w hf hd hs => ?_⟩
  show MarksQ _ _ _ _ a.defers w
  rw [hd]
  exact m.run hs (fun w' hs' => ⟨v, hv a w' hf hs', H', hp, (hs'.rsub hR).sel hH⟩)
end Go.Eng
