/- Texts of this proof, one after the other; no conditions. -/
import Derived.Test.YtnijkofdlepfjaaGreatWA
import Derived.Test.YtnijkofdlepfjaaGreatWB16
set_option linter.all false
namespace Go.Ev
open Go.Eng
section
section
variable {P : Program} {ρ : Rn} {η : PH} {w : World} {a : Act} {r : Option Nat} {Q : Exit -> Act -> World -> Prop} {h : AH}
theorem aM1 (hr : HR P ρ h η) (hw : η.le w) {x : AO} {o : Obj} {h' : AH} (hn : h.new x = some h') (ho : ∀ ρ', ρ.le ρ' -> OR P ρ' 0 0 x o) (hf : Fresh ρ h.next h'.next) :
    HR P (jL ρ h.next (w.heap.size, 0, 0)) h' (iT η w.heap.size (some o)) /\ Upd [η] [iT η w.heap.size (some o)] w (w.alloc o) /\ Ext ρ (jL ρ h.next (w.heap.size, 0, 0)) h.next h'.next := by
  have hnx := (AH.get_new hn).2
  have hn0 : ρ h.next = none := hf _ (aK _) (by omega)
  refine ⟨hr.new hn hn0 (pX hw) (ho _ (kM hn0)), xA hw _, kM hn0, fun i hi => ?_⟩
  unfold jL at hi
  split at hi
  · rename_i e; exact .inr ⟨by omega, by omega⟩
  · exact .inl hi
theorem vI (hr : HR P ρ h η) (hw : η.le w) {i : Nat} {st : LoopState} {pd : Option Code} {g : FuncId} {fr : Fr} {M : Nat} {ps : Array Tmp} {asg body : Code} (hi : h.get i = some (.loop st pd g fr M ps asg body)) {b s x : Nat} (hρ : ρ i = some (b, s, x)) :
    ∃ r : Loop, η b = some (.loop r) /\ w.heap[b]? = some (.loop r) /\ r.state = st /\ r.pending = pd /\ r.params = ps /\ r.assign = asg /\ r.body = body /\ r.tmps.size = M /\ FK ρ fr (fun t => r.tmps.getD t undef) := by
  obtain ⟨b', s', x', o, q1, q2, r, rfl, q3⟩ := hr.val i _ hi
  rw [hρ] at q1;simp only [aD, Prod.mk.injEq] at q1
  obtain ⟨rfl, rfl, rfl⟩ := q1
  exact ⟨r, q2, hw b _ q2, q3⟩
theorem aR8 {s : St} {cc : Cc} {h1 : AH} (hh : rdH s.h cc.rd = some h1) (hrk : RK ρ cc.rd r) (si : SI P cc.M ρ s η a w) (hf : Fresh ρ s.h.next h1.next) (fnn : FuncId) (ps : Array Tmp) (asg body : Code) :
    ∃ ρ1 η1 w1 mark dd, HR P ρ1 h1 η1 /\ Upd [η] [η1] w w1 /\ Ext ρ ρ1 s.h.next h1.next /\ MK ρ1 (match cc.rd with | none => s.h.next :: s.ms | some _ => s.ms) (mark ++ a.defers) /\
      (Instr.enterLoop fnn a.tmps ps asg body r).run P w = .ok (w1.heap.size, mark) (w1.alloc (.loop { state := .ready, pending := none, fn := fnn, tmps := a.tmps, params := ps, assign := asg, body := body, defers := dd })) := by
  cases hc : cc.rd with
  | none =>
    rw [hc] at hh hrk
    cases r with
    | some b => exact hrk.elim
    | none =>
      have hh : s.h.new .mark = some h1 := hh
      obtain ⟨k1, k2, k3⟩ := aM1 (o := .deferred (some [])) si.hr si.le hh (fun _ _ => rfl) hf
      refine ⟨_, _, w.alloc (.deferred (some [])), [{ target := .collected w.heap.size, args := #[] }], w.heap.size, k1, k2, k3, .cons kI rfl (si.mks.mono k3.1), ?_⟩
      simp [Instr.enterLoop]
  | some i =>
    rw [hc] at hh hrk
    cases r with
    | none => exact hrk.elim
    | some b =>
      obtain ⟨s0, x, hρ⟩ := hrk
      unfold rdH at hh
      split at hh
      · rename_i he; cases he
      · rename_i l he
        cases he
        split at hh
        · rename_i hg
          cases hh
          obtain ⟨r, q1, q2, _⟩ := vI si.hr si.le hg hρ
          refine ⟨ρ, η, w, [], r.defers, si.hr, lX si.le, Ext.refl, si.mks, ?_⟩
          simp [Instr.enterLoop, jN q2]
        · cases hh
theorem aOp {s s' : St} {pd : Option Code} {e : Ex} (h : exOf s pd = some (e, s')) : s' = s /\ ((pd = none /\ e = .normal) \/ (∃ id, pd = some (.exit id) /\ e = .exit id) \/ (pd = some .ret /\ e = .ret)) := by
  unfold exOf at h
  split at h
  · cases h; exact ⟨rfl, .inl ⟨rfl, rfl⟩⟩
  · cases h; exact ⟨rfl, .inr (.inl ⟨_, rfl, rfl⟩)⟩
  · cases h; exact ⟨rfl, .inr (.inr ⟨rfl, rfl⟩)⟩
  · cases h
theorem aR9 {rd : Option Nat} {h1 : AH} (hh : rdH h rd = some h1) : h.next <= h1.next := by
  unfold rdH at hh
  split at hh
  · exact iY hh
  · split at hh
    · cases hh; exact aK _
    · cases hh
theorem aSa {m : Mac} (hm : MOK P m) {cc : Cc} {g : Operand} {d : Od} (hd : gW g = some d) {ps : Array Tmp} {asg body : Code} {s s' : St} {e : Ex} (h : aFf m cc (evO s.fr d) ps asg body s = some (e, s')) : s.h.next <= s'.h.next /\
    ∀ ρ η a w r Q, RK ρ cc.rd r -> SI P cc.M ρ s η a w -> Fresh ρ s.h.next s'.h.next -> tW P cc.M ρ η w s.h.next e s' Q -> (Code.rangeFunc g ps asg body).wpIn (gS r) 0 P Q a w := by
  unfold aFf at h
  split at h
  · rename_i gf us cs h1 hv hh1
    split at h
    · rename_i h2 hn2
      split at h
      · rename_i v3 h3 hf3
        have n1 := aR9 hh1
        have n2 : h2.next = h1.next + 1 := (AH.get_new hn2).2
        obtain ⟨n3, g3⟩ := hm.f _ _ _ _ _ hf3
        have key : ∀ (st : LoopState) (pd : Option Code) (f0 : FuncId) (fr0 : Fr) (M0 : Nat) (ps0 : Array Tmp) (asg0 body0 : Code) (h4 : AH), h3.get h1.next = some (.loop st pd f0 fr0 M0 ps0 asg0 body0) -> st ≠ .busy -> h3.put h1.next none = some h4 ->
            exOf ⟨s.fr, h4, (match cc.rd with | none => s.h.next :: s.ms | some _ => s.ms)⟩ pd = some (e, s') -> s.h.next <= s'.h.next /\
            ∀ ρ η a w r Q, RK ρ cc.rd r -> SI P cc.M ρ s η a w -> Fresh ρ s.h.next s'.h.next -> tW P cc.M ρ η w s.h.next e s' Q -> (Code.rangeFunc g ps asg body).wpIn (gS r) 0 P Q a w := by
          intro st pd f0 fr0 M0 ps0 asg0 body0 h4 hg3 hst hp4 hx
          obtain ⟨rfl, hpd⟩ := aOp hx
          have n4 := iZ hp4
          refine ⟨by show s.h.next <= h4.next; omega, fun ρ η a w r Q hrk si hfr hq => wpIn_rangeFunc (fun fnn _ => ?_)⟩
          have hfr : Fresh ρ s.h.next h4.next := hfr
          obtain ⟨ρ1, η1, w1, mark, dd, k1, k2, k3, k4, k5⟩ := aR8 hh1 hrk si (fun i x y => hfr i x (by omega)) fnn ps asg body
          have hfr1 : Fresh ρ1 h1.next h4.next := hfr.after k3 n1
          let rc : Loop := { state := .ready, pending := none, fn := fnn, tmps := a.tmps, params := ps, assign := asg, body := body, defers := dd }
          obtain ⟨q1, q2, q3⟩ := aM1 (o := .loop rc) k1 (k2.own _ (by simp)) hn2 (fun ρ' hle => ⟨rc, rfl, rfl, rfl, rfl, rfl, rfl, si.size, (si.fk.mono k3.1).mono hle⟩) (fun i x y => hfr1 i x (by omega))
          have hx2 := k3.trans q3 n1 (by omega)
          have hu2 := Upd.comp k2 q2
          obtain ⟨u, p1, p2⟩ := gH trivial (si.fk.toEK #[g]) (by simp) hd hv
          obtain ⟨us', cs', r1, r2, rfl⟩ := aR4 p1
          have hle2 := hx2.1
          have hy : rn (jL ρ1 h1.next (w1.heap.size, 0, 0)) (.func (.yield h1.next) ⟨[]⟩ ⟨[]⟩) = some (.func (.yield w1.heap.size) #[] #[]) := by simp [rn, rnF, rnR, rnL, kI]
          have hall := iJ.2 ⟨_, _, iJ.2 ⟨_, _, lR hle2 r1, rnL_cons.2 ⟨_, [], hy, rnL_nil, rfl⟩, rfl⟩, lR hle2 r2, rfl⟩
          have hfr2 : Fresh (jL ρ1 h1.next (w1.heap.size, 0, 0)) h2.next h4.next := hfr1.after q3 (by omega)
          obtain ⟨c1, c2⟩ := g3 _ _ _ _ q1 (q2.own _ (by simp)) (fun i x y => hfr2 i x (by omega)) hall
          refine ⟨w1.heap.size, mark, w1.alloc (.loop rc), ⟨.fn (.func gf) cs'.toArray, us'.toArray ++ #[.func (.yield w1.heap.size) #[] #[]]⟩, w1.alloc (.loop rc), gf, (us' ++ [Value.func (.yield w1.heap.size) #[] #[]] ++ cs').toArray, w1.alloc (.loop rc), k5, ?_, fun _ _ => trivial, ?_, fun h => by simp [Fence.wide] at h, ?_⟩
          · have hc : a.eval (.const (.func (.yield w1.heap.size) #[] #[])) = .func (.yield w1.heap.size) #[] #[] := rfl
            simp [resolve, Deferred.ofValue, p2, hc]
          · have : us'.toArray ++ #[Value.func (.yield w1.heap.size) #[] #[]] ++ cs'.toArray = (us' ++ [Value.func (.yield w1.heap.size) #[] #[]] ++ cs').toArray := by simp
            simp only [invoke];rw [this];exact c1
          · refine CallsIn.mono (show CallsIn (gS r) 0 P gf _ _ _ from c2) ?_
            rintro e3 w3 ⟨u3, rfl, ρ3, η3, s1, s2, s3, s4⟩
            have hρ3 : ρ3 h1.next = some (w1.heap.size, 0, 0) := s4.1 _ _ kI
            have hle3 := s3.own η3 (by simp)
            obtain ⟨r', t1, t2, t3, t4, _⟩ := vI s2 hle3 hg3 hρ3
            have hend : (Instr.endLoop w1.heap.size).run P w3 = .ok r'.pending { w3 with heap := w3.heap.setIfInBounds w1.heap.size (.loop { r' with state := .exhausted }) } := by
              simp [Instr.endLoop, jN t2, mW t2, t3, hst]
            have u4 := aIs hle3 t1 (.loop { r' with state := .exhausted })
            have hr4 := s2.drop hg3 hp4 hρ3
            have hxx : Ext ρ ρ3 s.h.next h4.next := by rw [n4]; exact hx2.trans s4 (by omega) n3
            have hfin : ∀ e', e' = e -> Q (exK e') { a with defers := mark ++ a.defers } { w3 with heap := w3.heap.setIfInBounds w1.heap.size (.loop { r' with state := .exhausted }) } := fun e' he => by
              subst he
              exact hq ρ3 (iT η3 w1.heap.size none) _ _ ⟨si.size, si.fk.mono hxx.1, k4.mono (fun i x hi => s4.1 _ _ (q3.1 _ _ hi)), hr4, u4.own _ (by simp)⟩ (Upd.comp (Upd.comp hu2 s3) u4) hxx
            generalize ({ w3 with heap := w3.heap.setIfInBounds w1.heap.size (.loop { r' with state := .exhausted }) } : World) = W at hend hfin
            refine ⟨r'.pending, W, hend, ?_⟩;rw [t4]
            rcases hpd with ⟨hp, he⟩ | ⟨id, hp, he⟩ | ⟨hp, he⟩
            · rw [hp]; exact hfin .normal he.symm
            · rw [hp]; exact wpIn_exit (hfin (.exit id) he.symm)
            · rw [hp]; exact wpIn_ret (hfin .ret he.symm)
        split at h
        · cases h
        · rename_i st pd f0 fr0 M0 ps0 asg0 body0 hnb hg3
          split at h
          · rename_i h4 hp4
            exact key st pd f0 fr0 M0 ps0 asg0 body0 h4 hg3 (fun e => hnb e) hp4 h
          · cases h
        · cases h
      · cases h
    · cases h
  · cases h
theorem aWv {orc : iA} {m : Mac} (hm : MOK P m) (ho : FOK P orc) (hP : ∀ (f : FuncId) (fn : Func), P.funcs[f]? = some fn -> (fn.name == "runtime.NumGoroutine") = false) : FOK P (stF P orc m) := by
  intro f vs h v h' hv
  unfold stF at hv
  split at hv
  · rename_i x hx
    cases hv
    exact ho _ _ _ _ _ hx
  · split at hv
    · rename_i fn hfn
      split at hv
      · rename_i c fr hb hfr
        have key : ∀ (e : Ex) (s : St) (h2 : AH) (l : List Value), m.c ⟨f, fn.ntmps, none⟩ c ⟨fr, h, []⟩ = some (e, s) -> (∀ i, e ≠ .exit i) -> pT s.ms s.h = some h2 -> tG s.fr h2 P fn.results.toList = some l -> v = one l -> h' = h2 ->
            h.next <= h'.next /\ ∀ ρ η w us, HR P ρ h η -> η.le w -> Fresh ρ h.next h'.next -> rnL ρ vs = some us ->
              (callFunc f us.toArray).run P w = .ok (.enter f us.toArray) w /\ CallsIn Fence.wide 0 P f us.toArray w (fun e w' => ∃ u, e = .returned u /\ ∃ ρ' η', rn ρ' v = some u /\ mE P ρ η w h h' ρ' η' w') := by
          intro e s h2 l hc he hd hl hv hh
          subst hv hh
          obtain ⟨n1, g1⟩ := hm.c _ _ _ _ _ hc
          have n2 := yU hd
          have n1 : h.next <= s.h.next := n1
          refine ⟨by omega, fun ρ η w us hr hw hf hu => ⟨?_, ?_⟩⟩
          · have hname' : ¬ fn.name = "runtime.NumGoroutine" := by simpa using hP f fn hfn
            simp [callFunc, program, Sem.run, bind, Sem.bind, pure, hfn, hb, hname']
          · obtain ⟨f1, f2⟩ := aWu hfr hu
            refine callsIn_of_wp_marks hfn hb trivial ?_
            refine (show c.wpIn (gS none) 0 P _ _ w from g1 ρ η _ w none _ trivial ⟨f1, f2, .nil, hr, hw⟩ (fun i x y => hf i x (by show i < h'.next; have : i < s.h.next := y; omega)) (fun ρ' η' a' w' si u x => ?_))
            obtain ⟨_, g2⟩ := aBe (fn := fn) (tmps := a'.tmps) (S := fun u w' => ∃ ρ' η', rn ρ' (one l) = some u /\ mE P ρ η w h h' ρ' η' w') hd si.mks si.hr si.le
            have hmk := g2 (fun η2 w2 r2 u2 => by
              obtain ⟨uu, t1, t2⟩ := aBf r2 (u2.own _ (by simp)) si.fk hl
              exact ⟨uu, t2, ρ', η2, t1, r2, Upd.comp u u2, by rw [n2]; exact x⟩)
            cases e with
            | normal => exact hmk.leaves (T := fun e w' => ∃ u, e = .returned u /\ ∃ ρ' η', rn ρ' (one l) = some u /\ mE P ρ η w h h' ρ' η' w') (fun v w' hS => ⟨v, rfl, hS⟩)
            | ret => exact hmk.leaves (T := fun e w' => ∃ u, e = .returned u /\ ∃ ρ' η', rn ρ' (one l) = some u /\ mE P ρ η w h h' ρ' η' w') (fun v w' hS => ⟨v, rfl, hS⟩)
            | exit i => exact absurd rfl (he i)
        split at hv
        · cases hv
        · rename_i e s hne hc
          split at hv
          · rename_i h2 hd
            split at hv
            · rename_i l hl
              cases hv
              exact key e s _ l hc (fun i ei => by subst ei; exact hne i rfl) hd hl rfl rfl
            · cases hv
          · cases hv
        · cases hv
      · cases hv
    · cases hv
theorem aUn {o1 o2 : AO} {e : Ex} (h : endL e (some o1) = some o2) : ∃ st pd g fr M ps asg body, o1 = .loop st pd g fr M ps asg body /\ ((e = .normal /\ o2 = .loop .ready none g fr M ps asg body) \/ (∃ id, e = .exit id /\ o2 = .loop .done (some (.exit id)) g fr M ps asg body) \/ (e = .ret /\ o2 = .loop .done (some .ret) g fr M ps asg body)) := by
  cases o1 with
  | loop st pd g fr M ps asg body =>
    refine ⟨st, pd, g, fr, M, ps, asg, body, rfl, ?_⟩
    cases e with
    | normal => cases h; exact .inl ⟨rfl, rfl⟩
    | ret => cases h; exact .inr (.inr ⟨rfl, rfl⟩)
    | exit id => cases h; exact .inr (.inl ⟨id, rfl, rfl⟩)
  | _ => cases h
theorem aWw {m : Mac} (hm : MOK P m) : YOK P (stY m) := by
  intro l vs h v h' hv
  unfold stY at hv
  split at hv
  · rename_i pd0 g fr M ps asg body hg
    split at hv
    · rename_i fr1 hp1
      split at hv
      · rename_i s1 hc1
        split at hv
        · rename_i pd1 g1 fr1' M1 ps1 asg1 body1 hg1
          split at hv
          · rename_i h2 hp2
            unfold stY2 at hv
            split at hv
            · rename_i e s3 hc2
              split at hv
              · rename_i o3 he3
                split at hv
                · rename_i h4 hp4
                  cases hv
                  obtain ⟨n1, c1⟩ := hm.c _ _ _ _ _ hc1
                  obtain ⟨n2, c2⟩ := hm.c _ _ _ _ _ hc2
                  have n1 : h.next <= s1.h.next := n1
                  have n2 : h2.next <= s3.h.next := n2
                  have nb := iZ hp2
                  have n4 := iZ hp4
                  refine ⟨by omega, fun ρ η w us b s x hr hw hf hu hρ => ?_⟩
                  obtain ⟨rc, q1, q2, q3, q4, q5, q6, q7, q8, q9⟩ := vI hr hw hg hρ
                  obtain ⟨f1, f2, f3⟩ := aM0 hp1 hu q8 q9
                  refine ⟨rc.fn, (ps.toList.zip us).foldl (fun tmps (x : Nat × Value) => tmps.setIfInBounds x.1 x.2) rc.tmps, asg, body, w, ?_, ?_⟩
                  · obtain ⟨psl⟩ := ps
                    have f1 : psl.length = us.length := f1
                    simp [Instr.yield, jN q2, q5, f1, q6, q7]
                  · refine roundIn_of_wpIn (F := Fence.wide) trivial ?_
                    refine (show asg.wpIn (gS (some b)) 0 P _ _ w from c1 ρ η _ w (some b) _ ⟨s, x, hρ⟩ ⟨f2, f3, .nil, hr, hw⟩ (fun i x y => hf i x (by have : i < s1.h.next := y; omega)) (fun ρ1 η1 a1 w1 si1 u1 x1 => ?_))
                    have hρ1 := x1.1 _ _ hρ
                    obtain ⟨rc1, t1, t2, t3, t4, t5, t6, t7, t8, t9⟩ := vI si1.hr si1.le hg1 hρ1
                    have u2 := zT si1.le t1 (o := .loop { rc1 with state := .busy })
                    have hr2 : HR P ρ1 h2 (iT η1 b (some (.loop { rc1 with state := .busy }))) := si1.hr.put hg1 hp2 hρ1 ⟨_, rfl, rfl, t4, t5, t6, t7, t8, t9⟩
                    refine ⟨_, show (Instr.beginRound b).run P w1 = .ok () { w1 with heap := w1.heap.setIfInBounds b (.loop { rc1 with state := .busy }) } from by simp [Instr.beginRound, jN t2, mW t2, t3], ?_⟩
                    have x1 : Ext ρ ρ1 h.next s1.h.next := x1
                    refine (show body.wpIn (gS (some b)) 0 P _ _ _ from c2 ρ1 _ _ _ (some b) _ ⟨s, x, hρ1⟩ ⟨si1.size, si1.fk, si1.mks, hr2, u2.own _ (by simp)⟩ (fun i x y => (hf.after x1 n1) i (by have : h2.next <= i := x; omega) (by have : i < s3.h.next := y; omega)) (fun ρ3 η3 a3 w3 si3 u3 x3 => ?_))
                    have x3 : Ext ρ1 ρ3 h2.next s3.h.next := x3
                    have hρ3 := x3.1 _ _ hρ1
                    cases hg3 : s3.h.get l with
                    | none => rw [hg3] at he3; cases he3
                    | some o1 =>
                      rw [hg3] at he3
                      obtain ⟨st, pd, g3, fr3, M3, ps3, asg3, body3, rfl, ho3⟩ := aUn he3
                      obtain ⟨rc3, v1, v2, v3, v4, v5, v6, v7, v8, v9⟩ := vI si3.hr si3.le hg3 hρ3
                      have xx : Ext ρ ρ3 h.next h'.next := by
                        rw [n4]; rw [nb] at x3
                        exact x1.trans x3 n1 (by omega)
                      have fin : ∀ (jump : Option Code), OR P ρ3 s x o3 (.loop { rc3 with state := if jump.isNone then .ready else .done, pending := jump }) -> isN e = jump.isNone ->
                          ∃ v w', (Instr.endRound b jump).run P w3 = .ok v w' /\ (∃ u, Ending.returned v = .returned u /\ ∃ ρ' η', rn ρ' (.bool (isN e)) = some u /\ mE P ρ η w h h' ρ' η' w') := fun jump hor hj => by
                        have u4 := zT si3.le v1 (o := .loop { rc3 with state := if jump.isNone then .ready else .done, pending := jump })
                        exact ⟨_, _, pO jump v2, _, rfl, ρ3, _, by rw [hj]; rfl, si3.hr.put hg3 hp4 hρ3 hor, Upd.comp (Upd.comp (Upd.comp u1 u2) u3) u4, xx⟩
                      rcases ho3 with ⟨rfl, rfl⟩ | ⟨id, rfl, rfl⟩ | ⟨rfl, rfl⟩
                      · exact fin none ⟨_, rfl, rfl, rfl, v5, v6, v7, v8, v9⟩ rfl
                      · exact fin (some (.exit id)) ⟨_, rfl, rfl, rfl, v5, v6, v7, v8, v9⟩ rfl
                      · exact fin (some .ret) ⟨_, rfl, rfl, rfl, v5, v6, v7, v8, v9⟩ rfl
                · cases hv
              · cases hv
            · cases hv
          · cases hv
        · cases hv
      · cases hv
    · cases hv
  · cases hv
end
end
section
section
variable {P:Program} {ρ:Rn} {fr:Fr} {ev:Operand->Value} {w:World} {h:AH} {η:PH}
def NOK (P:Program) (ρ:Rn) (ev:Operand->Value) (w:World) (h:AH) (o:Oper) (v:Value) (h':AH):Prop:=
  ∃ x ob u,h.new x=some h'/\(execOp ev o).run P w=.ok (.value u) (w.alloc ob)/\rn (jL ρ h.next (w.heap.size,0,0)) v=some u/\∀ ρ',ρ.le ρ'->OR P ρ' 0 0 x ob
theorem vJ {l us:List Value} {e:TypeId} (hl:rnL ρ l=some us):∀ ρ',ρ.le ρ'->OR P ρ' 0 0 (.cells l e) (.cells us.toArray e (0,0)):=fun _ hle =>
  ⟨[],us,[],(0,0),0,by simp,lR hle hl,rfl,rfl,.inl rfl,aR0 _⟩
theorem aUo {dst:Option Tmp} {t ty:TypeId} {pos:String} {aft:Array Edge} {g:Option (Nat × Bool)} {wr:Wr} {v:Value} {h':AH} (hi:fX P ⟨dst,.alloc t,ty,pos,aft,g⟩=some (.wr wr)) (hv:rD fr h wr=some (v,h')):NOK P ρ ev w h ⟨dst,.alloc t,ty,pos,aft,g⟩ v h':=by
  simp only [fX,aQ] at hi
  obtain ⟨zs,hz,e⟩:=hi
  cases e
  obtain ⟨i,e1,rfl⟩:=nS (show aKy (aAz h t zs)=some (v,h') from hv)
  obtain ⟨rfl,e2⟩:=kN e1
  obtain ⟨z,z1,z2,z3⟩:=lV (ρ:=ρ) hz
  refine ⟨_,.cells zs.toArray t (0,0),.pointer (some ⟨w.heap.size,0,none⟩),e2,?_,by simp [rn,rnA,kI],vJ z3⟩
  have hz2:zs.toArray=z.cells:=by rw [← z2]
  rw [hz2]
  simp [execOp,Instr.alloc,gI z1,newVar,newRow,newObj]
  rfl
theorem n_box {dst:Option Tmp} {t ty:TypeId} {x:Operand} {pos:String} {aft:Array Edge} {g:Option (Nat × Bool)} {wr:Wr} {v:Value} {h':AH} (hi:fX P ⟨dst,.box t x,ty,pos,aft,g⟩=some (.wr wr)) (hv:rD fr h wr=some (v,h')) (hk:EK ρ fr ev #[x]):NOK P ρ ev w h ⟨dst,.box t x,ty,pos,aft,g⟩ v h':=by
  simp only [fX,aQ] at hi
  obtain ⟨d,hd,e⟩:=hi
  cases e
  have hv:aA0 h t (evO fr d)=some (v,h'):=hv
  unfold aA0 at hv
  split at hv
  · rename_i a ha
    obtain ⟨i,e1,rfl⟩:=nS hv
    obtain ⟨rfl,e2⟩:=kN e1
    obtain ⟨u,q1,q2⟩:=gH trivial hk (by simp) hd ha
    refine ⟨_,.cells u.cells.toList.toArray t (0,0),.pointer (some ⟨w.heap.size,0,none⟩),e2,?_,by simp [rn,rnA,kI],vJ (aIk q1)⟩
    simp [execOp,Instr.box,q2,newVar,newRow,newObj]
    rfl
  · cases hv
theorem n_bsl {dst:Option Tmp} {ty:TypeId} {pos:String} {aft:Array Edge} {g:Option (Nat × Bool)} {t:TypeId} {n0:Nat} {ps:Array (Nat × Operand)} {wr:Wr} {v:Value} {h':AH} (hi:fX P ⟨dst,.buildSlice t n0 ps,ty,pos,aft,g⟩=some (.wr wr)) (hv:rD fr h wr=some (v,h')) (hk:EK ρ fr ev (Op.buildSlice t n0 ps).operands) :
    NOK P ρ ev w h ⟨dst,.buildSlice t n0 ps,ty,pos,aft,g⟩ v h':=by
  have hx:∀ x∈ps.toList.map (·.2),x∈(Op.buildSlice t n0 ps).operands:=fun x hx=>by simpa [Op.operands] using hx
  have hps:ps.map (fun (x:Nat × Operand)=>(x.1,ev x.2))=(ps.toList.map fun (x:Nat × Operand)=>(x.1,ev x.2)).toArray:=by
    rw [← dF]
  simp only [fX] at hi
  split at hi
  · rename_i e ht
    split at hi
    · rename_i s zs hs hz
      cases hb:zs.length.beq s with
      | false=>rw [hb] at hi; cases hi
      | true =>
        rw [hb] at hi;simp only [cond_true,aQ] at hi
        obtain ⟨qs,hq,e1⟩:=hi
        cases e1
        have hv:aA1 h e n0 s (aDy (rep zs n0) (aAw fr qs))=some (v,h'):=hv
        unfold aA1 at hv
        split at hv
        · rename_i cs hcs
          cases hle0:(Nat.ble (n0*s) 16777216 && Nat.blt n0 big) with
          | false=>rw [hle0] at hv; cases hv
          | true =>
            rw [hle0] at hv;simp only [cond_true] at hv
            obtain ⟨hle,hlt⟩:=eF.1 hle0
            obtain ⟨i,e1,rfl⟩:=mM hv
            obtain ⟨rfl,e2⟩:=kN e1
            unfold aDy at hcs
            split at hcs
            · rename_i l hl
              obtain ⟨z,z1,z2,z3⟩:=lV (ρ:=ρ) hz
              have hzl:=aO hb
              obtain ⟨r',f1,f2⟩:=vC trivial hk (zS hq) hx hl hcs (vE z3 n0)
              have hbig:n0<big:=nI.1 hlt
              refine ⟨_,.cells r'.toArray e (0,0),.slice (some ⟨w.heap.size,0,none⟩) n0 n0,e2,?_,by rw [lU kI hbig],vJ f1⟩
              have hzs:z.cells.size=s:=by rw [← cI,z2,hzl]
              have hmade:=vD (n:=n0) hzs
              rw [z2] at hmade;rw [← hmade] at f2
              by_cases h0:n0*s=0
              · have hz0:madeCells z.cells (n0*s) = #[]:=by rw [h0]; simp [madeCells]
                rw [hz0] at f2;simp only [execOp,Instr.buildSlice]
                have hz1:(Array.range 0:Array Nat) = #[]:=rfl
                simp [run_underlying ht,Eng.run_sizeOf hs,h0,newRow,hz1,f2]
              · simp only [execOp,Instr.buildSlice]
                simp only [madeCells] at f2
                simp [run_underlying ht,Eng.run_sizeOf hs,gI z1,h0,dJ.2 (aT hle),newRow,f2]
            · cases hcs
        · cases hv
    · cases hi
  · cases hi
theorem aWx {cf:iA} {yf:YF} {o:Oper} {i:In} {v:Value} {h':AH} (hi:fX P o=some i) (hc:wW i=2) (hv:uZ cf yf fr h i=some (v,h')) (hk:EK ρ fr ev o.op.operands):NOK P ρ ev w h o v h':=by
  have hw:(∃ t zs,i=.wr (.alc t zs))\/(∃ t x,i=.wr (.box t x))\/∃ t n s zs ps,i=.wr (.bsl t n s zs ps):=by
    unfold wW at hc
    split at hc
    all_goals first|(cases hc; done)|exact .inl ⟨_,_,rfl⟩|exact .inr (.inl ⟨_,_,rfl⟩)|exact .inr (.inr ⟨_,_,_,_,_,rfl⟩)
  have hrd:∃ wr,i=.wr wr:=by
    rcases hw with ⟨t,zs,rfl⟩|⟨t,x,rfl⟩|⟨t,n,s,zs,ps,rfl⟩ <;> exact ⟨_,rfl⟩
  cases ha:actO o.op with
  | false =>
    have:=aR2 hi ha
    obtain ⟨wr,rfl⟩:=hrd
    cases this
  | true =>
    obtain ⟨wr,rfl⟩:=hrd
    have hv:rD fr h wr=some (v,h'):=hv
    obtain ⟨dst,op,ty,pos,aft,g⟩:=o
    cases op with
    | store t a b =>
      exfalso
      simp only [fX] at hi
      repeat' split at hi
      all_goals cases hi
    | alloc x=>exact aUo hi hv
    | box t x=>exact n_box hi hv hk
    | buildSlice t n ps=>exact n_bsl hi hv hk
    | makeSlice t n x =>
      exfalso
      simp only [fX] at hi
      split at hi
      · split at hi
        · rename_i s b zs _ _ _
          cases hz:zs.length.beq s <;> rw [hz] at hi <;> cases hi
          rcases hw with ⟨t,zs,e⟩|⟨t,x,e⟩|⟨t,n,s,zs,ps,e⟩ <;> cases e
        · cases hi
      · cases hi
    | makeMap t r =>
      cases r with
      | none =>
        cases hi
        rcases hw with ⟨t,zs,e⟩|⟨t,x,e⟩|⟨t,n,s,zs,ps,e⟩ <;> cases e
      | some r=>cases hi
    | mapUpdate t m k x =>
      exfalso
      simp only [fX] at hi
      repeat' split at hi
      all_goals first|(cases hi; done)|(cases hi; rcases hw with ⟨t,zs,e⟩|⟨t,x,e⟩|⟨t,n,s,zs,ps,e⟩ <;> cases e)
    | insert t m k x =>
      exfalso
      simp only [fX] at hi
      repeat' split at hi
      all_goals first|(cases hi; done)|(cases hi; rcases hw with ⟨t,zs,e⟩|⟨t,x,e⟩|⟨t,n,s,zs,ps,e⟩ <;> cases e)
    | convert s d x =>
      exfalso
      simp only [fX] at hi
      split at hi
      · unfold tS at hi
        repeat' split at hi
        all_goals first|(cases hi; done)|(cases hi; rcases hw with ⟨t,zs,e⟩|⟨t,x,e⟩|⟨t,n,s,zs,ps,e⟩ <;> cases e)
      · cases hi
    | call c =>
      exfalso
      rcases vG hi with ⟨f,xs,e⟩|⟨b,hb,e⟩
      · cases e
      · rcases pG e with ⟨m,e⟩|⟨hbb,m,e'⟩
        · cases e
        · rcases hbb with rfl|rfl|rfl
          · obtain ⟨_,_,_,_,_,_,_,_,_,_,_,_,_,_,_,_,e2⟩:=aK6 e
            cases e2
            rcases hw with ⟨t,zs,e⟩|⟨t,x,e⟩|⟨t,n,s,zs,ps,e⟩ <;> cases e
          · obtain ⟨_,_,_,_,_,_,_,_,_,_,e2⟩:=aK4 e
            cases e2
            rcases hw with ⟨t,zs,e⟩|⟨t,x,e⟩|⟨t,n,s,zs,ps,e⟩ <;> cases e
          · obtain ⟨_,_,_,_,_,_,_,_,_,_,_,e2⟩:=aK5 e
            cases e2
            rcases hw with ⟨t,zs,e⟩|⟨t,x,e⟩|⟨t,n,s,zs,ps,e⟩ <;> cases e
    | _=>cases ha
end
end
theorem aFu (m i:Nat):rE m i=m.testBit i:=by
  unfold rE
  have h1:Nat.shiftRight m i=m / 2 ^ i:=Nat.shiftRight_eq_div_pow m i
  rw [h1,Nat.testBit_eq_decide_div_mod_eq,aRn]
theorem aLb (i j:Nat):(bit i).testBit j=true↔j=i:=by
  have h1:bit i=2 ^ i:=by unfold bit; show 1 <<< i=_; rw [Nat.shiftLeft_eq,Nat.one_mul]
  rw [h1,Nat.testBit_two_pow]
  simp; exact eq_comm
theorem aIu (a b j:Nat):(Nat.lor a b).testBit j=true↔a.testBit j=true\/b.testBit j=true:=by
  have:Nat.lor a b=a ||| b:=rfl
  rw [this,Nat.testBit_or,eG]
theorem aM2 {a b:Nat} (h:aFd a b=true) (j:Nat) (hj:a.testBit j=true):b.testBit j=true:=by
  have h1:Nat.land a b=a:=aO h
  have h2:Nat.land a b=a &&& b:=rfl
  rw [← h1,h2,Nat.testBit_and,aJ] at hj;exact hj.2
theorem zU:∀ (l:List Nat) (j:Nat),(tT l).testBit j=true↔j∈l
  | [],j=>by simp [tT]
  | i::l,j=>by
    have e:tT (i::l)=Nat.lor (bit i) (tT l):=rfl
    rw [e,aIu,aLb,zU l j]; simp
theorem aLc {an:Tr Nat} {m:Nat}:∀ (ps:List Nat) (j:Nat),(lT an ps m).testBit j=true->m.testBit j=true\/∃ k∈ps,∃ x,an.get k=some x/\x.testBit j=true
  | [],j,h=>.inl h
  | k::ps,j,h=>by
    have h:(Option.rec (lT an ps m) (fun x=>Nat.lor x (lT an ps m)) (an.get k):Nat).testBit j=true:=h
    cases e:an.get k with
    | none =>
      rw [e] at h
      rcases aLc ps j h with h|⟨k',h1,h2⟩
      · exact .inl h
      · exact .inr ⟨k',by simp [h1],h2⟩
    | some x =>
      rw [e] at h
      rcases (aIu _ _ _).1 h with h|h
      · exact .inr ⟨k,by simp,x,e,h⟩
      · rcases aLc ps j h with h|⟨k',h1,h2⟩
        · exact .inl h
        · exact .inr ⟨k',by simp [h1],h2⟩
structure DK (P:Program) (ops:Array Oper) (d:DOp):Prop where
  o:∃ o,ops[d.i]?=some o/\op1 P ops o=some d.q/\d.ps=aK0 o/\d.rs=iK ops o
  pm:d.pm=tT d.ps
  k:d.k=wW d.q.i
theorem aM3 {P:Program} {ops:Array Oper}:∀ {l:List Oper} {k:Nat} {r:List DOp},aOj P ops k l=some r->(∀ j,l[j]?=ops[k+j]?)->r.length=l.length/\∀ d∈r,DK P ops d/\k<=d.i
  | [],k,r,h,_=>by cases h; exact ⟨rfl,fun d hd=>by cases hd⟩
  | o::l,k,r,h,hl=>by
    unfold aOj at h;rw [aDu] at h
    split at h
    · rename_i q i' h1 h2
      cases h2
      split at h
      · rename_i r' h3
        cases h
        obtain ⟨k1,k2⟩:=aM3 h3 (fun j=>by have:=hl (j+1); rw [dY] at this; rw [this]; congr 1; omega)
        refine ⟨by simp [k1],fun d hd=>?_⟩
        rcases aE.1 hd with rfl|hd
        · exact ⟨⟨⟨o,by have:=hl 0; simpa using this.symm,h1,rfl,rfl⟩,rfl,rfl⟩,aK _⟩
        · have:=k2 d hd; exact ⟨this.1,by omega⟩
      · cases h
    · cases h
theorem aLd {d:DOp} {l:List DOp} {t:Tr Nat} (h:vA (d::l)=some t):∃ t0,vA l=some t0/\((d.q.d=none/\t=t0)\/∃ s,d.q.d=some s/\t0.get s=none/\Tr.put 12 t0 s (some d.i)=some t):=by
  have h:(Option.rec none (fun t=>Option.rec (some t) (fun s=>Option.rec (Tr.put 12 t s (some d.i)) (fun _=>none) (Tr.get t s)) d.q.d) (vA l):Option (Tr Nat))=some t:=h
  cases e:vA l with
  | none=>rw [e] at h; cases h
  | some t0 =>
    rw [e] at h;refine ⟨t0,rfl,?_⟩
    cases ed:d.q.d with
    | none=>rw [ed] at h; cases h; exact .inl ⟨rfl,rfl⟩
    | some s =>
      rw [ed] at h;simp only at h
      cases eg:t0.get s with
      | none=>rw [eg] at h; exact .inr ⟨s,rfl,eg,h⟩
      | some x=>rw [eg] at h; cases h
theorem aIv:∀ {l:List DOp} {t:Tr Nat},vA l=some t->∀ d∈l,∀ s,d.q.d=some s->t.get s=some d.i
  | [],t,h,d,hd,s,hs=>by cases hd
  | x::l,t,h,d,hd,s,hs=>by
    obtain ⟨t0,h0,h1⟩:=aLd h
    rcases aE.1 hd with rfl|hd
    · rcases h1 with ⟨h1,rfl⟩|⟨s',h1,h2,h3⟩
      · rw [hs] at h1; cases h1
      · rw [hs] at h1; cases h1
        rw [Tr.get_put 12 _ _ _ s s h3,if_pos rfl]
    · have:=aIv h0 d hd s hs
      rcases h1 with ⟨h1,rfl⟩|⟨s',h1,h2,h3⟩
      · exact this
      · rw [Tr.get_put 12 _ _ _ s' s h3]
        by_cases e:s=s'
        · subst e; rw [h2] at this; cases this
        · rw [if_neg e]; exact this
theorem aIw {sl:Tr Nat} {pm:Nat}:∀ {rs:List Nat},yR sl pm rs=true->∀ t∈rs,∀ j,sl.get t=some j->pm.testBit j=true
  | [],h,t,ht,j,hj=>by cases ht
  | x::rs,h,t,ht,j,hj=>by
    have h:(Option.rec (yR sl pm rs) (fun j=>Bool.rec false (yR sl pm rs) (rE pm j)) (sl.get x):Bool)=true:=h
    have hr:yR sl pm rs=true/\∀ j,sl.get x=some j->pm.testBit j=true:=by
      cases e:sl.get x with
      | none=>rw [e] at h; exact ⟨h,fun j hj=>by cases hj⟩
      | some y =>
        rw [e] at h;simp only at h
        cases eb:rE pm y with
        | false=>rw [eb] at h; cases h
        | true=>rw [eb] at h; exact ⟨h,fun j hj=>by cases hj; rw [← aFu]; exact eb⟩
    rcases aE.1 ht with rfl|ht
    · exact hr.2 j hj
    · exact aIw hr.1 t ht j hj
abbrev Sch:=List (DOp × Nat)
def aFv (A:Sch):List Nat:=A.map (·.1.i)
def aSb (X:Nat->Prop) (A:Sch):Prop:=∀ y∈A,X y.1.i->∀ j∈y.1.ps,X j
structure aSc (sl:Tr Nat) (A:Sch) (x:DOp × Nat):Prop where
  pre:∀ j∈x.1.ps,j∈aFv A
  new:x.1.i∉aFv A
  anc:∀ X,aSb X A->(∀ j∈x.1.ps,X j)->∀ j,rE x.2 j=true->X j
  eff:(x.1.k=1\/x.1.k=3)->∀ y∈A,kU y.1.k=true->rE x.2 y.1.i=true
  rds:∀ t∈x.1.rs,∀ j,sl.get t=some j->j∈x.1.ps
def aFw (full:Nat) (sl:Tr Nat):Sch->Sch->Prop
  | A,[]=>∀ j,full.testBit j=true->j∈aFv A
  | A,x::r=>aSc sl A x/\aFw full sl (A ++ [x]) r
theorem aUp {α:Type} {x:Option α} {n:Nat} {r:α} (h:(Nat.rec (motive:=fun _=>Option α) x (fun _ _=>none) n:Option α)=some r):n=0/\x=some r:=by
  cases n with
  | zero=>exact ⟨rfl,h⟩
  | succ n=>cases h
theorem aLe {full:Nat} {sl:Tr Nat} {d:DOp} {l:List DOp} {dn eff:Nat} {an:Tr Nat} {r:Sch} (h:aDz full sl (d::l) dn eff an=some r) :
    ∃ an' r',dn.testBit d.i=false/\aFd d.pm dn=true/\ckK d.k eff (lT an d.ps d.pm)=true/\yR sl d.pm d.rs=true/\Tr.put 8 an d.i (some (lT an d.ps d.pm))=some an' /\
      aDz full sl l (Nat.lor dn (bit d.i)) (Bool.rec eff (Nat.lor eff (bit d.i)) (kU d.k)) an'=some r'/\r=(d,lT an d.ps d.pm)::r':=by
  have h:(Nat.rec (motive:=fun _=>Option (List (DOp × Nat)))
      (Bool.rec none (Option.rec none (fun an'=>Option.rec none (fun r=>some ((d,lT an d.ps d.pm)::r)) (aDz full sl l (Nat.lor dn (bit d.i)) (Bool.rec eff (Nat.lor eff (bit d.i)) (kU d.k)) an')) (Tr.put 8 an d.i (some (lT an d.ps d.pm))))
        (aFd d.pm dn && ckK d.k eff (lT an d.ps d.pm) && yR sl d.pm d.rs))
      (fun _ _=>none) (Nat.shiftRight dn d.i % 2):Option (List (DOp × Nat)))=some r:=h
  have hb:dn.testBit d.i=decide (Nat.shiftRight dn d.i % 2=1):=by
    rw [Nat.testBit_eq_decide_div_mod_eq]
    have h1:Nat.shiftRight dn d.i=dn / 2 ^ d.i:=Nat.shiftRight_eq_div_pow dn d.i
    rw [h1]
  obtain ⟨e,h⟩:=aUp h
  · rw [e] at hb
    cases e2:(aFd d.pm dn && ckK d.k eff (lT an d.ps d.pm) && yR sl d.pm d.rs) with
    | false=>rw [e2] at h; cases h
    | true =>
      rw [e2] at h;simp only [aJ] at h e2
      cases e3:Tr.put 8 an d.i (some (lT an d.ps d.pm)) with
      | none=>rw [e3] at h; cases h
      | some an' =>
        rw [e3] at h;simp only at h
        cases e4:aDz full sl l (Nat.lor dn (bit d.i)) (Bool.rec eff (Nat.lor eff (bit d.i)) (kU d.k)) an' with
        | none=>rw [e4] at h; cases h
        | some r' =>
          rw [e4] at h;simp only [aD] at h
          exact ⟨an',r',by rw [hb]; rfl,e2.1.1,e2.1.2,e2.2,rfl,e4,h.symm⟩
theorem aIx {full:Nat} {sl:Tr Nat}:∀ {l:List DOp} {dn eff:Nat} {an:Tr Nat} {r A:Sch},aDz full sl l dn eff an=some r->(∀ d∈l,d.pm=tT d.ps) ->
    (∀ j,dn.testBit j=true↔j∈aFv A)->(∀ y∈A,kU y.1.k=true->eff.testBit y.1.i=true) ->
    (∀ i m,an.get i=some m->∃ y∈A,y.1.i=i/\∀ X,aSb X A->(∀ j∈y.1.ps,X j)->∀ j,m.testBit j=true->X j)->r.map (·.1)=l/\aFw full sl A r
  | [],dn,eff,an,r,A,h,_,h1,_,_=>by
    have h:(Bool.rec none (some []) (Nat.beq dn full):Option Sch)=some r:=h
    cases e:Nat.beq dn full with
    | false=>rw [e] at h; cases h
    | true =>
      rw [e] at h; cases h
      have:=aO e
      subst this
      exact ⟨rfl,fun j hj=>(h1 j).1 hj⟩
  | d::l,dn,eff,an,r,A,h,hp,h1,h2,h3=>by
    obtain ⟨an',r',k1,k2,k3,k4,k5,k6,rfl⟩:=aLe h
    have hpm:=hp d (by simp)
    have hanc:∀ X,aSb X A->(∀ j∈d.ps,X j)->∀ j,(lT an d.ps d.pm).testBit j=true->X j:=fun X hX hd j hj=>by
      rcases aLc _ _ hj with h|⟨k,hk,x,hx,hj⟩
      · rw [hpm] at h; exact hd j ((zU _ _).1 h)
      · obtain ⟨y,hy,hyi,hyX⟩:=h3 k x hx
        exact hyX X hX (hX y hy (by rw [hyi]; exact hd k hk)) j hj
    have hdn:∀ (X:Nat->Prop) (A':Sch),aSb X (A ++ A')->aSb X A:=fun X A' hX y hy=>hX y (by simp [hy])
    obtain ⟨g1,g2⟩:=aIx (A:=A ++ [(d,lT an d.ps d.pm)]) k6 (fun d' hd'=>hp d' (by simp [hd'])) (fun j=>by
        rw [aIu,aLb,h1 j]; simp [aFv]) (fun y hy he=>by
        rcases aM.1 hy with hy|hy
        · have:=h2 y hy he
          cases kU d.k with
          | true=>exact (aIu _ _ _).2 (.inl this)
          | false=>exact this
        · simp at hy; subst hy
          rw [show kU d.k=true from he]
          exact (aIu _ _ _).2 (.inr ((aLb _ _).2 rfl))) (fun i m hm=>by
        rw [Tr.get_put 8 _ _ _ d.i i k5] at hm
        by_cases e:i=d.i
        · rw [if_pos e] at hm; cases hm
          exact ⟨(d,lT an d.ps d.pm),by simp,e.symm,fun X hX hd j hj=>hanc X (hdn X _ hX) hd j hj⟩
        · rw [if_neg e] at hm
          obtain ⟨y,hy,hyi,hyX⟩:=h3 i m hm
          exact ⟨y,by simp [hy],hyi,fun X hX=>hyX X (hdn X _ hX)⟩)
    refine ⟨by simp [g1],⟨?_,?_,?_,?_,?_⟩,g2⟩
    · intro j hj
      exact (h1 j).1 (aM2 k2 j (by rw [hpm]; exact (zU _ _).2 hj))
    · intro hj
      have:=(h1 d.i).2 hj
      rw [k1] at this; cases this
    · intro X hX hd j hj
      rw [aFu] at hj;exact hanc X hX hd j hj
    · intro hk y hy he
      have:=h2 y hy he
      rw [aFu]
      have hs:aFd eff (lT an d.ps d.pm)=true:=by
        unfold ckK at k3
        rcases hk with hk|hk <;> rw [hk] at k3 <;> exact k3
      exact aM2 hs _ this
    · intro t ht j hj
      have:=aIw k4 t ht j hj
      rw [hpm] at this;exact (zU _ _).1 this
theorem xG {p:DOp->Bool}:∀ {l:List DOp} {d:DOp} {r:List DOp},aIc p l=some (d,r)->d∈l/\∀ x∈r,x∈l
  | [],d,r,h=>by cases h
  | x::l,d,r,h=>by
    unfold aIc at h
    cases e:p x with
    | true=>rw [e,cond_true] at h; cases h; exact ⟨by simp,fun y hy=>by simp [hy]⟩
    | false =>
      rw [e,cond_false] at h
      split at h
      · rename_i y r' h1
        cases h
        obtain ⟨k1,k2⟩:=xG h1
        refine ⟨by simp [k1],fun z hz=>?_⟩
        rcases aE.1 hz with rfl|hz
        · simp
        · simp [k2 z hz]
      · cases h
theorem aBg {an:Tr Nat}:∀ {f dn:Nat} {l:List DOp},∀ d∈aRi an f dn l,d∈l
  | 0,dn,l,d,hd=>by cases hd
  | f+1,dn,l,d,hd=>by
    unfold aRi at hd
    split at hd
    · rename_i x r h1
      obtain ⟨k1,k2⟩:=xG h1
      rcases aE.1 hd with rfl|hd
      · exact k1
      · exact k2 d (aBg d hd)
    · split at hd
      · rename_i x r h1
        obtain ⟨k1,k2⟩:=xG h1
        rcases aE.1 hd with rfl|hd
        · exact k1
        · exact k2 d (aBg d hd)
      · cases hd
structure aM4 (P:Program) (ops:Array Oper) (sl:Tr Nat) (r:Sch):Prop where
  dk:∀ x∈r,DK P ops x.1
  good:aFw (Nat.sub (bit ops.size) 1) sl [] r
  slot:∀ x∈r,∀ s,x.1.q.d=some s->sl.get s=some x.1.i
theorem aSd {P:Program} {ops:Array Oper} {l l':List DOp} {r:Sch} (hl:∀ d∈l,DK P ops d) (hl':∀ d∈l',d∈l) (h:ckO (vA l) ops.size l'=some r):∃ sl,aM4 P ops sl r:=by
  unfold ckO at h
  split at h
  · rename_i sl hs
    obtain ⟨k1,k2⟩:=aIx (A:=[]) h (fun d hd=>(hl d (hl' d hd)).pm) (fun j=>by simp [aFv]) (fun y hy=>by cases hy) (fun i m hm=>by cases hm)
    have hm:∀ x∈r,x.1∈l:=fun x hx=>hl' _ (by rw [← k1]; exact bE.2 ⟨x,hx,rfl⟩)
    exact ⟨sl,fun x hx=>hl _ (hm x hx),k2,fun x hx s hs'=>aIv hs _ (hm x hx) s hs'⟩
  · cases h
theorem aSe {P:Program} {ops:Array Oper} {r:Sch} (h:drawn (aOj P ops 0 ops.toList)=some r):∃ sl,aM4 P ops sl r:=by
  unfold drawn at h
  split at h
  · rename_i l hl
    obtain ⟨k1,k2⟩:=aM3 hl (fun j=>by simp)
    have hn:l.length=ops.size:=by simpa using k1
    rw [hn] at h
    have hd:∀ d∈l,DK P ops d:=fun d hd=>(k2 d hd).1
    split at h
    · rename_i r' hr
      cases h
      exact aSd hd (fun d hd=>hd) hr
    · unfold aRj at h
      split at h
      · rw [hn] at h
        exact aSd hd (fun d hd=>aBg d hd) h
      · cases h
  · cases h
/-! values that are said to be the same are the same -/
theorem aSf {a b:Option Addr} (h:beA a b=true):a=b:=by
  unfold beA at h
  split at h
  · rw [aJ] at h
    have h1:=aO h.1
    have h2:=aO h.2
    subst h1; subst h2; rfl
  · rfl
  · cases h
theorem aM5 {u v:Value} (h:aRk u v=true):u=v:=by
  unfold aRk at h
  split at h
  · rfl
  · rfl
  · rw [aJ] at h
    have h1:=aRo h.1
    have h2:=h.2
    rw [aA5] at h2
    have h2:=eq_of_beq h2
    subst h1; subst h2; rfl
  · rw [aFj] at h
    have h2:=eq_of_beq h
    subst h2; rfl
  · rw [aSf h]
  · simp only [aJ] at h
    rw [aSf h.1.1,aO h.1.2,aO h.2]
  · rw [aO h]
  · rfl
  · rfl
  · rfl
  · rw [aO h]
  · cases h
theorem aFx:∀ {l m:List Value},aRl l m=true->l=m
  | [],[],_=>rfl
  | [],_::_,h=>by cases h
  | _::_,[],h=>by cases h
  | u::l,v::m,h=>by
    have h:(aRk u v && aRl l m)=true:=h
    rw [aJ] at h;rw [aM5 h.1,aFx h.2]
theorem aSg {u v:Value} (h:beV u v=true):u=v:=by
  unfold beV at h
  split at h
  · rw [aFx h]
  · rw [aFx h]
  · exact aM5 h
structure Evt where
  d:DOp
  am:Nat
  fr:Fr
  h:AH
  b:Bool
  v:Value
  h':AH
abbrev pr (e:Evt):DOp × Nat:=(e.d,e.am)
abbrev EvF:=Fr->AH->In->Option (Value × AH)
inductive kW (M:Nat) (ev:EvF):Fr->AH->List Evt->Fr->AH->Prop
  | nil {fr:Fr} {h:AH}:kW M ev fr h [] fr h
  | cons {fr fr1 fr':Fr} {h h1 h':AH} {d:DOp} {am:Nat} {b:Bool} {v:Value} {T:List Evt}:pS fr d.q.g=some b->(b=true->ev fr h d.q.i=some (v,h1))->(b=false->v=undef/\h1=h) ->
      nW M fr d.q.d v=some fr1->kW M ev fr1 h1 T fr' h'->kW M ev fr h (⟨d,am,fr,h,b,v,h1⟩::T) fr' h'
def aM6 (i:Nat) (fr:Fr) (q:In) (v:Value):List Evt->Prop
  | []=>True
  | e::T=>(kU e.d.k=true->e.b=true->rE e.am i=true\/evQ fr e.h' q=some v)/\((kU e.d.k=true/\e.b=true/\rE e.am i=true)\/aM6 i fr q v T)
def Rck:List Evt->Prop
  | []=>True
  | e::T=>(e.d.k=1->e.b=true->aM6 e.d.i e.fr e.d.q.i e.v T)/\Rck T
theorem aBh {am:Nat} {h:AH}:∀ {ws ws':List Wt},yS am h ws=some ws'->∀ x∈ws,rE am x.i=true\/(evQ x.fr h x.q=some x.v/\x∈ws')
  | [],ws',_,x,hx=>by cases hx
  | y::ws,ws',e,x,hx=>by
    have e:(Bool.rec (Bool.rec none (Option.rec none (fun r=>some (y::r)) (yS am h ws)) (beO y.v (evQ y.fr h y.q))) (yS am h ws) (rE am y.i):Option (List Wt))=some ws':=e
    cases hb:rE am y.i with
    | true =>
      rw [hb] at e
      rcases aE.1 hx with rfl|hx
      · exact .inl hb
      · exact aBh e x hx
    | false =>
      rw [hb] at e;simp only at e
      cases hv:beO y.v (evQ y.fr h y.q) with
      | false=>rw [hv] at e; cases e
      | true =>
        rw [hv] at e;simp only at e
        cases hr:yS am h ws with
        | none=>rw [hr] at e; cases e
        | some r =>
          rw [hr] at e
          cases e
          rcases aE.1 hx with rfl|hx
          · right
            refine ⟨?_,by simp⟩
            cases hq:evQ x.fr h x.q with
            | none=>rw [hq] at hv; cases hv
            | some u=>rw [hq] at hv; rw [aSg (show beV u x.v=true from hv)]
          · rcases aBh hr x hx with h1|⟨h1,h2⟩
            · exact .inl h1
            · exact .inr ⟨h1,by simp [h2]⟩
theorem aOq {M:Nat} {ev:EvF} {d:DOp × Nat} {l:Sch} {ws:List Wt} {fr:Fr} {h:AH} {x:Fr × AH} (e:aFe M ev (d::l) ws fr h=some x):∃ b v h1 fr1,pS fr d.1.q.g=some b/\(b=true->ev fr h d.1.q.i=some (v,h1))/\(b=false->v=undef/\h1=h)/\nW M fr d.1.q.d v=some fr1 /\
    ((b=false/\aFe M ev l ws fr1 h1=some x) \/
     (b=true/\kU d.1.k=false/\aFe M ev l (Bool.rec ws (⟨d.1.i,fr,d.1.q.i,v⟩::ws) (Nat.beq d.1.k 1)) fr1 h1=some x) \/
     (b=true/\kU d.1.k=true/\∃ ws',yS d.2 h1 ws=some ws'/\aFe M ev l ws' fr1 h1=some x)):=by
  have e:(Option.rec none (fun b=>Bool.rec
    (Option.rec none (fun fr'=>aFe M ev l ws fr' h) (nW M fr d.1.q.d undef))
    (Option.rec none (fun r=>Option.rec none (fun fr'=>Bool.rec
        (aFe M ev l (Bool.rec ws (⟨d.1.i,fr,d.1.q.i,r.1⟩::ws) (Nat.beq d.1.k 1)) fr' r.2)
        (Option.rec none (fun ws'=>aFe M ev l ws' fr' r.2) (yS d.2 r.2 ws)) (kU d.1.k)) (nW M fr d.1.q.d r.1)) (ev fr h d.1.q.i)) b) (pS fr d.1.q.g):Option (Fr × AH))=some x:=e
  cases hw:pS fr d.1.q.g with
  | none=>rw [hw] at e; cases e
  | some b =>
    rw [hw] at e;simp only at e
    cases b with
    | false =>
      simp only at e
      cases hp:nW M fr d.1.q.d undef with
      | none=>rw [hp] at e; cases e
      | some fr1=>rw [hp] at e; exact ⟨false,undef,h,fr1,rfl,fun h=>(by cases h),fun _=>⟨rfl,rfl⟩,hp,.inl ⟨rfl,e⟩⟩
    | true =>
      simp only at e
      cases hv:ev fr h d.1.q.i with
      | none=>rw [hv] at e; cases e
      | some r =>
        obtain ⟨v,h1⟩:=r
        rw [hv] at e;simp only at e
        cases hp:nW M fr d.1.q.d v with
        | none=>rw [hp] at e; cases e
        | some fr1 =>
          rw [hp] at e;simp only at e
          refine ⟨true,v,h1,fr1,rfl,fun _=>rfl,fun h=>(by cases h),hp,.inr ?_⟩
          cases hk:kU d.1.k with
          | false=>rw [hk] at e; exact .inl ⟨rfl,rfl,e⟩
          | true =>
            rw [hk] at e;simp only at e
            cases hr:yS d.2 h1 ws with
            | none=>rw [hr] at e; cases e
            | some ws'=>rw [hr] at e; exact .inr ⟨rfl,rfl,ws',rfl,e⟩
theorem zV {M:Nat} {ev:EvF}:∀ {l:Sch} {ws:List Wt} {fr:Fr} {h:AH} {fr':Fr} {h':AH},aFe M ev l ws fr h=some (fr',h')->∃ T,kW M ev fr h T fr' h'/\T.map pr=l/\Rck T/\∀ x∈ws,aM6 x.i x.fr x.q x.v T
  | [],ws,fr,h,fr',h',e=>by cases e; exact ⟨[],.nil,rfl,trivial,fun _ _=>trivial⟩
  | d::l,ws,fr,h,fr',h',e=>by
    obtain ⟨b,v,h1,fr1,k1,k2,k3,k4,k5⟩:=aOq e
    rcases k5 with ⟨rfl,k5⟩|⟨rfl,hk,k5⟩|⟨rfl,hk,ws',k6,k5⟩
    · obtain ⟨T,t1,t2,t3,t4⟩:=zV k5
      refine ⟨⟨d.1,d.2,fr,h,false,v,h1⟩::T,.cons k1 k2 k3 k4 t1,by simp [t2],⟨fun _ h=>(by cases h),t3⟩,fun x hx=>⟨fun _ h=>(by cases h),.inr (t4 x hx)⟩⟩
    · obtain ⟨T,t1,t2,t3,t4⟩:=zV k5
      refine ⟨⟨d.1,d.2,fr,h,true,v,h1⟩::T,.cons k1 k2 k3 k4 t1,by simp [t2],⟨fun hk1 _=>?_,t3⟩,fun x hx=>⟨fun h=>?_,.inr (t4 x ?_)⟩⟩
      · have hk1:d.1.k=1:=hk1
        have:=t4 ⟨d.1.i,fr,d.1.q.i,v⟩ (by rw [hk1]; exact List.mem_cons_self)
        exact this
      · have h:kU d.1.k=true:=h
        rw [hk] at h; cases h
      · cases Nat.beq d.1.k 1 with
        | true=>exact bS _ hx
        | false=>exact hx
    · obtain ⟨T,t1,t2,t3,t4⟩:=zV k5
      refine ⟨⟨d.1,d.2,fr,h,true,v,h1⟩::T,.cons k1 k2 k3 k4 t1,by simp [t2],⟨fun hk1 _=>?_,t3⟩,fun x hx=>?_⟩
      · have hk1:d.1.k=1:=hk1
        rw [hk1] at hk; cases hk
      · rcases aBh k6 x hx with h1|⟨h1,h2⟩
        · exact ⟨fun _ _=>.inl h1,.inl ⟨hk,rfl,h1⟩⟩
        · exact ⟨fun _ _=>.inr h1,.inr (t4 x h2)⟩
/-! frames and heaps along the way -/
theorem aIy {M:Nat} {fr fr1:Fr} {d:Option Nat} {v:Value} (h:nW M fr d v=some fr1) (t:Nat):fr1.get t=if d=some t then some v else fr.get t:=by
  cases d with
  | none=>cases h; simp
  | some d =>
    have h:(Bool.rec none (Option.rec none (fun v'=>Tr.put 10 fr d (some v')) (fV v)) (Nat.blt d M):Option Fr)=some fr1:=h
    cases hb:Nat.blt d M with
    | false=>rw [hb] at h; cases h
    | true =>
      rw [hb,aQn] at h
      have h:Tr.put 10 fr d (some v)=some fr1:=h
      rw [Tr.get_put 10 (some v) fr fr1 d t h]
      by_cases e:t=d
      · subst e; simp
      · rw [if_neg e,if_neg]; simp; exact fun h=>e h.symm
theorem aUq {M:Nat} {fr fr1:Fr} {d:Nat} {v:Value} (h:nW M fr (some d) v=some fr1):d<M:=by
  have h:(Bool.rec none (Option.rec none (fun v'=>Tr.put 10 fr d (some v')) (fV v)) (Nat.blt d M):Option Fr)=some fr1:=h
  cases hb:Nat.blt d M with
  | false=>rw [hb] at h; cases h
  | true=>exact nI.1 hb
theorem kW.get {M:Nat} {ev:EvF} {fr fr':Fr} {h h':AH} {T:List Evt} (t:kW M ev fr h T fr' h'):∀ s v,fr'.get s=some v->(∃ y∈T,y.d.q.d=some s/\y.v=v)\/(fr.get s=some v/\∀ y∈T,y.d.q.d≠some s):=by
  induction t with
  | nil=>exact fun s v hv=>.inr ⟨hv,fun y hy=>by cases hy⟩
  | @cons fr fr1 fr' h h1 h' d am b v T k1 k2 k3 k4 _ ih =>
    intro s u hu
    rcases ih s u hu with ⟨y,hy,h1,h2⟩|⟨h1,h2⟩
    · exact .inl ⟨y,by simp [hy],h1,h2⟩
    · rw [aIy k4 s] at h1
      by_cases e:d.q.d=some s
      · rw [if_pos e] at h1; cases h1
        exact .inl ⟨_,List.mem_cons_self,e,rfl⟩
      · rw [if_neg e] at h1
        exact .inr ⟨h1,fun y hy=>by
          rcases aE.1 hy with rfl|hy
          · exact e
          · exact h2 y hy⟩
theorem kW.split {M:Nat} {ev:EvF} {fr fr':Fr} {h h':AH}:∀ {A B:List Evt},kW M ev fr h (A ++ B) fr' h'->∃ fr1 h1,kW M ev fr h A fr1 h1/\kW M ev fr1 h1 B fr' h'
  | [],B,t=>⟨fr,h,.nil,t⟩
  | x::A,B,t=>by
    cases t with
    | cons k1 k2 k3 k4 t =>
      obtain ⟨fr1,h1,t1,t2⟩:=t.split
      exact ⟨fr1,h1,.cons k1 k2 k3 k4 t1,t2⟩
theorem kW.head {M:Nat} {ev:EvF} {fr fr':Fr} {h h':AH} {e:Evt} {T:List Evt} (t:kW M ev fr h (e::T) fr' h'):e.fr=fr/\e.h=h/\pS fr e.d.q.g=some e.b/\(e.b=true->ev fr h e.d.q.i=some (e.v,e.h'))/\(e.b=false->e.v=undef/\e.h'=h)/\∃ fr1,nW M fr e.d.q.d e.v=some fr1/\kW M ev fr1 e.h' T fr' h':=by
  cases t with
  | cons k1 k2 k3 k4 t=>exact ⟨rfl,rfl,k1,k2,k3,_,k4,t⟩
theorem kW.next {M:Nat} {ev:EvF} (hev:∀ fr h i v h',ev fr h i=some (v,h')->h.next<=h'.next) {fr fr':Fr} {h h':AH} {T:List Evt} (t:kW M ev fr h T fr' h'):h.next<=h'.next:=by
  induction t with
  | nil=>exact aK _
  | @cons fr fr1 fr' h h1 h' d am b v T k1 k2 k3 k4 _ ih =>
    refine cT ?_ ih
    cases b with
    | true=>exact hev _ _ _ _ _ (k2 rfl)
    | false=>rw [(k3 rfl).2]; exact aK _
section
theorem aSh {i:In} (h:kU (wW i)=false):rdI i=true:=by
  cases i with
  | st=>cases h
  | call=>cases h
  | wr wr=>cases wr <;> cases h
  | _=>rfl
theorem aV5 {cf:iA} {yf:YF} {fr:Fr} {h h':AH} {i:In} {v:Value} (hi:rdI i=true) (hv:uZ cf yf fr h i=some (v,h')):evQ fr h i=some v/\h'=h:=by
  have hq:ret1 h (evQ fr h i)=some (v,h'):=by
    cases i with
    | st=>cases hi
    | call=>cases hi
    | wr=>cases hi
    | _=>exact hv
  cases e:evQ fr h i with
  | none=>rw [e] at hq; cases hq
  | some v'=>rw [e] at hq; cases hq; exact ⟨rfl,rfl⟩
theorem cls0 {i:In} (h:wW i=0) (fr:Fr) (h1 h2:AH):evQ fr h1 i=evQ fr h2 i:=by
  cases i with
  | ld1=>cases h
  | ldn=>cases h
  | mi m =>
    cases m with
    | b2s=>cases h
    | lkp=>cases h
    | _=>rfl
  | _=>rfl
theorem aWy (i:In):wW i=0\/wW i=1\/wW i=2\/wW i=3:=by
  cases i with
  | wr wr=>cases wr <;> simp [wW]
  | mi m=>cases m <;> simp [wW]
  | _=>simp [wW]
section
variable {P:Program} {ρ ρ':Rn} {fr:Fr} {w:World} {h h':AH} {η:PH}
theorem HR.mono (r:HR P ρ h η) (hle:ρ.le ρ'):HR P ρ' h η:=by
  have key:∀ i b s e,h.get i≠none->ρ' i=some (b,s,e)->ρ i=some (b,s,e):=fun i b s e hi h1=>by
    obtain ⟨a,ha⟩:=dO.1 hi
    obtain ⟨b',s',e',o,h2,_⟩:=r.val i a ha
    have:=hle _ _ h2
    rw [h1] at this; rw [h2,this]
  refine ⟨fun i a hi=>?_,fun b hb=>?_,fun i j b s e s' e' hi hj h1 h2=>r.inj i j b s e s' e' hi hj (key i b s e hi h1) (key j b s' e' hj h2)⟩
  · obtain ⟨b,s,e,o,h1,h2,h3⟩:=r.val i a hi
    exact ⟨b,s,e,o,hle _ _ h1,h2,h3.mono hle⟩
  · obtain ⟨i,a,s,e,h1,h2⟩:=r.dom b hb
    exact ⟨i,a,s,e,h1,hle _ _ h2⟩
theorem HR.add (r:HR P ρ h η) {x:AO} (e:h.new x=some h') {b s ex:Nat} (hn:ρ h.next=some (b,s,ex)) (hb:η b=none) {o:Obj} (ho:OR P ρ s ex x o):HR P ρ h' (iT η b (some o)):=by
  obtain ⟨g,_⟩:=AH.get_new e
  have hne:∀ i a,h.get i=some a->i≠h.next:=fun i a hi e=>by
    obtain ⟨b',s',e',o',h1,h2,_⟩:=r.val i a hi
    rw [e,hn] at h1; cases h1;rw [hb] at h2; cases h2
  have hbn:∀ i a,h.get i=some a->∀ b' s' e',ρ i=some (b',s',e')->b'≠b:=fun i a hi b' s' e' h1 e=>by
    obtain ⟨b2,s2,e2,o2,h2,h3,_⟩:=r.val i a hi
    rw [h1] at h2; cases h2;rw [e,hb] at h3; cases h3
  refine ⟨fun i a hi=>?_,fun b' hb'=>?_,fun i j b' s' e' s2 e2 hi hj h1 h2=>?_⟩
  · rw [g] at hi
    by_cases ei:i=h.next
    · rw [if_pos ei] at hi; cases hi
      exact ⟨b,s,ex,o,by rw [ei]; exact hn,by simp [iT],ho⟩
    · rw [if_neg ei] at hi
      obtain ⟨b',s',e',o',h1,h2,h3⟩:=r.val i a hi
      exact ⟨b',s',e',o',h1,by simp [iT,hbn i a hi b' s' e' h1,h2],h3⟩
  · by_cases eb:b'=b
    · exact ⟨h.next,x,s,ex,by rw [g,if_pos rfl],by rw [eb]; exact hn⟩
    · simp only [iT,if_neg eb] at hb'
      obtain ⟨i,a,s',e',h1,h2⟩:=r.dom b' hb'
      exact ⟨i,a,s',e',by rw [g,if_neg (hne i a h1)]; exact h1,h2⟩
  · rw [g] at hi hj
    by_cases ei:i=h.next <;> by_cases ej:j=h.next
    · rw [ei,ej]
    · rw [if_neg ej] at hj
      obtain ⟨a,ha⟩:=dO.1 hj
      rw [ei,hn] at h1; cases h1;exact absurd rfl (hbn j a ha _ s2 e2 h2)
    · rw [if_neg ei] at hi
      obtain ⟨a,ha⟩:=dO.1 hi
      rw [ej,hn] at h2; cases h2;exact absurd rfl (hbn i a ha _ s' e' h1)
    · rw [if_neg ei] at hi; rw [if_neg ej] at hj
      exact r.inj i j b' s' e' s2 e2 hi hj h1 h2
theorem aLf {a:Act} {d t:Nat} {u:Value} (hd:d<a.tmps.size):(a.put (some d) u).tmps.getD t undef=if t=d then u else a.tmps.getD t undef:=by
  simp only [Act.put,aP,cG]
  by_cases e:d=t
  · subst e; simp [hd]
  · rw [if_neg e,if_neg (fun h=>e h.symm)]
theorem aSi {all:Array Oper} {o:Oper} {q:Op1} {b:Bool} {a:Act} (h1:op1 P all o=some q) (hw:pS fr q.g=some b) (hk:∀ t∈iK all o,∀ v,fr.get t=some v->∃ u,rn ρ v=some u/\a.tmps.getD t undef=u):Region.wanted o (yielded all a.tmps)=b:=by
  unfold op1 at h1;unfold Region.wanted
  split at h1
  · rename_i hg _
    cases h1
    cases hw
    rw [hg]
  · rename_i j w0 i hg hi
    split at h1
    · rename_i d hd
      cases h1
      have hk:=hk d (by unfold iK; rw [hg]; simp [hd])
      rw [hg];simp only [pS] at hw;unfold yielded
      dsimp only
      rw [hd];simp only [Option.bind_some]
      split at hw
      · rename_i c hc
        cases hw
        obtain ⟨u,q1,q2⟩:=hk _ hc
        cases q1
        have hget:(a.tmps[d]?).getD undef=.bool c:=by rw [← q2]; simp [aP]
        cases hx:a.tmps[d]? with
        | none=>rw [hx] at hget; cases hget
        | some x=>rw [hx] at hget; simp at hget; subst hget; simp
      · rename_i c hc
        cases hw
        obtain ⟨u,q1,q2⟩:=hk _ hc
        obtain ⟨l⟩:=c
        obtain ⟨us,q3,rfl⟩:=vB q1
        have hget:(a.tmps[d]?).getD undef=.tuple us.toArray:=by rw [← q2]; simp [aP]
        cases hx:a.tmps[d]? with
        | none=>simp
        | some x=>rw [hx] at hget; simp at hget; subst hget; simp
      · cases hw
    · cases h1
  · cases h1
theorem aWz {all:Array Oper} {o:Oper} {a:Act} (hk:∀ t∈iK all o,∀ v,fr.get t=some v->∃ u,rn ρ v=some u/\a.tmps.getD t undef=u):EK ρ fr a.eval o.op.operands:=fun x hx v hv hc=>by
  cases x with
  | tmp t=>exact hk t (by unfold iK; simp only [aM,eJ]; exact .inl ⟨.tmp t,by simpa using hx,rfl⟩) v hv
  | const c =>
    simp only [evX,aD] at hv;subst hv
    rcases hc with ⟨t,e⟩|hc
    · cases e
    · exact ⟨_,iM hc,rfl⟩
  | global g=>cases hv
  | func f=>cases hv; exact ⟨_,rfl,rfl⟩
end
/-! the region -/
structure RC where
  P:Program
  ops:Array Oper
  sl:Tr Nat
  M:Nat
  cf:iA
  yf:YF
  T:List Evt
  fr0:Fr
  h0:AH
  frN:Fr
  hN:AH
  ρ0:Rn
  η0:PH
  w0:World
  df:List Deferred
structure RC.OK (c:RC):Prop where
  cf:FOK c.P c.cf
  yf:YOK c.P c.yf
  sch:aM4 c.P c.ops c.sl (c.T.map pr)
  tr:kW c.M (uZ c.cf c.yf) c.fr0 c.h0 c.T c.frN c.hN
  fresh:Fresh c.ρ0 c.h0.next c.hN.next
theorem aFw.at {full:Nat} {sl:Tr Nat}:∀ {B1 A0 B2:Sch} {x:DOp × Nat},aFw full sl A0 (B1 ++ x::B2)->aSc sl (A0 ++ B1) x
  | [],A0,B2,x,h=>by simpa using h.1
  | y::B1,A0,B2,x,h=>by
    have:=aFw.at (B1:=B1) h.2
    simpa using this
theorem aFw.all {full:Nat} {sl:Tr Nat}:∀ {B A0:Sch},aFw full sl A0 B->∀ j,full.testBit j=true->j∈aFv (A0 ++ B)
  | [],A0,h=>by rw [bX]; exact h
  | y::B,A0,h=>by
    have:=aFw.all (B:=B) h.2
    simpa using this
section
variable {c:RC}
theorem RC.OK.good1 (ok:c.OK) {A B:List Evt} {e:Evt} (h:c.T=A ++ e::B):aSc c.sl (A.map pr) (pr e):=by
  have:=ok.sch.good
  rw [h,cX,dK] at this
  simpa using this.at
theorem tX {A:List Evt} {i:Nat}:i∈aFv (A.map pr)↔∃ y∈A,y.d.i=i:=by
  simp [aFv]
theorem RC.OK.uniq (ok:c.OK) {e e':Evt} (he:e∈c.T) (he':e'∈c.T) (h:e.d.i=e'.d.i):e=e':=by
  obtain ⟨A,B,hT⟩:=dM he
  have g1:=ok.good1 hT
  rw [hT] at he'
  rcases aM.1 he' with h1|h1
  · exact absurd (tX.2 ⟨e',h1,h.symm⟩) g1.new
  · rcases aE.1 h1 with h1|h1
    · exact h1.symm
    · obtain ⟨B1,B2,hB⟩:=dM h1
      have g2:=ok.good1 (A:=A ++ e::B1) (e:=e') (B:=B2) (by rw [hT,hB]; simp)
      exact absurd (tX.2 ⟨e,by simp,h⟩) g2.new
theorem RC.OK.cov (ok:c.OK) {i:Nat} (hi:i<c.ops.size):∃ e∈c.T,e.d.i=i:=by
  have:=ok.sch.good.all i (by
    have h1:bit c.ops.size=2 ^ c.ops.size:=by unfold bit; show 1 <<< _=_; rw [Nat.shiftLeft_eq,Nat.one_mul]
    rw [h1]
    have h2:Nat.sub (2 ^ c.ops.size) 1=2 ^ c.ops.size-1:=rfl
    rw [h2,Nat.testBit_two_pow_sub_one]
    simpa using hi)
  exact tX.1 (by simpa using this)
theorem RC.OK.dk (ok:c.OK) {e:Evt} (he:e∈c.T):DK c.P c.ops e.d:=ok.sch.dk (pr e) (bE.2 ⟨e,he,rfl⟩)
theorem RC.OK.slot (ok:c.OK) {e:Evt} (he:e∈c.T) {s:Nat} (hs:e.d.q.d=some s):c.sl.get s=some e.d.i:=ok.sch.slot (pr e) (bE.2 ⟨e,he,rfl⟩) s hs
theorem RC.OK.evn (ok:c.OK):∀ fr h i v h',uZ c.cf c.yf fr h i=some (v,h')->h.next<=h'.next:=fun _ _ _ _ _ e=>xF ok.cf ok.yf e
abbrev Clo (c:RC) (X:Nat->Prop):Prop:=∀ e∈c.T,X e.d.i->∀ j∈e.d.ps,X j
structure DIx (c:RC) (X:Nat->Prop) (D S:List Evt) (h:AH) (ρ:Rn) (η:PH) (a:Act) (w:World):Prop where
  cat:c.T=D ++ S
  frm:∃ frS,kW c.M (uZ c.cf c.yf) frS h S c.frN c.hN
  lo:c.h0.next<=h.next
  doneD:∀ e∈D,kU e.d.k=true->X e.d.i
  notS:∀ e∈S,e.d.k=3->¬ X e.d.i
  hr:HR c.P ρ h η
  upd:Upd [c.η0] [η] c.w0 w
  rle:c.ρ0.le ρ
  rnew:∀ n,ρ n≠none->c.ρ0 n≠none\/(c.h0.next<=n/\n<h.next)\/∃ e∈S,X e.d.i/\e.d.k=2/\e.b=true/\n=e.h.next
  ext:∀ e∈S,e.d.k=2->e.b=true->X e.d.i->∃ b ob x,ρ e.h.next=some (b,0,0)/\w.heap[b]?=some ob/\η b=none/\c.w0.heap.size<=b/\e.h.new x=some e.h'/\∀ ρ',ρ.le ρ'->OR c.P ρ' 0 0 x ob
  dis:∀ e∈S,∀ e'∈S,e.d.k=2->e'.d.k=2->e.b=true->e'.b=true->X e.d.i->X e'.d.i->∀ b,ρ e.h.next=some (b,0,0)->ρ e'.h.next=some (b,0,0)->e.h.next=e'.h.next
  vals:∀ e∈c.T,X e.d.i->∀ s,e.d.q.d=some s->∃ u,rn ρ e.v=some u/\a.tmps.getD s undef=u
  base:∀ t,(∀ e∈c.T,e.d.q.d≠some t)->∀ v,c.fr0.get t=some v->∃ u,rn ρ v=some u/\a.tmps.getD t undef=u
  late:∀ e∈D,e.d.k=1->e.b=true->¬ X e.d.i->evQ e.fr h e.d.q.i=some e.v/\aM6 e.d.i e.fr e.d.q.i e.v S
  rck:Rck S
  size:a.tmps.size=c.M
  dfr:a.defers=c.df
theorem DIx.le {X:Nat->Prop} {D S:List Evt} {h:AH} {ρ:Rn} {η:PH} {a:Act} {w:World} (di:DIx c X D S h ρ η a w):η.le w:=di.upd.own η (by simp)
theorem kW.lt {M:Nat} {ev:EvF} (hev:∀ fr h i v h',ev fr h i=some (v,h')->h.next<=h'.next) {fr fr':Fr} {h h':AH} {e:Evt} {S:List Evt} (t:kW M ev fr h (e::S) fr' h'):h.next<=e.h'.next/\e.h'.next<=h'.next/\∀ y∈S,e.h'.next<=y.h.next:=by
  obtain ⟨_,_,_,k2,k3,fr1,_,t1⟩:=t.head
  refine ⟨?_,t1.next hev,fun y hy=>?_⟩
  · cases hb:e.b with
    | true=>exact hev _ _ _ _ _ (k2 hb)
    | false=>rw [(k3 hb).2]; exact aK _
  · obtain ⟨A,B,rfl⟩:=dM hy
    obtain ⟨fr2,h2,t2,t3⟩:=t1.split
    rw [t3.head.2.1];exact t2.next hev
theorem kW.at {M:Nat} {ev:EvF} {fr fr':Fr} {h h':AH} {e:Evt} {S:List Evt} (t:kW M ev fr h S fr' h') (he:e∈S):pS e.fr e.d.q.g=some e.b/\(e.b=true->ev e.fr e.h e.d.q.i=some (e.v,e.h'))/\(e.b=false->e.v=undef/\e.h'=e.h)/\∀ s,e.d.q.d=some s->s<M:=by
  obtain ⟨A,B,rfl⟩:=dM he
  obtain ⟨fr2,h2,_,t3⟩:=t.split
  obtain ⟨k1,k2,k3,k4,k5,fr1,k6,_⟩:=t3.head
  rw [k1,k2]
  exact ⟨k3,k4,k5,fun s hs=>by rw [hs] at k6; exact aUq k6⟩
end
end
section
section
variable {c:RC} {X:Nat->Prop} {D S:List Evt} {h:AH} {ρ:Rn} {η:PH} {a:Act} {w:World}
theorem RC.OK.ancs (ok:c.OK) {A B:List Evt} {e:Evt} (hT:c.T=A ++ e::B) (cl:Clo c X) (hp:∀ j∈e.d.ps,X j) {j:Nat} (hj:rE e.am j=true):X j:=
  (ok.good1 hT).anc X (fun y hy hX=>by
    obtain ⟨y',hy',rfl⟩:=bE.1 hy
    exact cl y' (by rw [hT]; simp [hy']) hX) hp j hj
theorem RC.OK.effs (ok:c.OK) {A B:List Evt} {e:Evt} (hT:c.T=A ++ e::B) (cl:Clo c X) (hp:∀ j∈e.d.ps,X j) (hk:e.d.k=1\/e.d.k=3) {y:Evt} (hy:y∈A) (he:kU y.d.k=true):X y.d.i:=
  ok.ancs hT cl hp ((ok.good1 hT).eff hk (pr y) (bE.2 ⟨y,hy,rfl⟩) he)
theorem RC.OK.kk (ok:c.OK) {e:Evt} (he:e∈c.T):e.d.k=0\/e.d.k=1\/e.d.k=2\/e.d.k=3:=by
  rw [(ok.dk he).k]; exact aWy _
theorem DIx.pass (ok:c.OK) {e:Evt} (di:DIx c X D (e::S) h ρ η a w) (cl:Clo c X) (hx:kU e.d.k=true->X e.d.i) (hb:kU e.d.k=true->e.b=false):DIx c X (D ++ [e]) S h ρ η a w:=by
  obtain ⟨frS,t⟩:=di.frm
  obtain ⟨k1,k2,k3,k4,k5,fr1,k6,t1⟩:=t.head
  have heT:e∈c.T:=by rw [di.cat]; simp
  have hsame:e.h'=h/\(e.b=true->evQ e.fr h e.d.q.i=some e.v):=by
    cases hbb:e.b with
    | false=>exact ⟨(k5 hbb).2,fun h=>by cases h⟩
    | true =>
      cases hk:kU e.d.k with
      | true=>rw [hb hk] at hbb; cases hbb
      | false =>
        rw [(ok.dk heT).k] at hk
        obtain ⟨q1,q2⟩:=aV5 (aSh hk) (k4 hbb)
        rw [k1]
        exact ⟨q2,fun _=>q1⟩
  have hkk:=ok.kk heT
  refine ⟨by rw [di.cat]; simp,⟨fr1,by rw [← hsame.1]; exact t1⟩,di.lo,fun y hy hk=>?_,fun y hy=>di.notS y (by simp [hy]),di.hr,di.upd,di.rle,fun n hn=>?_,fun y hy=>di.ext y (by simp [hy]),fun y hy y' hy'=>di.dis y (by simp [hy]) y' (by simp [hy']),di.vals,di.base,fun y hy hk hyb hyX=>?_,di.rck.2,di.size,di.dfr⟩
  · rcases aM.1 hy with hy|hy
    · exact di.doneD y hy hk
    · simp at hy; subst hy; exact hx hk
  · rcases di.rnew n hn with h1|h1|⟨y,hy,h2,h3,h4,h5⟩
    · exact .inl h1
    · exact .inr (.inl h1)
    · rcases aE.1 hy with rfl|hy
      · have:=hb (by rw [h3]; rfl)
        rw [this] at h4; cases h4
      · exact .inr (.inr ⟨y,hy,h2,h3,h4,h5⟩)
  · rcases aM.1 hy with hy|hy
    · obtain ⟨q1,q2⟩:=di.late y hy hk hyb hyX
      refine ⟨q1,?_⟩
      rcases q2.2 with ⟨h1,h2,_⟩|h2
      · rw [hb h1] at h2; cases h2
      · exact h2
    · simp at hy; subst hy
      exact ⟨hsame.2 hyb,di.rck.1 hk hyb⟩
theorem DIx.merge (ok:c.OK) {e:Evt} (di:DIx c X D (e::S) h ρ η a w) (cl:Clo c X) (hk:e.d.k=2) (hb:e.b=true) (hx:X e.d.i):∃ η',DIx c X (D ++ [e]) S e.h' ρ η' a w:=by
  obtain ⟨frS,t⟩:=di.frm
  obtain ⟨k1,k2,k3,k4,k5,fr1,k6,t1⟩:=t.head
  have heT:e∈c.T:=by rw [di.cat]; simp
  obtain ⟨b,ob,x,q1,q2,q3,q4,q5,q6⟩:=di.ext e (by simp) hk hb hx
  have hlt:=t.lt ok.evn
  have hnx:e.h'.next=e.h.next+1:=(AH.get_new q5).2
  rw [k2] at q1 q5 hnx
  have hr':=di.hr.add q5 q1 q3 (q6 ρ (fun _ _ h=>h))
  refine ⟨iT η b (some ob),by rw [di.cat]; simp,⟨fr1,t1⟩,cT di.lo hlt.1,fun y hy hk=>?_,fun y hy=>di.notS y (by simp [hy]),hr',?_,di.rle,fun n hn=>?_,fun y hy hyk hyb hyX=>?_,fun y hy y' hy'=>di.dis y (by simp [hy]) y' (by simp [hy']),di.vals,di.base,fun y hy hk1 hyb hyX=>?_,di.rck.2,di.size,di.dfr⟩
  · rcases aM.1 hy with hy|hy
    · exact di.doneD y hy hk
    · simp at hy; subst hy; exact hx
  · refine Upd.one di.upd.size (fun b' hb' hn=>di.upd.keep b' hb' (by simpa using hn)) (fun b' o' ho'=>?_) (fun b' hb'=>?_)
    · unfold iT at ho'
      split at ho'
      · rename_i e1; cases ho'; subst e1; exact q2
      · exact di.le b' o' ho'
    · unfold iT at hb'
      split at hb'
      · rename_i e1; right; rw [e1]; exact q4
      · rcases di.upd.new η (by simp) b' hb' with ⟨τ,hτ,h⟩|h
        · simp at hτ; subst hτ; exact .inl h
        · exact .inr h
  · rcases di.rnew n hn with h1|h1|⟨y,hy,h2,h3,h4,h5⟩
    · exact .inl h1
    · exact .inr (.inl ⟨h1.1,by omega⟩)
    · rcases aE.1 hy with rfl|hy
      · refine .inr (.inl ⟨?_,?_⟩)
        · rw [h5,k2]; exact di.lo
        · rw [h5,k2]; omega
      · exact .inr (.inr ⟨y,hy,h2,h3,h4,h5⟩)
  · obtain ⟨b2,ob2,x2,r1,r2,r3,r4⟩:=di.ext y (by simp [hy]) hyk hyb hyX
    refine ⟨b2,ob2,x2,r1,r2,?_,r4⟩
    have hne:b2≠b:=fun e1=>by
      subst e1
      have:=di.dis e (by simp) y (by simp [hy]) hk hyk hb hyb hx hyX b2 (by rw [k2]; exact q1) r1
      have h3:=hlt.2.2 y hy
      rw [k2] at this;omega
    simp [iT,hne,r3]
  · rcases aM.1 hy with hy|hy
    · obtain ⟨r1,r2⟩:=di.late y hy hk1 hyb hyX
      have he:kU e.d.k=true:=by rw [hk]; rfl
      have hno:¬ rE e.am y.d.i=true:=fun hh=>hyX (ok.ancs di.cat cl (cl e heT hx) hh)
      refine ⟨(r2.1 he hb).resolve_left hno,?_⟩
      rcases r2.2 with ⟨_,_,h3⟩|h3
      · exact absurd h3 hno
      · exact h3
    · simp at hy; subst hy
      rw [hk] at hk1; cases hk1
theorem DIx.advance (ok:c.OK) (cl:Clo c X):∀ {S D:List Evt} {h:AH} {η:PH},DIx c X D S h ρ η a w->∃ D' S' h' η',DIx c X D' S' h' ρ η' a w/\(S'=[]\/∃ e S'',S'=e::S''/\kU e.d.k=true/\¬ X e.d.i)
  | [],D,h,η,di=>⟨D,[],h,η,di,.inl rfl⟩
  | e::S,D,h,η,di=>by
    have heT:e∈c.T:=by rw [di.cat]; simp
    by_cases hs:kU e.d.k=true/\¬ X e.d.i
    · exact ⟨D,e::S,h,η,di,.inr ⟨e,S,rfl,hs.1,hs.2⟩⟩
    · have hx:kU e.d.k=true->X e.d.i:=fun hk=>Classical.byContradiction fun hx=>hs ⟨hk,hx⟩
      by_cases hb:kU e.d.k=true/\e.b=true
      · have hk:e.d.k=2:=by
          rcases ok.kk heT with h|h|h|h
          · rw [h] at hb; cases hb.1
          · rw [h] at hb; cases hb.1
          · exact h
          · exact absurd (hx hb.1) (di.notS e (by simp) h)
        obtain ⟨η',di'⟩:=di.merge ok cl hk hb.2 (hx hb.1)
        exact di'.advance ok cl
      · have di':=di.pass ok cl hx (fun hk=>by
          cases hbb:e.b with
          | false=>rfl
          | true=>exact absurd ⟨hk,hbb⟩ hb)
        exact di'.advance ok cl
theorem DIx.reads (ok:c.OK) (di:DIx c X D S h ρ η a w) {e:Evt} (he:e∈c.T) (hp:∀ j∈e.d.ps,X j):∀ t∈e.d.rs,∀ v,e.fr.get t=some v->∃ u,rn ρ v=some u/\a.tmps.getD t undef=u:=by
  intro t ht v hv
  obtain ⟨A,B,hT⟩:=dM he
  have htr:=ok.tr
  rw [hT] at htr
  obtain ⟨fr1,h1,t1,t2⟩:=htr.split
  rw [t2.head.1] at hv
  have g:=ok.good1 hT
  have hps:∀ y∈c.T,y.d.q.d=some t->y.d.i∈e.d.ps:=fun y hy hyt=>g.rds t ht _ (ok.slot hy hyt)
  rcases t1.get t v hv with ⟨y,hy,h2,h3⟩|⟨h2,h3⟩
  · have hyT:y∈c.T:=by rw [hT]; simp [hy]
    rw [← h3];exact di.vals y hyT (hp _ (hps y hyT h2)) t h2
  · refine di.base t (fun y hy hyt=>?_) v h2
    obtain ⟨y',hy',hyi⟩:=tX.1 (g.pre _ (hps y hy hyt))
    have:y'=y:=ok.uniq (by rw [hT]; simp [hy']) hy hyi
    subst this;exact h3 y' hy' hyt
theorem DIx.put (ok:c.OK) (di:DIx c X D S h ρ η a w) {e:Evt} (he:e∈c.T) {ρ':Rn} (hle:ρ.le ρ') {u:Value} (hu:rn ρ' e.v=some u) :
    (∀ y∈c.T,(X y.d.i\/y.d.i=e.d.i)->∀ s,y.d.q.d=some s->∃ u',rn ρ' y.v=some u'/\(a.put e.d.q.d u).tmps.getD s undef=u') /\
    (∀ t,(∀ y∈c.T,y.d.q.d≠some t)->∀ v,c.fr0.get t=some v->∃ u',rn ρ' v=some u'/\(a.put e.d.q.d u).tmps.getD t undef=u')/\(a.put e.d.q.d u).tmps.size=c.M/\(a.put e.d.q.d u).defers=c.df:=by
  have hlt:=(ok.tr.at he).2.2.2
  cases hd:e.d.q.d with
  | none =>
    refine ⟨fun y hy hX s hs=>?_,fun t ht v hv=>?_,di.size,di.dfr⟩
    · rcases hX with hX|hX
      · obtain ⟨u',h1,h2⟩:=di.vals y hy hX s hs; exact ⟨u',oK hle h1,h2⟩
      · have:=ok.uniq hy he hX; subst this; rw [hd] at hs; cases hs
    · obtain ⟨u',h1,h2⟩:=di.base t ht v hv; exact ⟨u',oK hle h1,h2⟩
  | some d =>
    have hdm:d<a.tmps.size:=by rw [di.size]; exact hlt d hd
    refine ⟨fun y hy hX s hs=>?_,fun t ht v hv=>?_,by simp [Act.put,di.size],di.dfr⟩
    · by_cases e1:y.d.i=e.d.i
      · have:=ok.uniq hy he e1; subst this
        rw [hd] at hs; cases hs
        exact ⟨u,hu,by rw [aLf hdm,if_pos rfl]⟩
      · have hne:s≠d:=fun e2=>by
          subst e2
          have h1:=ok.slot hy hs
          have h2:=ok.slot he hd
          rw [h1,aD] at h2; exact e1 h2
        obtain ⟨u',h1,h2⟩:=di.vals y hy (hX.resolve_right e1) s hs
        exact ⟨u',oK hle h1,by rw [aLf hdm,if_neg hne]; exact h2⟩
    · have hne:t≠d:=fun e2=>by subst e2; exact ht e he hd
      obtain ⟨u',h1,h2⟩:=di.base t ht v hv
      exact ⟨u',oK hle h1,by rw [aLf hdm,if_neg hne]; exact h2⟩
end
end
section
variable {c : RC} {X : Nat -> Prop} {D S : List Evt} {h : AH} {ρ : Rn} {η : PH} {a : Act} {w : World} {r : Option Nat} {Q : Exit -> Act -> World -> Prop} {K : Act -> World -> Prop}
abbrev XI (X : Nat -> Prop) (i : Nat) : Nat -> Prop := fun j => X j \/ j = i
abbrev NextQ (c : RC) (X : Nat -> Prop) (i : Nat) (K : Act -> World -> Prop) : Prop := ∀ D S h ρ η a w, DIx c (XI X i) D S h ρ η a w -> K a w
theorem DIx.quiet (ok : c.OK) (di : DIx c X D S h ρ η a w) {e : Evt} (he : e ∈ c.T) (hx : ¬ X e.d.i) {u : Value} (hu : rn ρ e.v = some u) (h3 : e.d.k = 3 -> e ∉ S) (h2 : e.d.k = 2 -> e.b = false) : DIx c (XI X e.d.i) D S h ρ η (a.put e.d.q.d u) w := by
  obtain ⟨p1, p2, p3, p4⟩ := di.put ok he (fun _ _ h => h) hu
  have hT : ∀ y ∈ S, y ∈ c.T := fun y hy => by rw [di.cat]; simp [hy]
  have hTD : ∀ y ∈ D, y ∈ c.T := fun y hy => by rw [di.cat]; simp [hy]
  have back : ∀ y ∈ S, y.d.k = 2 -> y.b = true -> XI X e.d.i y.d.i -> X y.d.i := fun y hy hk hb hX => by
    rcases hX with hX | hX
    · exact hX
    · have := ok.uniq (hT y hy) he hX; subst this
      rw [h2 hk] at hb; cases hb
  refine ⟨di.cat, di.frm, di.lo, fun y hy hk => .inl (di.doneD y hy hk), fun y hy hk hX => ?_, di.hr, di.upd, di.rle, fun n hn => ?_, fun y hy hk hb hX => di.ext y hy hk hb (back y hy hk hb hX), fun y hy y' hy' k1 k2 b1 b2 x1 x2 => di.dis y hy y' hy' k1 k2 b1 b2 (back y hy k1 b1 x1) (back y' hy' k2 b2 x2), p1, p2, fun y hy hk hb hX => di.late y hy hk hb (fun h => hX (.inl h)), di.rck, p3, p4⟩
  · rcases hX with hX | hX
    · exact di.notS y hy hk hX
    · have := ok.uniq (hT y hy) he hX; subst this
      exact h3 hk hy
  · rcases di.rnew n hn with h1 | h1 | ⟨y, hy, q⟩
    · exact .inl h1
    · exact .inr (.inl h1)
    · exact .inr (.inr ⟨y, hy, .inl q.1, q.2⟩)
theorem DIx.early (ok : c.OK) (di : DIx c X D S h ρ η a w) {e : Evt} (he : e ∈ S) (hx : ¬ X e.d.i) (hk : e.d.k = 2) (hb : e.b = true) (hn : ρ e.h.next = none) {x : AO} {ob : Obj} {u : Value} (q1 : e.h.new x = some e.h')
    (q3 : rn (jL ρ e.h.next (w.heap.size, 0, 0)) e.v = some u) (q4 : ∀ ρ', ρ.le ρ' -> OR c.P ρ' 0 0 x ob) : DIx c (XI X e.d.i) D S h (jL ρ e.h.next (w.heap.size, 0, 0)) η (a.put e.d.q.d u) (w.alloc ob) := by
  have hT : ∀ y ∈ S, y ∈ c.T := fun y hy => by rw [di.cat]; simp [hy]
  have hle := kM (x := (w.heap.size, 0, 0)) hn
  obtain ⟨p1, p2, p3, p4⟩ := di.put ok (hT e he) hle q3
  have ual : Upd [η] [η] w (w.alloc ob) := Upd.one ⟨by simp, rfl, rfl, rfl, aK _⟩ (fun b hb _ => heap_alloc_old w ob hb) (fun b o hb => by
    have h1 := di.le b o hb
    have h2 := di.le.lt (b := b) (by rw [hb]; simp)
    rw [heap_alloc_old w ob h2]; exact h1) (fun b hb => .inl hb)
  have hold : ∀ y ∈ S, y.d.k = 2 -> y.b = true -> X y.d.i -> ∃ b2 ob2 x2, (jL ρ e.h.next (w.heap.size, 0, 0)) y.h.next = some (b2, 0, 0) /\ b2 < w.heap.size /\ (w.alloc ob).heap[b2]? = some ob2 /\ η b2 = none /\ c.w0.heap.size <= b2 /\ y.h.new x2 = some y.h' /\ ∀ ρ', (jL ρ e.h.next (w.heap.size, 0, 0)).le ρ' -> OR c.P ρ' 0 0 x2 ob2 := fun y hy k b hX => by
    obtain ⟨b2, ob2, x2, r1, r2, r3, r4, r5, r6⟩ := di.ext y hy k b hX
    have hlt := (bP.1 r2).1
    exact ⟨b2, ob2, x2, hle _ _ r1, hlt, by rw [heap_alloc_old w ob hlt]; exact r2, r3, r4, r5, fun ρ' hl => r6 ρ' (fun i x h => hl _ _ (hle _ _ h))⟩
  refine ⟨di.cat, di.frm, di.lo, fun y hy hk => .inl (di.doneD y hy hk), fun y hy hk3 hX => ?_, di.hr.mono hle, Upd.comp di.upd ual, fun i x h => hle _ _ (di.rle _ _ h), fun n hn => ?_, fun y hy k b hX => ?_, fun y hy y' hy' k1 k2 b1 b2 x1 x2 bb e1 e2 => ?_, p1, p2, fun y hy hk hb hX => di.late y hy hk hb (fun h => hX (.inl h)), di.rck, p3, p4⟩
  · rcases hX with hX | hX
    · exact di.notS y hy hk3 hX
    · have := ok.uniq (hT y hy) (hT e he) hX; subst this
      rw [hk] at hk3; cases hk3
  · unfold jL at hn
    split at hn
    · rename_i e1
      exact .inr (.inr ⟨e, he, .inr rfl, hk, hb, e1⟩)
    · rcases di.rnew n hn with h1 | h1 | ⟨y, hy, q⟩
      · exact .inl h1
      · exact .inr (.inl h1)
      · exact .inr (.inr ⟨y, hy, .inl q.1, q.2⟩)
  · rcases hX with hX | hX
    · obtain ⟨b2, ob2, x2, r1, _, r2, r3⟩ := hold y hy k b hX
      exact ⟨b2, ob2, x2, r1, r2, r3⟩
    · have := ok.uniq (hT y hy) (hT e he) hX; subst this
      exact ⟨w.heap.size, ob, x, kI, heap_alloc_new w ob, pX di.le, di.upd.size.1, q1, fun ρ' hl => q4 ρ' (fun i x h => hl _ _ (hle _ _ h))⟩
  · have low : ∀ y ∈ S, y.d.k = 2 -> y.b = true -> X y.d.i -> ∀ bb, (jL ρ e.h.next (w.heap.size, 0, 0)) y.h.next = some (bb, 0, 0) -> bb < w.heap.size := fun y hy k b hX bb e3 => by
      obtain ⟨b2, ob2, x2, r1, r2, _⟩ := hold y hy k b hX
      rw [e3] at r1; cases r1; exact r2
    have new : ∀ y ∈ S, y.d.i = e.d.i -> ∀ bb, (jL ρ e.h.next (w.heap.size, 0, 0)) y.h.next = some (bb, 0, 0) -> bb = w.heap.size /\ y = e := fun y hy hX bb e3 => by
      have := ok.uniq (hT y hy) (hT e he) hX; subst this
      rw [kI] at e3; cases e3; exact ⟨rfl, rfl⟩
    rcases x1 with x1 | x1 <;> rcases x2 with x2 | x2
    · have n1 : ∀ y ∈ S, y.d.k = 2 -> y.b = true -> X y.d.i -> (jL ρ e.h.next (w.heap.size, 0, 0)) y.h.next = some (bb, 0, 0) -> ρ y.h.next = some (bb, 0, 0) := fun y hy k b hX e3 => by
        obtain ⟨b2, ob2, x2, r1, _⟩ := di.ext y hy k b hX
        have := hle _ _ r1
        rw [e3] at this; rw [r1, this]
      exact di.dis y hy y' hy' k1 k2 b1 b2 x1 x2 bb (n1 y hy k1 b1 x1 e1) (n1 y' hy' k2 b2 x2 e2)
    · have l1 := low y hy k1 b1 x1 bb e1
      have l2 := (new y' hy' x2 bb e2).1
      omega
    · have l1 := low y' hy' k2 b2 x2 bb e2
      have l2 := (new y hy x1 bb e1).1
      omega
    · rw [(new y hy x1 bb e1).2, (new y' hy' x2 bb e2).2]
theorem DIx.act (ok : c.OK) {e : Evt} (di : DIx c X D (e :: S) h ρ η a w) (cl : Clo c X) (hp : ∀ j ∈ e.d.ps, X j) (hx : ¬ X e.d.i) (hk : e.d.k = 3) (hb : e.b = true) {ρ' : Rn} {η' : PH} {w' : World} {u : Value} (hu : rn ρ' e.v = some u) (af : mE c.P ρ η w h e.h' ρ' η' w') :
    DIx c (XI X e.d.i) (D ++ [e]) S e.h' ρ' η' (a.put e.d.q.d u) w' := by
  obtain ⟨frS, t⟩ := di.frm
  obtain ⟨k1, k2, k3, k4, k5, fr1, k6, t1⟩ := t.head
  have hT : ∀ y ∈ S, y ∈ c.T := fun y hy => by rw [di.cat]; simp [hy]
  have heT : e ∈ c.T := by rw [di.cat]; simp
  obtain ⟨hr', hu', hx'⟩ := af
  have hle := hx'.1
  obtain ⟨p1, p2, p3, p4⟩ := di.put ok heT hle hu
  have hlt := t.lt ok.evn
  have heff : kU e.d.k = true := by rw [hk]; rfl
  have ne : ∀ y ∈ S, y.d.i ≠ e.d.i := fun y hy e1 => by
    have g := ok.good1 (A := D) (B := S) (e := e) di.cat
    obtain ⟨B1, B2, hB⟩ := dM hy
    have g2 := ok.good1 (A := D ++ e :: B1) (B := B2) (e := y) (by rw [di.cat, hB]; simp)
    exact g2.new (tX.2 ⟨e, by simp, e1.symm⟩)
  have backX : ∀ y ∈ S, XI X e.d.i y.d.i -> X y.d.i := fun y hy hX => hX.resolve_right (ne y hy)
  have ex : ∀ y ∈ S, y.d.k = 2 -> y.b = true -> X y.d.i -> ∃ b ob x, ρ y.h.next = some (b, 0, 0) /\ ρ' y.h.next = some (b, 0, 0) /\ w'.heap[b]? = some ob /\ η' b = none /\ c.w0.heap.size <= b /\ y.h.new x = some y.h' /\ ∀ ρ2, ρ'.le ρ2 -> OR c.P ρ2 0 0 x ob := fun y hy k b hX => by
    obtain ⟨b2, ob2, x2, r1, r2, r3, r4, r5, r6⟩ := di.ext y (by simp [hy]) k b hX
    have hlt2 := (bP.1 r2).1
    refine ⟨b2, ob2, x2, r1, hle _ _ r1, ?_, ?_, r4, r5, fun ρ2 hl => r6 ρ2 (fun i x h => hl _ _ (hle _ _ h))⟩
    · rw [hu'.keep b2 hlt2 (fun σ hσ => by simp at hσ; subst hσ; exact r3)]; exact r2
    · cases e2 : η' b2 with
      | none => rfl
      | some o2 =>
        rcases hu'.new η' (by simp) b2 (by rw [e2]; simp) with ⟨τ, hτ, h⟩ | h
        · simp at hτ; subst hτ; exact absurd r3 h
        · omega
  refine ⟨by rw [di.cat]; simp, ⟨fr1, t1⟩, cT di.lo hlt.1, fun y hy hky => ?_, fun y hy hk3 hX => di.notS y (by simp [hy]) hk3 (backX y hy hX), hr', Upd.comp di.upd hu', fun i x h => hle _ _ (di.rle _ _ h), fun n hn => ?_, fun y hy k b hX => ?_, fun y hy y' hy' k1 k2 b1 b2 x1 x2 bb e1 e2 => ?_, p1, p2, fun y hy hk1 hyb hyX => ?_, di.rck.2, p3, p4⟩
  · rcases aM.1 hy with hy | hy
    · exact .inl (di.doneD y hy hky)
    · simp at hy; subst hy; exact .inr rfl
  · rcases hx'.2 n hn with h1 | h1
    · rcases di.rnew n h1 with h1 | h1 | ⟨y, hy, h2, h3, h4⟩
      · exact .inl h1
      · exact .inr (.inl ⟨h1.1, by have := hlt.1; omega⟩)
      · rcases aE.1 hy with rfl | hy
        · exact absurd h2 hx
        · exact .inr (.inr ⟨y, hy, .inl h2, h3, h4⟩)
    · exact .inr (.inl ⟨cT di.lo h1.1, h1.2⟩)
  · obtain ⟨b2, ob2, x2, _, r1, r2, r3⟩ := ex y hy k b (backX y hy hX)
    exact ⟨b2, ob2, x2, r1, r2, r3⟩
  · obtain ⟨c1, _, _, r1, r2, _⟩ := ex y hy k1 b1 (backX y hy x1)
    obtain ⟨c2, _, _, s1, s2, _⟩ := ex y' hy' k2 b2 (backX y' hy' x2)
    rw [e1] at r2; cases r2;rw [e2] at s2; cases s2
    exact di.dis y (by simp [hy]) y' (by simp [hy']) k1 k2 b1 b2 (backX y hy x1) (backX y' hy' x2) bb r1 s1
  · rcases aM.1 hy with hy | hy
    · obtain ⟨r1, r2⟩ := di.late y hy hk1 hyb (fun h => hyX (.inl h))
      have hno : ¬ rE e.am y.d.i = true := fun hh => hyX (.inl (ok.ancs di.cat cl hp hh))
      refine ⟨(r2.1 heff hb).resolve_left hno, ?_⟩
      rcases r2.2 with ⟨_, _, h3⟩ | h3
      · exact absurd h3 hno
      · exact h3
    · simp at hy; subst hy; exact absurd (.inr rfl) hyX
theorem DIx.step (ok : c.OK) (cl : Clo c X) (di : DIx c X D S h ρ η a w) (hd : S = [] \/ ∃ e S', S = e :: S' /\ kU e.d.k = true /\ ¬ X e.d.i) {e : Evt} (he : e ∈ c.T) (hx : ¬ X e.d.i) (hp : ∀ j ∈ e.d.ps, X j) (hK : NextQ c X e.d.i K) :
    wpOpIn (gS r) 0 c.P c.ops Q e.d.i K a w := by
  obtain ⟨o, ho, hq, hps, hrs⟩ := (ok.dk he).o
  have hkk := (ok.dk he).k
  obtain ⟨hi, hdst⟩ := aV2 hq
  have hread := di.reads ok he hp
  rw [hrs] at hread
  obtain ⟨g1, g2, g3, g4⟩ := ok.tr.at he
  have hw := aSi hq g1 hread
  have hek := aWz hread
  unfold wpOpIn;rw [ho];simp only
  -- where it lies
  have inS : ∀ (hk : kU e.d.k = true), ∃ D1 S1, S = D1 ++ e :: S1 := fun hk => by
    have := he
    rw [di.cat] at this
    rcases aM.1 this with h1 | h1
    · exact absurd (di.doneD e h1 hk) hx
    · exact dM h1
  have first : e.d.k = 1 \/ e.d.k = 3 -> ∀ D1 S1, S = D1 ++ e :: S1 -> D1 = [] /\ kU e.d.k = true := fun hk D1 S1 hS => by
    rcases hd with hd | ⟨e0, S0, hS0, h1, h2⟩
    · rw [hd] at hS; cases D1 <;> cases hS
    · cases D1 with
      | nil => rw [hS0] at hS; cases hS; exact ⟨rfl, h1⟩
      | cons y D1 =>
        rw [hS0] at hS; cases hS
        exact absurd (ok.effs (A := D ++ e0 :: D1) (B := S1) (by rw [di.cat, hS0]; simp) cl hp hk (by simp) h1) h2
  cases hb : e.b with
  | false =>
    rw [hb] at hw;simp only [hw, eK, if_false]
    refine ⟨fun _ _ => trivial, ?_⟩
    have hv := (g3 hb).1
    rw [← hdst]
    by_cases hk : e.d.k = 3
    · obtain ⟨D1, S1, hS⟩ := inS (by rw [hk]; rfl)
      obtain ⟨rfl, _⟩ := first (.inr hk) D1 S1 hS
      simp only [aH] at hS;subst hS
      have heff : kU e.d.k = true := by rw [hk]; rfl
      have cl' : Clo c (XI X e.d.i) := fun y hy hX j hj => by
        rcases hX with hX | hX
        · exact .inl (cl y hy hX j hj)
        · have := ok.uniq hy he hX; subst this; exact .inl (hp j hj)
      -- passed first, then the slot
      have d0 : DIx c (XI X e.d.i) (D ++ [e]) S1 h ρ η (a.put e.d.q.d undef) w := by
        obtain ⟨frS, t⟩ := di.frm
        obtain ⟨k1, k2, k3, k4, k5, fr1, k6, t1⟩ := t.head
        have hsame := (k5 hb).2
        obtain ⟨p1, p2, p3, p4⟩ := di.put ok he (fun _ _ h => h) (u := undef) (by rw [hv]; rfl)
        have hT : ∀ y ∈ S1, y ∈ c.T := fun y hy => by rw [di.cat]; simp [hy]
        have ne : ∀ y ∈ S1, y.d.i ≠ e.d.i := fun y hy e1 => by
          obtain ⟨B1, B2, hB⟩ := dM hy
          have g2 := ok.good1 (A := D ++ e :: B1) (B := B2) (e := y) (by rw [di.cat, hB]; simp)
          exact g2.new (tX.2 ⟨e, by simp, e1.symm⟩)
        have backX : ∀ y ∈ S1, XI X e.d.i y.d.i -> X y.d.i := fun y hy hX => hX.resolve_right (ne y hy)
        refine ⟨by rw [di.cat]; simp, ⟨fr1, by rw [← hsame]; exact t1⟩, di.lo, fun y hy hky => ?_, fun y hy hk3 hX => di.notS y (by simp [hy]) hk3 (backX y hy hX), di.hr, di.upd, di.rle, fun n hn => ?_, fun y hy k b hX => di.ext y (by simp [hy]) k b (backX y hy hX), fun y hy y' hy' k1 k2 b1 b2 x1 x2 => di.dis y (by simp [hy]) y' (by simp [hy']) k1 k2 b1 b2 (backX y hy x1) (backX y' hy' x2), p1, p2, fun y hy hk1 hyb hyX => ?_, di.rck.2, p3, p4⟩
        · rcases aM.1 hy with hy | hy
          · exact .inl (di.doneD y hy hky)
          · simp at hy; subst hy; exact .inr rfl
        · rcases di.rnew n hn with h1 | h1 | ⟨y, hy, h2, h3, h4⟩
          · exact .inl h1
          · exact .inr (.inl h1)
          · rcases aE.1 hy with rfl | hy
            · exact absurd h2 hx
            · exact .inr (.inr ⟨y, hy, .inl h2, h3, h4⟩)
        · rcases aM.1 hy with hy | hy
          · obtain ⟨r1, r2⟩ := di.late y hy hk1 hyb (fun h => hyX (.inl h))
            refine ⟨r1, ?_⟩
            rcases r2.2 with ⟨_, h2, _⟩ | h3
            · rw [hb] at h2; cases h2
            · exact h3
          · simp at hy; subst hy; exact absurd (.inr rfl) hyX
      exact hK _ _ _ _ _ _ _ d0
    · exact hK _ _ _ _ _ _ _ (di.quiet ok he hx (by rw [hv]; rfl) (fun h => absurd h hk) (fun _ => hb))
  | true =>
    rw [hb] at hw;simp only [hw, if_true]
    have hev := g2 hb
    rcases ok.kk he with hk | hk | hk | hk
    · -- vA alone
      have hrd := aSh (i := e.d.q.i) (by rw [← hkk, hk]; rfl)
      obtain ⟨e1, _⟩ := aV5 hrd hev
      rw [cls0 (by rw [← hkk, hk]) e.fr e.h h] at e1
      obtain ⟨u, q1, q2⟩ := aFo (w := w) hi e1 di.hr di.le trivial hek
      refine ⟨fun _ _ => trivial, ?_⟩
      rw [Oper.semAt_eq _ _ _ (sH hi), q2]
      show K (a.put o.dst u) _
      rw [← hdst]
      exact hK _ _ _ _ _ _ _ (di.quiet ok he hx q1 (fun h => by rw [hk] at h; cases h) (fun h => by rw [hk] at h; cases h))
    · -- a read
      have hD : e ∈ D := by
        have := he
        rw [di.cat] at this
        rcases aM.1 this with h1 | h1
        · exact h1
        · obtain ⟨D1, S1, hS⟩ := dM h1
          have := (first (.inl hk) D1 S1 hS).2
          rw [hk] at this; cases this
      obtain ⟨e1, _⟩ := di.late e hD hk hb hx
      obtain ⟨u, q1, q2⟩ := aFo (w := w) hi e1 di.hr di.le trivial hek
      refine ⟨fun _ _ => trivial, ?_⟩
      rw [Oper.semAt_eq _ _ _ (sH hi), q2]
      show K (a.put o.dst u) _
      rw [← hdst]
      exact hK _ _ _ _ _ _ _ (di.quiet ok he hx q1 (fun h => by rw [hk] at h; cases h) (fun h => by rw [hk] at h; cases h))
    · -- a new block
      obtain ⟨D1, S1, hS⟩ := inS (by rw [hk]; rfl)
      obtain ⟨x, ob, u, q1, q2, q3, q4⟩ := aWx (w := w) hi (by rw [← hkk, hk]) hev hek
      have hnx := (AH.get_new q1).2
      have hpos : h.next <= e.h.next /\ e.h'.next <= c.hN.next := by
        obtain ⟨frS, t⟩ := di.frm
        rw [hS] at t
        obtain ⟨fr2, h2, t2, t3⟩ := t.split
        have := t2.next ok.evn
        have h3 := (t3.lt ok.evn).2.1
        rw [t3.head.2.1];exact ⟨this, h3⟩
      have hn : ρ e.h.next = none := by
        cases e2 : ρ e.h.next with
        | none => rfl
        | some z =>
          exfalso
          rcases di.rnew e.h.next (by rw [e2]; simp) with h1 | h1 | ⟨y, hy, h2, h3, h4, h5⟩
          · exact h1 (ok.fresh _ (cT di.lo hpos.1) (by omega))
          · omega
          · -- another that came early bears another number
            obtain ⟨b, ob, x', _, _, _, _, r5, _⟩ := di.ext y hy h3 h4 h2
            have hny := (AH.get_new r5).2
            obtain ⟨frS, t⟩ := di.frm
            rw [hS] at t hy
            rcases aM.1 hy with hy | hy
            · obtain ⟨B1, B2, hB⟩ := dM hy
              rw [hB, aR] at t
              obtain ⟨fr3, h3', _, t3⟩ := t.split
              have := (t3.lt ok.evn).2.2 e (by simp)
              omega
            · rcases aE.1 hy with rfl | hy
              · exact hx h2
              · obtain ⟨fr3, h3', _, t3⟩ := t.split
                have := (t3.lt ok.evn).2.2 y hy
                omega
      refine ⟨fun _ _ => trivial, ?_⟩
      rw [Oper.semAt_eq _ _ _ (sH hi), q2]
      show K (a.put o.dst u) _
      rw [← hdst]
      exact hK _ _ _ _ _ _ _ (di.early ok (by rw [hS]; simp) hx hk hb hn q1 q3 q4)
    · -- an act
      obtain ⟨D1, S1, hS⟩ := inS (by rw [hk]; rfl)
      obtain ⟨rfl, _⟩ := first (.inr hk) D1 S1 hS
      simp only [aH] at hS;subst hS
      have hh : e.h = h := by obtain ⟨frS, t⟩ := di.frm; exact t.head.2.1
      have hnN : e.h'.next <= c.hN.next := by obtain ⟨frS, t⟩ := di.frm; exact (t.lt ok.evn).2.1
      rw [hh] at hev
      refine aV3 ok.cf ok.yf hi hev rfl trivial hek di.hr di.le (fun n n1 n2 => ?_) (fun u ρ' η' w' s1 s2 => ?_)
      · cases e2 : ρ n with
        | none => rfl
        | some z =>
          exfalso
          rcases di.rnew n (by rw [e2]; simp) with h1 | h1 | ⟨y, hy, h2, h3, h4, h5⟩
          · exact h1 (ok.fresh _ (cT di.lo n1) (by omega))
          · omega
          · obtain ⟨frS, t⟩ := di.frm
            rcases aE.1 hy with rfl | hy
            · exact hx h2
            · have := (t.lt ok.evn).2.2 y hy
              omega
      · rw [← hdst]
        exact hK _ _ _ _ _ _ _ (di.act ok cl hp hx hk hb s1 s2)
end
end Go.Ev
