/- Texts of this proof, one after the other; no conditions. -/
import Derived.Test.YtnijkofdlepfjaaGreatWA
import Derived.Test.YtnijkofdlepfjaaGreatProg
import Derived.LaidMore
import Derived.Lay
import Derived.Test.YtnijkofdlepfjaaGreatWB17
import Derived.Test.YtnijkofdlepfjaaGreatWB5
import Derived.Test.YtnijkofdlepfjaaGreatWB3
import Derived.Test.YtnijkofdlepfjaaGreatWB7
import Derived.Test.YtnijkofdlepfjaaGreatWB13
set_option linter.all false
namespace Go.Ev
open Go.Eng
section
section
variable {c : RC} {r : Option Nat} {Q : Exit -> Act -> World -> Prop}
theorem aNt {listed : Array Bool} {j : Nat} (h : listed.getD j false = true) : j < listed.size := by
  cases hb : listed[j]? with
  | none => simp [aP, hb] at h
  | some b => exact (bP.1 hb).1
theorem wI (ok : c.OK) {e : Evt} (he : e ∈ c.T) : iG c.ops e.d.i = e.d.ps /\ e.d.i < c.ops.size := by
  obtain ⟨o, ho, _, hps, _⟩ := (ok.dk he).o
  refine ⟨?_, (bP.1 ho).1⟩;unfold iG;rw [ho, hps]; rfl
theorem aCo (ok : c.OK) {listed : Array Bool} (hs : listed.size = c.ops.size) : ∀ {B A : List Evt}, c.T = A ++ B -> (∀ y ∈ A, isL listed y.d.i) -> (∃ y ∈ B, ¬ isL listed y.d.i) -> ∃ m, m ∈ Region.ready .any c.ops listed
  | [], A, hT, hA, ⟨y, hy, _⟩ => by cases hy
  | e :: B, A, hT, hA, ⟨y, hy, hyn⟩ => by
    by_cases hl : isL listed e.d.i
    · refine aCo ok hs (B := B) (A := A ++ [e]) (by rw [hT]; simp) (fun z hz => ?_) ⟨y, ?_, hyn⟩
      · rcases aM.1 hz with hz | hz
        · exact hA z hz
        · simp at hz; subst hz; exact hl
      · rcases aE.1 hy with rfl | hy
        · exact absurd hl hyn
        · exact hy
    · have he : e ∈ c.T := by rw [hT]; simp
      obtain ⟨h1, h2⟩ := wI ok he
      refine ⟨e.d.i, Eng.mem_ready.2 ⟨h2, hl, fun j hj => ?_⟩⟩
      rw [h1] at hj
      obtain ⟨y', hy', hyi⟩ := tX.1 ((ok.good1 hT).pre j hj)
      have hyT : y' ∈ c.T := by rw [hT]; simp [hy']
      rw [← hyi];exact (kS hs (wI ok hyT).2).2 (hA y' hy')
theorem aXf (ok : c.OK) (hQ : ∀ ρ η a w, HR c.P ρ c.hN η -> Upd [c.η0] [η] c.w0 w -> Ext c.ρ0 ρ c.h0.next c.hN.next -> a.tmps.size = c.M -> a.defers = c.df -> FK ρ c.frN (fun t => a.tmps.getD t undef) -> Q .normal a w) :
    ∀ fuel (listed : Array Bool) a w, listed.size = c.ops.size -> Clo c (isL listed) -> ((List.range c.ops.size).filter fun i => !listed.getD i true).length <= fuel -> (∃ D S h ρ η, DIx c (isL listed) D S h ρ η a w) ->
      wpAnyIn (gS r) 0 c.P .any c.ops Q fuel listed a w := by
  have fin : ∀ (listed : Array Bool) a w, listed.size = c.ops.size -> Clo c (isL listed) -> (∃ D S h ρ η, DIx c (isL listed) D S h ρ η a w) -> Region.ready .any c.ops listed = [] -> Q .normal a w := by
    intro listed a w hs cl ⟨D, S, h, ρ, η, di⟩ hr
    obtain ⟨D', S', h', η', di', hd⟩ := di.advance ok cl
    have hall : ∀ y ∈ c.T, isL listed y.d.i := fun y hy => Classical.byContradiction fun hn => by
      obtain ⟨m, hm⟩ := aCo ok hs (A := []) (B := c.T) rfl (fun _ h => by cases h) ⟨y, hy, hn⟩
      rw [hr] at hm; cases hm
    have hS : S' = [] := by
      rcases hd with hd | ⟨e, S'', rfl, _, h2⟩
      · exact hd
      · exact absurd (hall e (by rw [di'.cat]; simp)) h2
    subst hS
    obtain ⟨frS, t⟩ := di'.frm
    cases t
    refine hQ ρ η' a w di'.hr di'.upd ⟨di'.rle, fun n hn => ?_⟩ di'.size di'.dfr (fun t v hv => ?_)
    · rcases di'.rnew n hn with h1 | h1 | ⟨y, hy, _⟩
      · exact .inl h1
      · exact .inr h1
      · cases hy
    · rcases ok.tr.get t v hv with ⟨y, hy, h2, h3⟩ | ⟨h2, h3⟩
      · rw [← h3]; exact di'.vals y hy (hall y hy) t h2
      · exact di'.base t h3 v h2
  intro fuel
  induction fuel with
  | zero =>
    intro listed a w hs cl hf hd
    have hr : Region.ready .any c.ops listed = [] := by
      cases hr : Region.ready .any c.ops listed with
      | nil => rfl
      | cons m l =>
        exfalso
        obtain ⟨h1, h2, _⟩ := Eng.mem_ready.1 (show m ∈ Region.ready .any c.ops listed by rw [hr]; simp)
        have : m ∈ (List.range c.ops.size).filter fun i => !listed.getD i true := by
          rw [bT]
          exact ⟨by simpa using h1, by unfold isL at h2; simpa using h2⟩
        have := List.length_pos_of_mem this
        omega
    exact ⟨hr, fin listed a w hs cl hd hr⟩
  | succ fuel ih =>
    intro listed a w hs cl hf hdi
    refine ⟨fun hr => fin listed a w hs cl hdi hr, fun m hm => ?_⟩
    obtain ⟨D, S, h, ρ, η, di⟩ := hdi
    obtain ⟨D', S', h', η', di', hd⟩ := di.advance ok cl
    obtain ⟨h1, h2, h3⟩ := Eng.mem_ready.1 hm
    obtain ⟨e, he, rfl⟩ := ok.cov h1
    obtain ⟨p1, p2⟩ := wI ok he
    rw [p1] at h3
    have hms : e.d.i < listed.size := by rw [hs]; exact h1
    have hX : (XI (isL listed) e.d.i) = isL (listed.setIfInBounds e.d.i true) := funext fun j => propext (by rw [gB hms]; exact Or.comm)
    refine di'.step ok cl hd he h2 (fun j hj => (kS hs (by rw [← hs]; exact aNt (h3 j hj))).1 (h3 j hj)) (fun D2 S2 h2' ρ2 η2 a2 w2 d2 => ?_)
    rw [hX] at d2
    refine ih _ a2 w2 (by simp [hs]) (fun y hy hy2 j hj => ?_) ?_ ⟨D2, S2, h2', ρ2, η2, d2⟩
    · rw [← hX] at hy2 ⊢
      rcases hy2 with hy2 | hy2
      · exact .inl (cl y hy hy2 j hj)
      · have := ok.uniq hy he hy2; subst this
        exact .inl ((kS hs (by rw [← hs]; exact aNt (h3 j hj))).1 (h3 j hj))
    · have := Eng.filter_lt (l := List.range c.ops.size) (p := fun i => !listed.getD i true) (q := fun i => !(listed.setIfInBounds e.d.i true).getD i true) (i := e.d.i) (by simpa using h1) (by unfold isL at h2; simpa using h2)
        (by
          have : isL (listed.setIfInBounds e.d.i true) e.d.i := (gB hms).2 (.inl rfl)
          unfold isL at this; simp only [this, Bool.not_true])
        (fun j hj => by
          simp only [dH] at hj ⊢
          have h5 : ¬ isL (listed.setIfInBounds e.d.i true) j := by unfold isL; simp [hj]
          have h6 : ¬ isL listed j := fun h => h5 ((gB hms).2 (.inr h))
          unfold isL at h6; simpa using h6)
      omega
end
section
variable {P : Program}
theorem aU6 {n i : Nat} (h : i < n) : ¬ isL (Array.replicate n false) i := by
  unfold isL; simp [aP, h]
theorem aU7 (hmx : P.follows .mixedOrders = true) {m : Mac} (hm : MOK P m) {cc : Cc} {id : Nat} {ops : Array Oper} {s s' : St} {e : Ex} (h : stDr cc.M m (drawn (aOj P ops 0 ops.toList)) s = some (e, s')) : s.h.next <= s'.h.next /\
    ∀ ρ η a w r Q, RK ρ cc.rd r -> SI P cc.M ρ s η a w -> Fresh ρ s.h.next s'.h.next -> tW P cc.M ρ η w s.h.next e s' Q -> (Code.region id ops true).wpIn (gS r) 0 P Q a w := by
  unfold stDr at h
  split at h
  · rename_i l hl
    obtain ⟨fr, h', h1, rfl, rfl⟩ := aBd h
    obtain ⟨sl, sch⟩ := aSe hl
    obtain ⟨T, t1, t2, t3, _⟩ := zV h1
    have evn : ∀ fr h i v h', uZ m.f m.y fr h i = some (v, h') -> h.next <= h'.next := fun _ _ _ _ _ e => xF hm.f hm.y e
    refine ⟨t1.next evn, fun ρ η a w r Q hr si hf hq => wpIn_region_any hmx ?_⟩
    let w0 : World := { w with drawn := w.drawn + 1 }
    have u0 : Upd [η] [η] w w0 := Upd.one ⟨aK _, rfl, rfl, rfl, Nat.le_succ _⟩ (fun _ _ _ => rfl) si.le (fun _ h => .inl h)
    let c : RC := ⟨P, ops, sl, cc.M, m.f, m.y, T, s.fr, s.h, fr, h', ρ, η, w0, a.defers⟩
    have ok : c.OK := ⟨hm.f, hm.y, by show aM4 P ops sl (T.map pr); rw [t2]; exact sch, t1, hf⟩
    have hno : ∀ y ∈ c.T, ¬ isL (Array.replicate ops.size false) y.d.i := fun y hy => aU6 (wI ok hy).2
    refine aXf (c := c) ok (fun ρ' η' a' w' k1 k2 k3 k4 k5 k6 => ?_) ops.size _ a w0 (by simp [c]) (fun y hy hX => absurd hX (hno y hy)) ?_ ⟨[], T, s.h, ρ, η, ?_⟩
    · have u1 : Upd [η] [η'] w w' := Upd.comp u0 k2
      have k3 : Ext ρ ρ' s.h.next h'.next := k3
      exact hq ρ' η' a' w' ⟨k4, k6, by rw [show a'.defers = a.defers from k5]; exact si.mks.mono k3.1, k1, u1.own _ (by simp)⟩ u1 k3
    · refine cT (cD _ _) (by simp [c])
    · exact ⟨rfl, ⟨s.fr, t1⟩, aK _, (fun y hy => by cases hy), (fun y hy _ => hno y hy), si.hr, lX (w := w0) si.le, (fun _ _ h => h), (fun n hn => .inl hn), (fun y hy _ _ hX => absurd hX (hno y hy)), (fun y hy _ _ _ _ _ _ hX => absurd hX (hno y hy)), (fun y hy hX => absurd hX (hno y hy)), (fun t _ v hv => si.fk t v hv), (fun y hy => by cases hy), t3, si.size, rfl⟩
  · cases h
theorem aXg (hmx : P.follows .mixedOrders = true) {m : Mac} (hm : MOK P m) : COK P (stC P m) := by
  intro cc cd s e s' h
  cases cd with
  | skip => cases h; exact ⟨aK _, fun ρ η a w r Q hr si hf hq => wpIn_skip (hq ρ η a w si (lX si.le) Ext.refl)⟩
  | region id ops d =>
    cases d with
    | false => exact aR7 hm h
    | true => exact aU7 hmx hm h
  | seq x y => exact aWt hm h
  | cond x p q => exact aUm hm h
  | block id b => exact aR6 hm h
  | loop b =>
    obtain ⟨n1, n, g⟩ := hm.l _ _ _ _ _ (show m.l cc b s = some (e, s') from h)
    exact ⟨n1, fun ρ η a w r Q hr si hf hq => wpIn_loop_rounds n (g ρ η a w r Q hr si hf hq)⟩
  | exit id => cases h; exact ⟨aK _, fun ρ η a w r Q hr si hf hq => wpIn_exit (hq ρ η a w si (lX si.le) Ext.refl)⟩
  | ret => cases h; exact ⟨aK _, fun ρ η a w r Q hr si hf hq => wpIn_ret (hq ρ η a w si (lX si.le) Ext.refl)⟩
  | rangeFunc f ps asg body =>
    simp only [stC] at h
    split at h
    · rename_i d hd; exact aSa hm hd h
    · cases h
  | _ => cases h
theorem aCp {orc : iA} (ho : FOK P orc) (hP : ∀ (f : FuncId) (fn : Func), P.funcs[f]? = some fn -> (fn.name == "runtime.NumGoroutine") = false) (hmx : P.follows .mixedOrders = true) : ∀ n, MOK P (mac P orc n)
  | 0 => ⟨(fun _ _ _ _ _ h => by cases h), (fun _ _ _ _ _ h => by cases h), (fun _ _ _ _ _ h => by cases h), (fun _ _ _ _ _ h => by cases h)⟩
  | n + 1 =>
    have ih := aCp ho hP hmx n
    ⟨aXg hmx ih, aWv ih ho hP, aWw ih, fun _ _ _ _ _ h => aUl ih h⟩
theorem aTs : FOK P aVx := fun _ _ _ _ _ h => by cases h
theorem wJ : HR P (fun _ => none) ⟨0, .e⟩ (fun _ => none) := ⟨(fun i a h => by cases h), (fun b h => absurd rfl h), (fun i j b s e s' e' h => absurd rfl h)⟩
theorem aCq {orc : iA} {n : Nat} (hm : MOK P (mac P orc n)) {f : FuncId} {v : Value} {h' : AH} (h : (mac P orc n).f f [] ⟨0, .e⟩ = some (v, h')) (hv : gR v = true) (w : World) :
    (callFunc f #[]).run P w = .ok (.enter f #[]) w /\ CallsIn Fence.wide 0 P f #[] w (fun e w' => e = .returned v /\ w.heap.size <= w'.heap.size /\ w'.os = w.os /\ w'.output = w.output /\ w'.tape = w.tape /\ w.drawn <= w'.drawn /\ ∀ b, b < w.heap.size -> w'.heap[b]? = w.heap[b]?) := by
  obtain ⟨c1, c2⟩ := (hm.f _ _ _ _ _ h).2 (fun _ => none) (fun _ => none) w [] wJ (fun b o hb => by cases hb) (fun i _ _ => rfl) rfl
  refine ⟨c1, CallsIn.mono c2 ?_⟩;rintro e w' ⟨u, rfl, ρ', η', k1, k2, k3, k4⟩;rw [iM hv] at k1
  cases k1
  exact ⟨rfl, k3.size.1, k3.size.2.1, k3.size.2.2.1, k3.size.2.2.2.1, k3.size.2.2.2.2, fun b hb => k3.keep b hb (fun σ hσ => by simp at hσ; subst hσ; rfl)⟩
theorem aKe {orc : iA} {n : Nat} (hm : MOK P (mac P orc n)) {f : FuncId} {v : Value} {h' : AH} (h : (mac P orc n).f f [] ⟨0, .e⟩ = some (v, h')) (hv : gR v = true) : Eng.Spec P (.func (.func f) #[] #[]) [] [] [] (fun u H' => H' = [] /\ u = v) := by
  intro N w _
  unfold kG
  obtain ⟨c1, c2⟩ := aCq hm h hv w
  have hrun : ((do let d ← Deferred.ofValue (.func (.func f) #[] #[]) ([] : List Value).toArray; invoke d.target d.args : Sem Next).run P w) = .ok (.enter f #[]) w := by
    rw [← c1]
    simp [Deferred.ofValue, invoke]
  rw [hrun];refine CallsIn.mono c2 ?_;rintro e w' ⟨rfl, k1, k2, k3, k4, k5, k6⟩
  exact ⟨v, rfl, [], ⟨rfl, rfl⟩, ⟨⟨k1, k2, k3, k4, k5⟩, fun b hb _ => k6 b hb, (fun ρ hρ => by cases hρ), .nil, (fun ρ hρ => by cases hρ)⟩⟩
def aEv (f : FuncId) (v : Value) : iA := fun g vs h => match vs with
  | [] => bif Nat.beq g f then some (v, h) else none
  | _ => none
theorem aTt {orc : iA} {n : Nat} (hm : MOK P (mac P orc n)) {f : FuncId} {v : Value} {h' : AH} (h : (mac P orc n).f f [] ⟨0, .e⟩ = some (v, h')) (hv : gR v = true) : FOK P (aEv f v) := by
  intro g vs h0 u h1 e
  unfold aEv at e
  split at e
  · cases hb : Nat.beq g f with
    | false => rw [hb] at e; cases e
    | true =>
      rw [hb, cond_true] at e
      cases e
      have := aO hb
      subst this
      refine ⟨aK _, fun ρ η w us hr hw _ hu => ?_⟩
      cases hu
      obtain ⟨c1, c2⟩ := aCq hm h hv w
      refine ⟨c1, CallsIn.mono c2 ?_⟩;rintro e w' ⟨rfl, k1, k2, k3, k4, k5, k6⟩
      refine ⟨_, rfl, ρ, η, iM hv, hr, Upd.one ⟨k1, k2, k3, k4, k5⟩ (fun b hb _ => k6 b hb) (fun b o hb => ?_) (fun b hb => .inl hb), Ext.refl⟩
      rw [k6 b (hw.lt (b := b) (by rw [hb]; simp))]
      exact hw b o hb
  · cases e
end
end
variable {P : Program}
noncomputable section
def oneB (c : List Value) (t : TypeId) : AH := (AH.new ⟨0, .e⟩ (.cells c t)).getD ⟨0, .e⟩
def wordV (m : Mac) (wd : FuncId) (el : TypeId) (k : ByteArray) : Option Int := match yO ⟨0, .e⟩ el (some (.string k)) with
  | some (v, h1) => match m.f wd [v] h1 with
    | some (.int .u64 n, _) => some n
    | _ => none
  | none => none
def aNu : Code -> Option Code
  | .seq (.region _ _ false) (.seq (.region _ _ true) c) => some c
  | _ => none
def aTu (M : Nat) : List (Nat × Value) -> Fr -> Option Fr
  | [], fr => some fr
  | (d, v) :: l, fr => match nW M fr (some d) v with
    | some fr' => aTu M l fr'
    | none => none
def aG3 (P : Program) (fn : Func) : Option (Ex × St) -> Option Value
  | some (.ret, s) => match pT s.ms s.h with
    | some h2 => match tG s.fr h2 P fn.results.toList with
      | some [v] => bif gR v then some v else none
      | _ => none
    | none => none
  | _ => none
def restOf (P : Program) (m : Mac) (tg : FuncId) (fn : Func) (l : List (Nat × Value)) : Option Value := match fn.body.bind aNu, aTu fn.ntmps l .e with
  | some c, some fr => aG3 P fn (m.c ⟨tg, fn.ntmps, none⟩ c ⟨fr, ⟨0, .e⟩, []⟩)
  | _, _ => none
def aAj : List (Nat × Value) -> Bool
  | [] => true
  | (_, v) :: l => gR v && aAj l
def aMc (P : Program) (m : Mac) (tg : FuncId) (k t : ByteArray) (a b : Option Int) : Option Value := match a, b, P.funcs[tg]? with
  | some a, some b, some fn => restOf P m tg fn [(0, .string k), (1, .string t), (4, .string ⟨⟨[]⟩⟩), (5, .int .u64 a), (6, .int .u64 b)]
  | _, _, _ => none
def aTv (h : AH) : Option Value -> Option (Value × AH)
  | some v => some (v, h)
  | none => none
def tagO (P : Program) (m : Mac) (tg wd : FuncId) (el : TypeId) : iA := fun f vs h => bif Nat.beq f tg then match vs with
  | [.string k, .string t] => bif Nat.ble 8 k.data.toList.length then aTv h (aMc P m tg k t (wordV m wd el k) (wordV m wd el ⟨⟨k.data.toList.drop 8⟩⟩)) else none
  | _ => none else none
def aNv (h2 : AH) : Option (Value × AH) -> Option (Value × AH)
  | some (.tuple ⟨[.string s, .int .i64 e]⟩, _) => some (.tuple ⟨[.string s, .int .i64 e]⟩, h2)
  | _ => none
def aTw (m : Mac) (ch : FuncId) (el : TypeId) (n : Int) (k : ByteArray) : Option (Value × AH) -> Option (Value × AH)
  | some (.string d, h2) => aNv h2 (m.f ch [.string k, .slice (some ⟨0, 0, none⟩) 2 2] (oneB [.string ⟨⟨[UInt8.ofNat (wr .u8 n).toNat]⟩⟩, .string d] el))
  | _ => none
def signO (m : Mac) (sg dg ch : FuncId) (el : TypeId) : iA := fun f vs h => bif Nat.beq f sg then match vs with
  | [.agg ⟨l⟩, .int .i64 n, .string k] => bif l.length.beq 12 then aTw m ch el n k (m.f dg [.agg ⟨l⟩] h) else none
  | _ => none else none
def aNw : List (List UInt8 × List UInt8 × List UInt8) -> List UInt8 -> List UInt8 -> Option Value
  | [], _, _ => none
  | (a, b, c) :: l, k, t => bif beB a k && beB b t then some (.string ⟨⟨c⟩⟩) else aNw l k t
def tabO (tg : FuncId) (tab : List (List UInt8 × List UInt8 × List UInt8)) : iA := fun f vs h => bif Nat.beq f tg then match vs with
  | [.string k, .string t] => aTv h (aNw tab k.data.toList t.data.toList)
  | _ => none else none
def orO (a b : iA) : iA := fun f vs h => match a f vs h with
  | some r => some r
  | none => b f vs h
end
theorem aMd {a b : iA} (ha : FOK P a) (hb : FOK P b) : FOK P (orO a b) := by
  intro f vs h v h' e
  unfold orO at e
  split at e
  · rename_i r hr
    cases e
    exact ha _ _ _ _ _ hr
  · exact hb _ _ _ _ _ e
def EvR (P : Program) (h : AH) (v u : Value) (η : PH) : Prop := ∃ ρ : Rn, rn ρ v = some u /\ HR P ρ h η /\ ∀ i, h.next <= i -> ρ i = none
theorem aNx {η η' : PH} {w w' : World} (u : Upd [η] [η'] w w') : Upd [η] [] w w' := ⟨u.size, u.keep, by simp, by simp, by simp⟩
theorem fok_spec {cf : iA} (hc : FOK P cf) {f : FuncId} {h h' : AH} {vs us : List Value} {v : Value} (e : cf f vs h = some (v, h')) {ρ : Rn} {η : PH} (hr : HR P ρ h η) (hf : Fresh ρ h.next h'.next) (hu : rnL ρ vs = some us) :
    Eng.Spec P (.func (.func f) #[] #[]) us [] [η] (fun u H' => ∃ ρ' η', rn ρ' v = some u /\ HR P ρ' h' η' /\ Ext ρ ρ' h.next h'.next /\ H' = [η']) := by
  intro N w hs
  unfold kG
  obtain ⟨c1, c2⟩ := (hc _ _ _ _ _ e).2 ρ η w us hr (hs.h η (by simp)) hf hu
  have hrun : ((do let d ← Deferred.ofValue (.func (.func f) #[] #[]) us.toArray; invoke d.target d.args : Sem Next).run P w) = .ok (.enter f us.toArray) w := by
    rw [← c1]
    simp [Deferred.ofValue, invoke]
  rw [hrun];refine CallsIn.mono c2 ?_;rintro e w' ⟨u, rfl, ρ', η', k1, k2, k3, k4⟩;exact ⟨u, rfl, [η'], ⟨ρ', η', k1, k2, k4, rfl⟩, k3⟩
theorem fok_spec1 {cf : iA} (hc : FOK P cf) {f : FuncId} {h h' : AH} {v u y : Value} (e : cf f [v] h = some (y, h')) (hy : gR y = true) {η : PH} (r : EvR P h v u η) :
    Eng.Spec P (.func (.func f) #[] #[]) [u] [] [η] (fun x H' => x = y /\ H' = []) := by
  obtain ⟨ρ, r1, r2, r3⟩ := r
  intro N w hs
  refine (fok_spec hc e r2 (fun i h1 _ => r3 i h1) (rnL_cons.2 ⟨_, _, r1, rnL_nil, rfl⟩) N w hs).mono ?_
  rintro x w' ⟨H', ⟨ρ', η', k1, _, _, rfl⟩, u⟩;rw [iM hy] at k1
  cases k1
  exact ⟨[], ⟨rfl, rfl⟩, aNx u⟩
theorem fok_of_spec {f : FuncId} {fn : Func} {c : Code} (hfn : P.funcs[f]? = some fn) (hb : fn.body = some c) (hname : (fn.name == "runtime.NumGoroutine") = false) {us : List Value} {v : Value} {h h' : AH} {ρ : Rn} {η : PH}
    (hs : Eng.Spec P (.func (.func f) #[] #[]) us [] [η] (fun u H' => ∃ ρ' η', rn ρ' v = some u /\ HR P ρ' h' η' /\ Ext ρ ρ' h.next h'.next /\ H' = [η'])) {w : World} (hw : η.le w) :
    (callFunc f us.toArray).run P w = .ok (.enter f us.toArray) w /\ CallsIn Fence.wide 0 P f us.toArray w (fun e w' => ∃ u, e = .returned u /\ ∃ ρ' η', rn ρ' v = some u /\ mE P ρ η w h h' ρ' η' w') := by
  have hcf : (callFunc f us.toArray).run P w = .ok (.enter f us.toArray) w := by
    have hname' : ¬ fn.name = "runtime.NumGoroutine" := by simpa using hname
    simp [callFunc, program, Sem.run, bind, Sem.bind, pure, hfn, hb, hname']
  refine ⟨hcf, ?_⟩
  have hsat : Sat (.of w) [] [η] w := ⟨⟨aK _, rfl, rfl, rfl, aK _⟩, by simp, by simpa using hw, by simp, by simp⟩
  have h1 := hs (.of w) w hsat
  unfold kG at h1
  have hrun : ((do let d ← Deferred.ofValue (.func (.func f) #[] #[]) us.toArray; invoke d.target d.args : Sem Next).run P w) = .ok (.enter f us.toArray) w := by
    rw [← hcf]
    simp [Deferred.ofValue, invoke]
  rw [hrun] at h1;refine CallsIn.mono h1 ?_;rintro e w' ⟨u, rfl, H', ⟨ρ', η', k1, k2, k3, rfl⟩, k5⟩;exact ⟨u, rfl, ρ', η', k1, k2, k5, k3⟩
theorem spec_frame {f : Value} {us : List Value} {v : Value} {h : AH} {ρ : Rn} {η : PH} (hv : gR v = true) (hr : HR P ρ h η) (hs : Eng.Spec P f us [] [] (fun u H' => u = v /\ H' = [])) :
    Eng.Spec P f us [] [η] (fun u H' => ∃ ρ' η', rn ρ' v = some u /\ HR P ρ' h η' /\ Ext ρ ρ' h.next h.next /\ H' = [η']) := by
  intro N w hsat
  have h0 : Sat N [] [] w := ⟨hsat.sz, by simp, by simp, by simp, by simp⟩
  refine (hs N w h0).mono ?_;rintro u w' ⟨H', ⟨rfl, rfl⟩, k⟩;exact ⟨[η], ⟨ρ, η, iM hv, hr, Ext.refl, rfl⟩, Upd.frame (H := []) (H1 := []) (F := [η]) hsat k⟩
section
variable {C : Cx} {R H : List PH} {L : Env} {dst : Option Tmp} {ty : TypeId} {pos : String} {aft : Array Edge} {g : Option (Nat × Bool)}
theorem Sat.emp' {N : Bs} {w : World} (hs : Sat N R H w) : Sat N R ((fun _ => none) :: H) w :=
  ⟨hs.sz, hs.r, fun ρ hr => by
      simp at hr
      rcases hr with rfl | hr
      · intro b o hb; simp at hb
      · exact hs.h ρ hr, aW.2 ⟨fun _ _ _ => .inl rfl, hs.hd⟩, fun ρ hr σ hσ => by
      simp at hσ
      rcases hσ with rfl | hσ
      · exact fun _ => .inr rfl
      · exact hs.rd ρ hr σ hσ⟩
theorem l_s2b {sT dT e : TypeId} {x : Operand} {s : ByteArray} {v : Value} {h1 : AH} (hx : fM L x = some (.string s)) (hw : yO ⟨0, .e⟩ e (some (.string s)) = some (v, h1))
    (h1' : C.P.underlying sT = some .string) (h2' : C.P.underlying dT = some (.slice e)) (h3' : C.P.underlying e = some (.int .u8)) (h4' : szP C.P e = some 1) :
    iX C R H L ⟨dst, .convert sT dT x, ty, pos, aft, g⟩ (fun u H' => ∃ η, EvR C.P h1 v u η /\ H' = η :: H) := by
  refine ⟨fun a w hxx hsat next Q hnx => ?_⟩
  have hxv := hxx x (by simp [Op.operands]) _ hx
  have hlok : LOK C.P (fun _ => none) (fun _ => none) (fun _ => a.eval x) w ⟨0, .e⟩ ⟨dst, .convert sT dT (.const (.string s)), ty, pos, aft, g⟩ v h1 :=
    aV1 (P := C.P) (fr := .e) (wr := .s2b e (.c (.string s))) (by simp [fX, gW, tS, h1', h2', h3', h4', gR]) hw wJ (by intro b o hb; cases hb) trivial (fun y hy u hu _ => by
      simp at hy; subst hy
      simp only [evX, aD] at hu;subst hu
      exact ⟨_, rfl, hxv⟩)
  obtain ⟨n1, k⟩ := hlok
  obtain ⟨u, ρ', η', w', k1, k2, k3, k4, k5⟩ := k (fun i _ _ => rfl)
  have hex : (execOp a.eval ⟨dst, .convert sT dT x, ty, pos, aft, g⟩).run C.P w = (execOp (fun _ => a.eval x) ⟨dst, .convert sT dT (.const (.string s)), ty, pos, aft, g⟩).run C.P w := by simp [execOp]
  have hs2 : Sat C.N R (η' :: H) w' := Sat.upd (H1 := [fun _ => none]) (H1' := [η']) (F := H) (Sat.emp' hsat) k4
  have hev : EvR C.P h1 v u η' := ⟨ρ', k2, k3, fun i hi => by
    cases hρ : ρ' i with
    | none => rfl
    | some z =>
      rcases k5.2 i (by rw [hρ]; simp) with h | h
      · exact absurd rfl h
      · omega⟩
  rcases k1 with k1 | ⟨k1, rfl⟩
  · exact iR (by intro c; simp) (by rw [hex]; exact k1) (hnx _ _ _ ⟨η', hev, rfl⟩ hs2)
  · exact pM (by intro c; simp) (by rw [hex]; exact k1) (hnx _ _ _ ⟨η', hev, rfl⟩ hs2)
theorem aKf {M : Nat} : ∀ {l : List (Nat × Value)} {fr fr' : Fr}, aTu M l fr = some fr' -> ∀ t v, fr'.get t = some v -> (t, v) ∈ l \/ fr.get t = some v
  | [], fr, fr', e, t, v, h => by cases e; exact .inr h
  | (d, u) :: l, fr, fr', e, t, v, h => by
    simp only [aTu] at e
    split at e
    · rename_i fr1 h1
      rcases aKf e t v h with h2 | h2
      · exact .inl (by simp [h2])
      · rw [aIy h1] at h2
        split at h2
        · rename_i hd; cases hd; cases h2; exact .inl (by simp)
        · exact .inr h2
    · cases e
theorem aEw : ∀ {l : List (Nat × Value)}, aAj l = true -> ∀ d u, (d, u) ∈ l -> gR u = true
  | [], _, d, u, h => by cases h
  | (e, v) :: l, hf, d, u, h => by
    simp only [aAj, aJ] at hf
    rcases aE.1 h with h | h
    · cases h; exact hf.1
    · exact aEw hf.2 d u h
theorem wK {fn : Func} {x : Option (Ex × St)} {v : Value} (h : aG3 P fn x = some v) : ∃ s h2, x = some (.ret, s) /\ pT s.ms s.h = some h2 /\ tG s.fr h2 P fn.results.toList = some [v] /\ gR v = true := by
  unfold aG3 at h
  split at h
  · split at h
    · rename_i h2 hd
      split at h
      · rename_i v' hl
        cases hf : gR v' with
        | false => rw [hf] at h; cases h
        | true => rw [hf] at h; cases h; exact ⟨_, _, rfl, hd, hl, hf⟩
      · cases h
    · cases h
  · cases h
theorem jk_rest {P : Program} {m : Mac} (hm : MOK P m) {fn : Func} {tg : FuncId} {c : Code} {l : List (Nat × Value)} {N : Bs} {R R0 H : List PH} {L : Env} {post : Value -> List PH -> Prop} {v : Value}
    (h : restOf P m tg fn l = some v) (hc : fn.body.bind aNu = some c) (hl : ∀ d u, (d, u) ∈ l -> Eng.look L d = some u) (hfl : aAj l = true) (hR : ∀ ρ ∈ R0, ρ ∈ R) (hp : post v []) :
    JK ⟨none, P, FnQ P fn N R0 post, N, fn.ntmps⟩ [] R H L [.code c] := by
  unfold restOf at h;rw [hc] at h
  cases hfr : aTu fn.ntmps l .e with
  | none => rw [hfr] at h; cases h
  | some fr =>
  rw [hfr] at h
  obtain ⟨s, h2, e, hd, hev, hv⟩ := wK h
  refine ⟨fun a w hf hdf hs => ?_⟩
  obtain ⟨_, g1⟩ := hm.c _ _ _ _ _ e
  have hfk : FK (fun _ => none) fr (fun t => a.tmps.getD t undef) := fun t u hu => by
    rcases aKf hfr t u hu with h3 | h3
    · exact ⟨u, iM (aEw hfl t u h3), hf.get t u (hl t u h3)⟩
    · cases h3
  refine (show c.wpIn (gS none) 0 P _ _ w from g1 (fun _ => none) (fun _ => none) a w none _ trivial ⟨hf.size, hfk, by rw [hdf]; exact .nil, wJ, (by intro b o hb; cases hb)⟩ (fun i _ _ => rfl) (fun ρ' η' a' w' si u x => ?_))
  show jZ P fn a'.tmps (fun v w' => ∃ H', post v H' /\ Sat N R0 H' w') a'.defers w'
  obtain ⟨_, g2⟩ := aBe (fn := fn) (tmps := a'.tmps) (S := fun v w' => ∃ H', post v H' /\ Sat N R0 H' w') hd si.mks si.hr si.le
  refine g2 (fun η2 w2 r2 u2 => ?_)
  obtain ⟨uu, t1, t2⟩ := aBf r2 (u2.own _ (by simp)) si.fk hev
  rw [show one [v] = v from rfl, iM hv] at t1
  cases t1
  have hs2 : Sat N R ([η2] ++ H) w2 := Sat.upd (H1 := [fun _ => none]) (H1' := [η2]) (F := H) (Sat.emp' hs) (Upd.comp u u2)
  exact ⟨v, t2, [], hp, (hs2.rsub hR).sel .nil⟩
theorem aG4 (s : ByteArray) (n : Nat) : s.extract n s.size = ⟨⟨s.data.toList.drop n⟩⟩ := by
  apply ByteArray.ext
  rw [ByteArray.data_extract]
  apply Array.ext'
  simp
  rw [bV]
  simp
theorem q_strL {t : TypeId} {x : Operand} {s : ByteArray} (n : Nat) {k : IntKind} (hx : fM L x = some (.string s)) (ht : C.P.underlying t = some .string) (hn : n <= s.size) :
    fO C R H L ⟨dst, .slice t x (some (.const (.int k (n : Int)))) none none, ty, pos, aft, g⟩ (.string ⟨⟨s.data.toList.drop n⟩⟩) :=
  ⟨by simp, fun a w hxx _ => by
    have e := hxx x (by simp [Op.operands]) _ hx
    have ec : a.eval (.const (.int k (n : Int))) = .int k (n : Int) := rfl
    simp [execOp, e, ec, run_sliceAt_string w t _ _ _ _ ht, run_slice_string_l (P := C.P) w t s ht k (n : Int) (by omega) (by omega), aG4]⟩
theorem wordV_some {m : Mac} {wd : FuncId} {el : TypeId} {k : ByteArray} {x : Int} (h : wordV m wd el k = some x) : ∃ v h1 h2, yO ⟨0, .e⟩ el (some (.string k)) = some (v, h1) /\ m.f wd [v] h1 = some (.int .u64 x, h2) := by
  unfold wordV at h
  split at h
  · rename_i v h1 e
    split at h
    · rename_i n h2 e2
      cases h
      exact ⟨v, h1, h2, e, e2⟩
    · cases h
  · cases h
def LkA (L : Env) : List (Nat × Value) -> Prop
  | [] => True
  | (d, v) :: l => Eng.look L d = some v /\ LkA L l
theorem LkA.get {L : Env} : ∀ {l : List (Nat × Value)}, LkA L l -> ∀ d v, (d, v) ∈ l -> Eng.look L d = some v
  | [], _, d, v, h => by cases h
  | (e, u) :: l, hl, d, v, h => by
    rcases aE.1 h with h | h
    · cases h; exact hl.1
    · exact LkA.get hl.2 d v h
theorem signR_some {h2 h' : AH} {x : Option (Value × AH)} {v : Value} (h : aNv h2 x = some (v, h')) : ∃ s e h3, x = some (.tuple #[.string s, .int .i64 e], h3) /\ v = .tuple #[.string s, .int .i64 e] /\ h' = h2 := by
  unfold aNv at h
  split at h
  · cases h; exact ⟨_, _, _, rfl, rfl, rfl⟩
  · cases h
theorem signM_some {m : Mac} {ch : FuncId} {el : TypeId} {n : Int} {k : ByteArray} {x : Option (Value × AH)} {v : Value} {h' : AH} (h : aTw m ch el n k x = some (v, h')) : ∃ d h2, x = some (.string d, h2) /\
    aNv h2 (m.f ch [.string k, .slice (some ⟨0, 0, none⟩) 2 2] (oneB [.string ⟨⟨[UInt8.ofNat (wr .u8 n).toNat]⟩⟩, .string d] el)) = some (v, h') := by
  unfold aTw at h
  split at h
  · exact ⟨_, _, rfl, h⟩
  · cases h
theorem aU8 {c : List Value} {t : TypeId} : AH.new ⟨0, .e⟩ (.cells c t) = some (oneB c t) := rfl
theorem aXh {b : Nat} {c : List Value} {t : TypeId} (hc : rnL (fun _ => none) c = some c) : HR P (jL (fun _ => none) 0 (b, 0, 0)) (oneB c t) (sng b (.cells c.toArray t (0, 0))) :=
  HR.new wJ aU8 rfl rfl (vJ hc _ (kM rfl))
theorem aPn {cf : iA} (hc : FOK P cf) {f : FuncId} {h h' : AH} {vs us : List Value} {y : Value} (e : cf f vs h = some (y, h')) (hy : gR y = true) {ρ : Rn} {η : PH} (hr : HR P ρ h η) (hf : Fresh ρ h.next h'.next) (hu : rnL ρ vs = some us) :
    Eng.Spec P (.func (.func f) #[] #[]) us [] [η] (fun x H' => x = y /\ H' = []) := by
  intro N w hs
  refine (fok_spec hc e hr hf hu N w hs).mono ?_;rintro x w' ⟨H', ⟨ρ', η', k1, _, _, rfl⟩, u⟩;rw [iM hy] at k1
  cases k1
  exact ⟨[], ⟨rfl, rfl⟩, aNx u⟩
theorem two_spec {cf : iA} (hc : FOK P cf) {f : FuncId} {h' : AH} {k x y : ByteArray} {t : TypeId} {v : Value} (e : cf f [.string k, .slice (some ⟨0, 0, none⟩) 2 2] (oneB [.string x, .string y] t) = some (v, h')) (hv : gR v = true) (b : Nat) :
    Eng.Spec P (.func (.func f) #[] #[]) [.string k, .slice (some ⟨b, 0, none⟩) 2 2] [] [sng b (.cells #[.string x, .string y] t (0, 0))] (fun x H' => x = v /\ H' = []) :=
  aPn hc e hv (aXh (c := [.string x, .string y]) rfl) (fun i h1 _ => by
    have h1 : 1 <= i := h1
    unfold jL; rw [if_neg (by omega)]) (rnL_cons.2 ⟨_, _, rfl, rnL_cons.2 ⟨_, _, by rw [lU kI (by decide)], rnL_nil, rfl⟩, rfl⟩)
theorem l_b2s1 {sT dT e : TypeId} {x : Operand} {b : Nat} {n : Int} {t : TypeId} {fz : Nat × Nat} {H1 : List PH} (hx : fM L x = some (.slice (some ⟨b, 0, none⟩) 1 1)) (ht : gU (sng b (.cells #[.int .u8 n] t fz)) H H1)
    (h1' : C.P.underlying sT = some (.slice e)) (h2' : C.P.underlying e = some (.int .u8)) (h3' : C.P.underlying dT = some .string) :
    iX C R H L ⟨dst, .convert sT dT x, ty, pos, aft, g⟩ (fun u H' => u = .string ⟨⟨[UInt8.ofNat n.toNat]⟩⟩ /\ H' = H) := by
  refine fO.loud ⟨by simp, fun a w hxx hs => ?_⟩
  have hxv := hxx x (by simp [Op.operands]) _ hx
  have hb : w.heap[b]? = some (.cells #[.int .u8 n] t fz) := (hs.h _ ht.mem) b _ (jT b _)
  have hcells : (loadCells ⟨b, 0, none⟩ 1).run C.P w = .ok (([n] : List Int).map (Value.int .u8)).toArray w :=
    iN (P := C.P) (us := [.int .u8 n]) (fun j u hu => by
      cases j with
      | zero => cases hu; simp [World.cell?, hb]
      | succ j => simp at hu)
  simp only [execOp, hxv];refine mL ?_;rw [run_convert_bytes_string w sT dT e _ 1 1 h1' h2' h3', run_bytesToString (P := C.P) w ⟨b, 0, none⟩ 1 1 [n] hcells]
  rfl
theorem rn_aggL {ρ : Rn} {l us : List Value} (h : rnL ρ l = some us) : rn ρ (.agg ⟨l⟩) = some (.agg us.toArray) := by
  simp only [rn, rnR, h]
theorem restOf_flat {m : Mac} {tg : FuncId} {fn : Func} {l : List (Nat × Value)} {v : Value} (h : restOf P m tg fn l = some v) : gR v = true := by
  unfold restOf at h
  split at h
  · obtain ⟨_, _, _, _, _, hv⟩ := wK h
    exact hv
  · cases h
theorem tagRun_some {m : Mac} {tg : FuncId} {k t : ByteArray} {a b : Option Int} {v : Value} (h : aMc P m tg k t a b = some v) : ∃ x y fn, a = some x /\ b = some y /\ P.funcs[tg]? = some fn /\ restOf P m tg fn [(0, .string k), (1, .string t), (4, .string ⟨⟨[]⟩⟩), (5, .int .u64 x), (6, .int .u64 y)] = some v := by
  unfold aMc at h
  split at h
  · rename_i x y fn hfn
    exact ⟨x, y, fn, rfl, rfl, hfn, h⟩
  · cases h
theorem pairO_some {h h' : AH} {x : Option Value} {v : Value} (e : aTv h x = some (v, h')) : x = some v /\ h' = h := by
  cases x with
  | none => cases e
  | some u => cases e; exact ⟨rfl, rfl⟩
theorem aCr : ∀ {tab : List (List UInt8 × List UInt8 × List UInt8)} {k t : List UInt8} {v : Value}, aNw tab k t = some v -> ∃ c, (k, t, c) ∈ tab /\ v = .string ⟨⟨c⟩⟩
  | (a, b, c) :: l, k, t, v, h => by
    simp only [aNw] at h
    cases hb : (beB a k && beB b t) with
    | true =>
      rw [hb, cond_true] at h
      cases h
      obtain ⟨h1, h2⟩ := eF.1 hb
      rw [aFj] at h1 h2
      obtain rfl := eq_of_beq h1
      obtain rfl := eq_of_beq h2
      exact ⟨c, by simp, rfl⟩
    | false =>
      rw [hb, cond_false] at h
      obtain ⟨c', h1, h2⟩ := aCr h
      exact ⟨c', by simp [h1], h2⟩
theorem aU9 {cf : iA} (hc : FOK P cf) {tg : FuncId} {tab : List (List UInt8 × List UInt8 × List UInt8)} (ht : ∀ k t c, (k, t, c) ∈ tab -> ∀ h, cf tg [.string ⟨⟨k⟩⟩, .string ⟨⟨t⟩⟩] h = some (.string ⟨⟨c⟩⟩, h)) : FOK P (tabO tg tab) := by
  intro f vs h v h' e
  unfold tabO at e
  cases hb : Nat.beq f tg with
  | false => rw [hb] at e; cases e
  | true =>
    have hf := aO hb
    subst hf;rw [hb, cond_true] at e
    split at e
    · rename_i k t
      obtain ⟨e1, rfl⟩ := pairO_some e
      obtain ⟨c, h1, rfl⟩ := aCr e1
      exact hc _ _ _ _ _ (ht _ _ _ h1 h')
    · cases e
theorem aTx {m : Mac} {tg wd : FuncId} {el : TypeId} {k t : ByteArray} {v : Value} {h0 h1 : AH} (e : tagO P m tg wd el tg [.string k, .string t] h0 = some (v, h1)) (h : AH) : tagO P m tg wd el tg [.string k, .string t] h = some (v, h) := by
  unfold tagO at e ⊢;rw [eN, cond_true] at e ⊢
  dsimp only at e ⊢
  cases h8 : Nat.ble 8 k.data.toList.length with
  | false => rw [h8] at e; cases e
  | true =>
    rw [h8, cond_true] at e;rw [cond_true]
    obtain ⟨e1, _⟩ := pairO_some e
    rw [e1]
    rfl
end
end Go.Ev
namespace Go.Proofs.YtnijkofdlepfjaaGreat
open Go.Eng Go.Ev
set_option maxRecDepth 100000
set_option maxHeartbeats 64000000

def crcL : List Nat := [0, 4067132163, 3778769143, 324072436, 3348797215, 904991772, 648144872, 3570033899, 2329499855, 2024987596, 1809983544, 2575936315, 1296289744, 3207089363, 2893594407, 1578318884, 274646895, 3795141740, 4049975192, 51262619, 3619967088, 632279923, 922689671, 3298075524, 2592579488, 1760304291, 2075979607, 2312596564, 1562183871, 2943781820, 3156637768, 1313733451, 549293790, 3537243613, 3246849577, 871202090, 3878099393, 357341890, 102525238, 4101499445, 2858735121, 1477399826, 1264559846, 3107202533, 1845379342, 2677391885, 2361733625, 2125378298, 820201905, 3263744690, 3520608582, 598981189, 4151959214, 85089709, 373468761, 3827903834, 3124367742, 1213305469, 1526817161, 2842354314, 2107672161, 2412447074, 2627466902, 1861252501, 1098587580, 3004210879, 2688576843, 1378610760, 2262928035, 1955203488, 1742404180, 2511436119, 3416409459, 969524848, 714683780, 3639785095, 205050476, 4266873199, 3976438427, 526918040, 1361435347, 2739821008, 2954799652, 1114974503, 2529119692, 1691668175, 2005155131, 2247081528, 3690758684, 697762079, 986182379, 3366744552, 476452099, 3993867776, 4250756596, 255256311, 1640403810, 2477592673, 2164122517, 1922457750, 2791048317, 1412925310, 1197962378, 3037525897, 3944729517, 427051182, 170179418, 4165941337, 746937522, 3740196785, 3451792453, 1070968646, 1905808397, 2213795598, 2426610938, 1657317369, 3053634322, 1147748369, 1463399397, 2773627110, 4215344322, 153784257, 444234805, 3893493558, 1021025245, 3467647198, 3722505002, 797665321, 2197175160, 1889384571, 1674398607, 2443626636, 1164749927, 3070701412, 2757221520, 1446797203, 137323447, 4198817972, 3910406976, 461344835, 3484808360, 1037989803, 781091935, 3705997148, 2460548119, 1623424788, 1939049696, 2180517859, 1429367560, 2807687179, 3020495871, 1180866812, 410100952, 3927582683, 4182430767, 186734380, 3756733383, 763408580, 1053836080, 3434856499, 2722870694, 1344288421, 1131464017, 2971354706, 1708204729, 2545590714, 2229949006, 1988219213, 680717673, 3673779818, 3383336350, 1002577565, 4010310262, 493091189, 238226049, 4233660802, 2987750089, 1082061258, 1395524158, 2705686845, 1972364758, 2279892693, 2494862625, 1725896226, 952904198, 3399985413, 3656866545, 731699698, 4283874585, 222117402, 510512622, 3959836397, 3280807620, 837199303, 582374963, 3504198960, 68661723, 4135334616, 3844915500, 390545967, 1230274059, 3141532936, 2825850620, 1510247935, 2395924756, 2091215383, 1878366691, 2644384480, 3553878443, 565732008, 854102364, 3229815391, 340358836, 3861050807, 4117890627, 119113024, 1493875044, 2875275879, 3090270611, 1247431312, 2660249211, 1828433272, 2141937292, 2378227087, 3811616794, 291187481, 34330861, 4032846830, 615137029, 3603020806, 3314634738, 939183345, 1776939221, 2609017814, 2295496738, 2058945313, 2926798794, 1545135305, 1330124605, 3173225534, 4084100981, 17165430, 307568514, 3762199681, 888469610, 3332340585, 3587147933, 665062302, 2042050490, 2346497209, 2559330125, 1793573966, 3190661285, 1279665062, 1595330642, 2910671697]
def aTy : Value := .agg ⟨crcL.map fun n => .int .u32 (.ofNat n)⟩
def isV (v : Value) : Option (Value × AH) -> Bool
 | some (u, _) => beV u v
 | none => false
theorem aMe {v : Value} {x : Option (Value × AH)} (h : isV v x = true) : ∃ h', x = some (v, h') := by
 cases x with
 | none => cases h
 | some p => obtain ⟨u, h'⟩ := p; exact ⟨h', by rw [aSg (show beV u v = true from h)]⟩
def noGo : List Func -> Bool
 | [] => true
 | f :: l => !(f.name == "runtime.NumGoroutine") && noGo l
theorem aNy : ∀ {l : List Func}, noGo l = true -> ∀ f ∈ l, (f.name == "runtime.NumGoroutine") = false
 | [], _, f, hf => by cases hf
 | g :: l, h, f, hf => by
  have h : (!(g.name == "runtime.NumGoroutine") && noGo l) = true := h
  rw [aJ] at h
  rcases aE.1 hf with rfl | hf
  ·simpa using h.1
  ·exact aNy h.2 f hf
theorem wL : ∀ (f : FuncId) (fn : Func), Tryz.prog.funcs[f]? = some fn -> (fn.name == "runtime.NumGoroutine") = false := fun f fn h =>
 aNy (l := Tryz.prog.funcs.toList) (by kernel_rfl) fn (by rw [Array.mem_toList_iff]; exact Array.mem_of_getElem? h)
theorem wM : Tryz.prog.follows .mixedOrders = true := by kernel_rfl
theorem aVa : isV aTy ((mac Tryz.prog aVx 400).f 305 [] ⟨0, .e⟩) = true := by kernel_rfl
theorem aG5 : FOK Tryz.prog (aEv 305 aTy) :=
 Exists.elim (aMe aVa) (fun _ h => aTt (aCp aTs wL wM 400) h (by kernel_rfl))
end Go.Proofs.YtnijkofdlepfjaaGreat
namespace Go.Proofs.YtnijkofdlepfjaaGreat
open Go.Eng Go.Step
set_option maxRecDepth 100000
set_option maxHeartbeats 64000000
theorem aTz {m:Ev.Mac} (hm:Ev.MOK Tryz.prog m) {k t:ByteArray} {v:Value} {x y:Int} (h8:8<=k.data.toList.length) (hx:Ev.wordV m 249 5 k=some x)
  (hy:Ev.wordV m 249 5 ⟨⟨k.data.toList.drop 8⟩⟩=some y) {fn:Func} (hfn:Tryz.prog.funcs[(198:Nat)]?=some fn)
  (h:Ev.restOf Tryz.prog m 198 fn [(0,.string k),(1,.string t),(4,.string ⟨⟨[]⟩⟩),(5,.int .u64 x),(6,.int .u64 y)]=some v) :
  Eng.Spec Tryz.prog (fv 198) [.string k,.string t] [] [] (fun u H'=>u=v/\H'=[]):=by
 obtain ⟨v1,h1,h1',hx1,hx2⟩:=Ev.wordV_some hx
 obtain ⟨v2,h2,h2',hy1,hy2⟩:=Ev.wordV_some hy
 have hfe:=Option.some.inj (hfn.symm.trans Tryz.func198)
 subst hfe
 refine A8 Tryz.func198 Tryz.ntmps198 fun N β=>?_
 refine Aam ?_;refine AC ?_
 refine A9 (.p 0 (.p 3 (.p 4 (.l2 1 .e (.l2 2 .b (.l 5 .e (.l 6 .b (.q 7 (.q 8 .nil)))) 5 .e (.l 2 .b (.l 6 .b (.q 7 (.q 8 .nil))))) 5 .e (.l 1 .e (.l 2 .b (.l 6 .b (.q 7 (.q 8 .nil))))))))) [] rfl (by kernel_rfl) Sel.nil ?_
 refine E6 rfl (D9 rfl) rfl rfl rfl ?_;refine E6 rfl (D9 rfl) rfl rfl rfl ?_;refine E6 rfl (Ev.q_strL 8 rfl rfl h8) rfl rfl rfl ?_;refine EP ?_ ?_
 ·refine a_e rfl (Ev.l_s2b rfl hx1 rfl rfl rfl rfl) rfl rfl rfl (by rintro _ _ ⟨η,_,rfl⟩ w hw; exact hw.tail) ?_
  rintro ux _ ⟨ηx,rx,rfl⟩;refine EP ?_ ?_
  ·refine CS rfl (Ev.fok_spec1 hm.f hx2 rfl rx) rfl rfl (gA.cons .here gA.nil) jK.nil rfl rfl (fun _ _ _ w hw=>hw.sel Sel.nil) ?_
   rintro _ _ ⟨rfl,rfl⟩
   refine BZ (a_e rfl (Ev.l_s2b rfl hy1 rfl rfl rfl rfl) rfl rfl rfl (by rintro _ _ ⟨η,_,rfl⟩ w hw; exact hw.tail) ?_)
   rintro uy _ ⟨ηy,ry,rfl⟩
   refine BZ (CS rfl (Ev.fok_spec1 hm.f hy2 rfl ry) rfl rfl (gA.cons .here gA.nil) jK.nil rfl rfl (fun _ _ _ w hw=>hw.sel Sel.nil) ?_)
   rintro _ _ ⟨rfl,rfl⟩;refine CX rfl (CQ rfl) rfl rfl rfl rfl ?_;refine CX rfl (CQ rfl) rfl rfl rfl rfl ?_;refine BC ?_;exact Ev.jk_rest hm h rfl (Ev.LkA.get ⟨rfl,rfl,rfl,rfl,rfl,trivial⟩) rfl fQ ⟨rfl,rfl⟩
  ·refine a_e rfl (Ev.l_s2b rfl hy1 rfl rfl rfl rfl) rfl rfl rfl (by rintro _ _ ⟨η,_,rfl⟩ w hw; exact hw.tail) ?_
   rintro uy _ ⟨ηy,ry,rfl⟩
   refine BZ (CS rfl (Ev.fok_spec1 hm.f hx2 rfl rx) rfl rfl (gA.cons (.there .here) gA.nil) jK.nil rfl rfl (fun _ _ _ w hw=>hw.sel Sel.nil) ?_)
   rintro _ _ ⟨rfl,rfl⟩
   refine BZ (CS rfl (Ev.fok_spec1 hm.f hy2 rfl ry) rfl rfl (gA.cons .here gA.nil) jK.nil rfl rfl (fun _ _ _ w hw=>hw.sel Sel.nil) ?_)
   rintro _ _ ⟨rfl,rfl⟩;refine CX rfl (CQ rfl) rfl rfl rfl rfl ?_;refine CX rfl (CQ rfl) rfl rfl rfl rfl ?_;refine BC ?_;exact Ev.jk_rest hm h rfl (Ev.LkA.get ⟨rfl,rfl,rfl,rfl,rfl,trivial⟩) rfl fQ ⟨rfl,rfl⟩
 ·refine a_e rfl (Ev.l_s2b rfl hy1 rfl rfl rfl rfl) rfl rfl rfl (by rintro _ _ ⟨η,_,rfl⟩ w hw; exact hw.tail) ?_
  rintro uy _ ⟨ηy,ry,rfl⟩
  refine BZ (a_e rfl (Ev.l_s2b rfl hx1 rfl rfl rfl rfl) rfl rfl rfl (by rintro _ _ ⟨η,_,rfl⟩ w hw; exact hw.tail) ?_)
  rintro ux _ ⟨ηx,rx,rfl⟩
  refine BZ (CS rfl (Ev.fok_spec1 hm.f hx2 rfl rx) rfl rfl (gA.cons .here gA.nil) jK.nil rfl rfl (fun _ _ _ w hw=>hw.sel Sel.nil) ?_)
  rintro _ _ ⟨rfl,rfl⟩
  refine BZ (CS rfl (Ev.fok_spec1 hm.f hy2 rfl ry) rfl rfl (gA.cons .here gA.nil) jK.nil rfl rfl (fun _ _ _ w hw=>hw.sel Sel.nil) ?_)
  rintro _ _ ⟨rfl,rfl⟩;refine CX rfl (CQ rfl) rfl rfl rfl rfl ?_;refine CX rfl (CQ rfl) rfl rfl rfl rfl ?_;refine BC ?_;exact Ev.jk_rest hm h rfl (Ev.LkA.get ⟨rfl,rfl,rfl,rfl,rfl,trivial⟩) rfl fQ ⟨rfl,rfl⟩
theorem aXi {m:Ev.Mac} (hm:Ev.MOK Tryz.prog m):Ev.FOK Tryz.prog (Ev.tagO Tryz.prog m 198 249 5):=by
 intro f vs h v h' e
 unfold Ev.tagO at e
 cases hb:Nat.beq f 198 with
 | false=>rw [hb] at e; cases e
 | true =>
  have hf:=aO hb
  subst hf;rw [hb,cond_true] at e
  split at e
  ·rename_i k t
   cases h8:Nat.ble 8 k.data.toList.length with
   | false=>rw [h8] at e; cases e
   | true =>
    rw [h8,cond_true] at e
    obtain ⟨hr,rfl⟩:=Ev.pairO_some e
    obtain ⟨x,y,fn,hx,hy,hfn,hrest⟩:=Ev.tagRun_some hr
    refine ⟨aK _,fun ρ η w us hr' hw _ hu=>?_⟩
    cases hu
    have hsp:=aTz hm (aT h8) hx hy hfn hrest
    exact Ev.fok_of_spec Tryz.func198 rfl rfl (Ev.spec_frame (Ev.restOf_flat hrest) hr' hsp) hw
  ·cases e
theorem aPo {m:Ev.Mac} (hm:Ev.MOK Tryz.prog m) {l:List Value} {h h2 h3:Ev.AH} {ρ:Ev.Rn} {η:PH} {b0 b1 b2 b3 b4 b5 b6 b7 b8 b9 b10 b11:Value} {n e:Int} {k d s:ByteArray} (hr:Ev.HR Tryz.prog ρ h η) (hf:Ev.Fresh ρ h.next h2.next) (hu:Ev.rnL ρ l=some [b0,b1,b2,b3,b4,b5,b6,b7,b8,b9,b10,b11])
  (h1:m.f 137 [.agg ⟨l⟩] h=some (.string d,h2)) (h3':m.f 136 [.string k,.slice (some ⟨0,0,none⟩) 2 2] (Ev.oneB [.string ⟨⟨[UInt8.ofNat (Ev.wr .u8 n).toNat]⟩⟩,.string d] 9)=some (.tuple #[.string s,.int .i64 e],h3)) :
  Eng.Spec Tryz.prog (fv 71) [.agg #[b0,b1,b2,b3,b4,b5,b6,b7,b8,b9,b10,b11],.int .i64 n,.string k] [] [η] (fun u H'=>∃ ρ' η',Ev.rn ρ' (.tuple #[.string s,.int .i64 e])=some u/\Ev.HR Tryz.prog ρ' h2 η'/\Ev.Ext ρ ρ' h.next h2.next/\H'=[η']):=by
 have hsd:=Ev.fok_spec hm.f h1 hr hf (Ev.rnL_cons.2 ⟨_,_,(Ev.rn_aggL hu),Ev.rnL_nil,rfl⟩)
 have hch:=Ev.two_spec hm.f h3' rfl
 rw [Ev.wr_eq] at hch
 refine A8 Tryz.func71 Tryz.ntmps71 fun N β=>?_
 refine Aa ?_
 refine BF fun bx cb=>?_
 refine Aaq ?_;refine AC ?_
 refine A9 (.p 0 (.p 1 (.p 2 (.p 5 (.l2 3 .e (.l2 4 .e (.l 6 .b (.l 7 .e (.l 8 .b (.q 9 (.q 10 (.q 11 (.q 12 .nil))))))) 6 .b (.l 4 .e (.l 7 .e (.l 8 .b (.q 9 (.q 10 (.q 11 (.q 12 .nil)))))))) 6 .b (.l 3 .e (.l 4 .e (.l 7 .e (.l 8 .b (.q 9 (.q 10 (.q 11 (.q 12 .nil))))))))))))) [] rfl (by kernel_rfl) Sel.nil ?_
 refine E6 rfl (D9 rfl) rfl rfl rfl ?_;refine E6 rfl (D9 rfl) rfl rfl rfl ?_;refine E6 rfl (FU rfl rfl rfl rfl) rfl rfl rfl ?_;refine E6 rfl (EU rfl rfl (tQ cb gN) rfl) rfl rfl rfl ?_;refine EP ?_ ?_
 ·refine a_e rfl (CL (cs:=[.int .u8 (IntKind.u8.wrap n)]) rfl rfl rfl rfl rfl (by intro z hz; simp at hz; subst hz; rfl) (.one rfl .nil) rfl) rfl rfl rfl (by rintro _ _ ⟨b,rfl,rfl⟩ w hw; exact hw.tail) ?_
  rintro _ _ ⟨bn,rfl,rfl⟩;refine EP ?_ ?_
  ·refine a_e rfl (Ev.l_b2s1 rfl .here rfl rfl rfl) rfl rfl rfl (by rintro _ _ ⟨_,rfl⟩ w hw; exact hw) ?_
   rintro _ _ ⟨rfl,rfl⟩
   refine BZ (CS rfl hsd rfl rfl (gA.cons (.there .here) gA.nil) jK.nil rfl rfl (fun _ _ _ w hw=>hw.sel Sel.nil) ?_)
   rintro _ _ ⟨ρ2,η2,k1,k2,k3,rfl⟩
   cases k1
   refine BZ (a_e rfl (CL (cs:=[.string ⟨⟨[UInt8.ofNat (IntKind.u8.wrap n).toNat]⟩⟩,.string d]) rfl rfl rfl rfl rfl (by intro z hz; simp at hz; rcases hz with rfl|rfl <;> rfl) (.one rfl (.one rfl .nil)) rfl) rfl rfl rfl (by rintro _ _ ⟨b,rfl,rfl⟩ w hw; exact hw.tail) ?_)
   rintro _ _ ⟨bs,rfl,rfl⟩
   refine BZ (CS rfl (hch bs) rfl rfl (gA.cons .here gA.nil) jK.nil rfl rfl (fun _ _ _ w hw=>hw.sel Sel.nil) ?_)
   rintro _ _ ⟨rfl,rfl⟩;refine CX rfl (C0 rfl rfl) rfl rfl rfl rfl ?_;refine CX rfl (C0 rfl rfl) rfl rfl rfl rfl ?_;refine CX rfl (CQ rfl) rfl rfl rfl rfl ?_;refine CX rfl (CQ rfl) rfl rfl rfl rfl ?_;refine BC ?_;exact A2 (mB rfl rfl rfl) fQ fK ⟨ρ2,η2,rfl,k2,k3,rfl⟩
  ·refine CS rfl hsd rfl rfl (gA.cons (.there .here) gA.nil) jK.nil rfl rfl (fun _ _ _ w hw=>hw.sel Sel.nil) ?_
   rintro _ _ ⟨ρ2,η2,k1,k2,k3,rfl⟩
   cases k1
   refine BZ (a_e rfl (Ev.l_b2s1 rfl (.there .here) rfl rfl rfl) rfl rfl rfl (by rintro _ _ ⟨_,rfl⟩ w hw; exact hw) ?_)
   rintro _ _ ⟨rfl,rfl⟩
   refine BZ (a_e rfl (CL (cs:=[.string ⟨⟨[UInt8.ofNat (IntKind.u8.wrap n).toNat]⟩⟩,.string d]) rfl rfl rfl rfl rfl (by intro z hz; simp at hz; rcases hz with rfl|rfl <;> rfl) (.one rfl (.one rfl .nil)) rfl) rfl rfl rfl (by rintro _ _ ⟨b,rfl,rfl⟩ w hw; exact hw.tail) ?_)
   rintro _ _ ⟨bs,rfl,rfl⟩
   refine BZ (CS rfl (hch bs) rfl rfl (gA.cons .here gA.nil) jK.nil rfl rfl (fun _ _ _ w hw=>hw.sel Sel.nil) ?_)
   rintro _ _ ⟨rfl,rfl⟩;refine CX rfl (C0 rfl rfl) rfl rfl rfl rfl ?_;refine CX rfl (C0 rfl rfl) rfl rfl rfl rfl ?_;refine CX rfl (CQ rfl) rfl rfl rfl rfl ?_;refine CX rfl (CQ rfl) rfl rfl rfl rfl ?_;refine BC ?_;exact A2 (mB rfl rfl rfl) fQ fK ⟨ρ2,η2,rfl,k2,k3,rfl⟩
 ·refine CS rfl hsd rfl rfl (gA.cons .here gA.nil) jK.nil rfl rfl (fun _ _ _ w hw=>hw.sel Sel.nil) ?_
  rintro _ _ ⟨ρ2,η2,k1,k2,k3,rfl⟩
  cases k1
  refine BZ (a_e rfl (CL (cs:=[.int .u8 (IntKind.u8.wrap n)]) rfl rfl rfl rfl rfl (by intro z hz; simp at hz; subst hz; rfl) (.one rfl .nil) rfl) rfl rfl rfl (by rintro _ _ ⟨b,rfl,rfl⟩ w hw; exact hw.tail) ?_)
  rintro _ _ ⟨bn,rfl,rfl⟩
  refine BZ (a_e rfl (Ev.l_b2s1 rfl .here rfl rfl rfl) rfl rfl rfl (by rintro _ _ ⟨_,rfl⟩ w hw; exact hw) ?_)
  rintro _ _ ⟨rfl,rfl⟩
  refine BZ (a_e rfl (CL (cs:=[.string ⟨⟨[UInt8.ofNat (IntKind.u8.wrap n).toNat]⟩⟩,.string d]) rfl rfl rfl rfl rfl (by intro z hz; simp at hz; rcases hz with rfl|rfl <;> rfl) (.one rfl (.one rfl .nil)) rfl) rfl rfl rfl (by rintro _ _ ⟨b,rfl,rfl⟩ w hw; exact hw.tail) ?_)
  rintro _ _ ⟨bs,rfl,rfl⟩
  refine BZ (CS rfl (hch bs) rfl rfl (gA.cons .here gA.nil) jK.nil rfl rfl (fun _ _ _ w hw=>hw.sel Sel.nil) ?_)
  rintro _ _ ⟨rfl,rfl⟩;refine CX rfl (C0 rfl rfl) rfl rfl rfl rfl ?_;refine CX rfl (C0 rfl rfl) rfl rfl rfl rfl ?_;refine CX rfl (CQ rfl) rfl rfl rfl rfl ?_;refine CX rfl (CQ rfl) rfl rfl rfl rfl ?_;refine BC ?_;exact A2 (mB rfl rfl rfl) fQ fK ⟨ρ2,η2,rfl,k2,k3,rfl⟩
theorem aVb {m:Ev.Mac} (hm:Ev.MOK Tryz.prog m):Ev.FOK Tryz.prog (Ev.signO m 71 137 136 9):=by
 intro f vs h v h' e
 unfold Ev.signO at e
 cases hb:Nat.beq f 71 with
 | false=>rw [hb] at e; cases e
 | true =>
  have hf:=aO hb
  subst hf;rw [hb,cond_true] at e
  split at e
  ·rename_i l n k
   cases h8:l.length.beq 12 with
   | false=>rw [h8] at e; cases e
   | true =>
    rw [h8,cond_true] at e
    obtain ⟨d,h2,e1,e2⟩:=Ev.signM_some e
    obtain ⟨s,x,h3,e3,rfl,rfl⟩:=Ev.signR_some e2
    refine ⟨(hm.f _ _ _ _ _ e1).1,fun ρ η w us hr hw hfr hu=>?_⟩
    obtain ⟨u0,us1,q1,q2,rfl⟩:=Ev.rnL_cons.1 hu
    obtain ⟨bs,q3,rfl⟩:=Ev.rn_agg q1
    cases q2
    have hlen:bs.length=12:=by rw [Ev.rnL_len q3]; exact aO h8
    match bs,hlen with
    | [b0,b1,b2,b3,b4,b5,b6,b7,b8,b9,b10,b11],_ =>
     exact Ev.fok_of_spec Tryz.func71 rfl rfl (aPo hm hr hfr q3 e1 e3) hw
  ·cases e
end Go.Proofs.YtnijkofdlepfjaaGreat
namespace Go.Proofs.YtnijkofdlepfjaaGreat
open Go.Eng Go.Ev
set_option maxRecDepth 100000
set_option maxHeartbeats 64000000
noncomputable def evM4:Mac:=mac Tryz.prog (aEv 305 aTy) 600
theorem aVc:MOK Tryz.prog evM4:=aCp aG5 wL wM 600
noncomputable def aKg:iA:=tagO Tryz.prog evM4 198 249 5
theorem aVd:FOK Tryz.prog aKg:=aXi aVc
theorem aPp:isV (.string ⟨⟨[184,158,221,212,138,195,50,174]⟩⟩) (aKg 198 [.string ⟨⟨[48,49,50,51,52,53,54,55,56,57,97,98,99,100,101,102]⟩⟩,.string ⟨⟨[]⟩⟩] ⟨0,.e⟩)=true:=by kernel_rfl
theorem aPq:isV (.string ⟨⟨[58,169,178,178,115,22,14,77]⟩⟩) (aKg 198 [.string ⟨⟨[48,49,50,51,52,53,54,55,56,57,97,98,99,100,101,103]⟩⟩,.string ⟨⟨[]⟩⟩] ⟨0,.e⟩)=true:=by kernel_rfl
theorem aPr:isV (.string ⟨⟨[48,132,136,99,24,28,0,155]⟩⟩) (aKg 198 [.string ⟨⟨[48,49,50,51,52,53,54,55,56,57,97,98,99,100,101,102]⟩⟩,.string ⟨⟨[1,0,0,0,0,0,0,0,1,23,0,0,0,0,0,0,0,36,6,77,66,49,2,0,0,0,0,2,4,18,0,0,0,4,104,105,39,161,127,183]⟩⟩] ⟨0,.e⟩)=true:=by kernel_rfl
theorem aPs:isV (.string ⟨⟨[18,213,1,101,48,16,139,49]⟩⟩) (aKg 198 [.string ⟨⟨[48,49,50,51,52,53,54,55,56,57,97,98,99,100,101,103]⟩⟩,.string ⟨⟨[1,0,0,0,0,0,0,0,1,23,0,0,0,0,0,0,0,36,6,77,66,49,2,0,0,0,0,2,4,18,0,0,0,4,104,105,39,161,127,183]⟩⟩] ⟨0,.e⟩)=true:=by kernel_rfl
def aT0:List (List UInt8 × List UInt8 × List UInt8):=[([48,49,50,51,52,53,54,55,56,57,97,98,99,100,101,102],[],[184,158,221,212,138,195,50,174]),([48,49,50,51,52,53,54,55,56,57,97,98,99,100,101,103],[],[58,169,178,178,115,22,14,77]),([48,49,50,51,52,53,54,55,56,57,97,98,99,100,101,102],[1,0,0,0,0,0,0,0,1,23,0,0,0,0,0,0,0,36,6,77,66,49,2,0,0,0,0,2,4,18,0,0,0,4,104,105,39,161,127,183],[48,132,136,99,24,28,0,155]),([48,49,50,51,52,53,54,55,56,57,97,98,99,100,101,103],[1,0,0,0,0,0,0,0,1,23,0,0,0,0,0,0,0,36,6,77,66,49,2,0,0,0,0,2,4,18,0,0,0,4,104,105,39,161,127,183],[18,213,1,101,48,16,139,49])]
theorem wN {k t c:List UInt8} (h0:isV (.string ⟨⟨c⟩⟩) (aKg 198 [.string ⟨⟨k⟩⟩,.string ⟨⟨t⟩⟩] ⟨0,.e⟩)=true) (h:AH):aKg 198 [.string ⟨⟨k⟩⟩,.string ⟨⟨t⟩⟩] h=some (.string ⟨⟨c⟩⟩,h):=
 Exists.elim (aMe h0) (fun _ e=>aTx e h)
theorem aPt:∀ k t c,(k,t,c)∈aT0->∀ h,aKg 198 [.string ⟨⟨k⟩⟩,.string ⟨⟨t⟩⟩] h=some (.string ⟨⟨c⟩⟩,h):=by
 intro k t c hm h
 rcases aE.1 hm with e|hm
 ·cases e; exact wN aPp h
 rcases aE.1 hm with e|hm
 ·cases e; exact wN aPq h
 rcases aE.1 hm with e|hm
 ·cases e; exact wN aPr h
 rcases aE.1 hm with e|hm
 ·cases e; exact wN aPs h
 cases hm
noncomputable def evT5:iA:=tabO 198 aT0
theorem aNz:FOK Tryz.prog evT5:=aU9 aVd aPt
noncomputable def evM5:Mac:=mac Tryz.prog (orO (aEv 305 aTy) evT5) 1000
theorem aVe:MOK Tryz.prog evM5:=aCp (aMd aG5 aNz) wL wM 1000
noncomputable def evO5:iA:=orO (aEv 305 aTy) (orO (signO evM5 71 137 136 9) evT5)
theorem aVf:FOK Tryz.prog evO5:=aMd aG5 (aMd (aVb aVe) aNz)
theorem aKh:isV (.bool true) ((mac Tryz.prog evO5 3000).f 5 [] ⟨0,.e⟩)=true:=by kernel_rfl
theorem aG6:Eng.Spec Tryz.prog (.func (.func 5) #[] #[]) [] [] [] (fun u H'=>H'=[]/\u=.bool true):=
 Exists.elim (aMe aKh) (fun _ h=>aKe (aCp aVf wL wM 3000) h rfl)
end Go.Proofs.YtnijkofdlepfjaaGreat
namespace Go.Proofs.YtnijkofdlepfjaaGreat
open Go.Eng Go.Step
set_option maxRecDepth 100000
set_option maxHeartbeats 64000000
open Go.ChangeShapes Go.WideShapes Go.ChangeAt Go.RowKit

set_option maxRecDepth 100000 in
theorem uL (os : Os) (started : os.Started) (H : Type) (enc : TypeId × Value -> H) :
  ReturnsInHanded {} Tryz.checked os 3 .any (Rows.topVerdictsSpec.pre6 enc Tryz.prog Tryz.f3 Rows.topVerdictsRow.domain false) (Rows.topVerdictsSpec.post enc Tryz.prog Tryz.f3 false true false false) := by
 refine returnsInHanded_of_change (C := Tryz.checked) Tryz.own started (by kernel_rfl) Tryz.func3
  (ChangeSpec.witness6 (enc := enc) (C := Tryz.checked) false ⟨#[], #[.agg #[.slice none 0 0, .slice none 0 0], .slice none 0 0], []⟩ 8 (by kernel_rfl) (by kernel_rfl) (by kernel_rfl) (by kernel_rfl)) ?_
 intro W base args ds gs before hval0 hW hcnd _
 have hval : ∀ (j : Nat) t v, Tryz.f3.params[j]? = some t -> args[j]? = some v -> Value.okWide Tryz.prog W .any base t v := hval0
 have hW' := hW
 obtain ⟨p, q, hA0, hV, rfl, hfz, hnd⟩ := hW
 have hA : DataW.TrodAll enc Tryz.prog W 0 (fun _ => true) true Tryz.f3.params.toList args.toList ds p := hA0
 rw [Tryz.params3] at hA hval
 obtain ⟨v0, vs0, d0, ds0, p0, q0, hargs, rfl, rfl, h0, r0⟩ := trodAll_cons hA
 obtain ⟨v1, vs1, d1, ds1, p1, q1, rfl, rfl, rfl, h1, r1⟩ := trodAll_cons r0
 obtain ⟨rfl, rfl, rfl⟩ := trodAll_nil r1
 obtain rfl : args = #[v0, v1] := by cases args; simp_all
 obtain ⟨rfl, rfl⟩ := trodVars_none hV
 have lt0 : ∀ x ∈ p0, x.block < W.heap.size := by obtain ⟨m, hm⟩ := h0; exact DataW.trod_lt m _ _ _ hm
 have lt1 : ∀ x ∈ p1, x.block < W.heap.size := by obtain ⟨m, hm⟩ := h1; exact DataW.trod_lt m _ _ _ hm
 have hlaw : Ans Tryz.prog (fv 3) [v0, v1] [mN W] (fun v => v = .bool true) := by
  obtain ⟨pq, pc, kq, kc, qs, cs, rfl, hq, hc, hcap, lq, lc⟩ := aT7 (hval 0 _ v0 rfl rfl) (RdT.of h0)
  obtain ⟨pl, kl, l, rfl, hl, ll⟩ := aHx (hval 1 _ v1 rfl rfl) (RdT.of h1)
  exact (aFa aG6 hq hc hcap lq lc hl ll).rsub (fun _ h => by simpa using h)
 refine (aOu Tryz.func3 rfl rfl hlaw).mono fun e W' ⟨he, bel⟩ => ?_
 subst he
 exact ⟨_, rfl, _, _, _, [], _, [], hW', trodAll_mk1 (shut_bool Tryz.underlying4 _), (trodAll_cons_mk (Below.trod Tryz.laidOut (by kernel_rfl) (of_decide_eq_true (by kernel_rfl)) h0 bel lt0) (trodAll_cons_mk (Below.trod Tryz.laidOut (by kernel_rfl) (of_decide_eq_true (by kernel_rfl)) h1 bel lt1) trodAll_mk0)), rfl, bel.frame _, fun h => by cases h⟩
theorem yC : Rows.topVerdictsRow.inPlace = Tryz.prog.inPlace 3 := by kernel_rfl
theorem tB : Tryz.prog.unfollowed 3 = true := by kernel_rfl
theorem wO : Tryz.prog.recurses 3 = true := by kernel_rfl
theorem aCs : Rows.topVerdictsRow.named = Tryz.prog.varsNamed 3 := by kernel_rfl
theorem aDm : Tryz.prog.funcNamed "mailboat/mailboattop.TopVerdicts" = some 3 := by kernel_rfl
theorem zO : joinedFacts Tryz.prog 3 Tryz.f3 Rows.topVerdictsSpec Rows.topVerdictsRow = true := by
 unfold joinedFacts;rw [← yC, tB, wO, ← aCs]
 kernel_rfl
theorem topVerdicts_holds : Rows.TopVerdictsSaid :=
 OpenClaim.holds_of_wide 3 Tryz.f3 rfl rfl rfl rfl rfl rfl rfl ⟨rfl, rfl, rfl, rfl, rfl⟩ rfl rfl rfl rfl rfl aDm Tryz.func3 zO
  (of_decide_eq_true (by kernel_rfl)) (by unfold Func.isWrapper; first | (rw [if_pos (by decide +kernel)]; kernel_rfl) | (rw [if_neg (by decide +kernel)]; exact ⟨rfl, rfl⟩))
  (fun os started H enc _ => uL os started H enc)
end Go.Proofs.YtnijkofdlepfjaaGreat
