/- Texts of this proof, one after the other; no conditions. -/
import Derived.Test.YtglifndogffmkaaGreatProg
import Derived.LaidMore
import Derived.Lay
import Derived.Test.YtglifndogffmkaaGreatWB13
import Derived.Test.YtglifndogffmkaaGreatWB5
import Derived.Test.YtglifndogffmkaaGreatWB2
import Derived.Test.YtglifndogffmkaaGreatWB6
import Derived.Test.YtglifndogffmkaaGreatWB10
set_option linter.all false
/- Runs of closed calls, reckoned: where the reckoner and the proofs about regions that draw meet. No conditions. -/
namespace Go.Ev
open Go.Eng
variable {P : Program}
noncomputable section
def oneB (c : List Value) (t : TypeId) : AH := (AH.new ⟨0, .e⟩ (.cells c t)).getD ⟨0, .e⟩
def wordV (m : Mac) (wd : FuncId) (el : TypeId) (k : ByteArray) : Option Int := match wrS2b ⟨0, .e⟩ el (some (.string k)) with
  | some (v, h1) => match m.f wd [v] h1 with
    | some (.int .u64 n, _) => some n
    | _ => none
  | none => none
def tagRest : Code → Option Code
  | .seq (.region _ _ false) (.seq (.region _ _ true) c) => some c
  | _ => none
def putS (M : Nat) : List (Nat × Value) → Fr → Option Fr
  | [], fr => some fr
  | (d, v) :: l, fr => match putF M fr (some d) v with
    | some fr' => putS M l fr'
    | none => none
def restEnd (P : Program) (fn : Func) : Option (Ex × St) → Option Value
  | some (.ret, s) => match dropMk s.ms s.h with
    | some h2 => match evRes s.fr h2 P fn.results.toList with
      | some [v] => bif flat v then some v else none
      | _ => none
    | none => none
  | _ => none
def restOf (P : Program) (m : Mac) (tg : FuncId) (fn : Func) (l : List (Nat × Value)) : Option Value := match fn.body.bind tagRest, putS fn.ntmps l .e with
  | some c, some fr => restEnd P fn (m.c ⟨tg, fn.ntmps, none⟩ c ⟨fr, ⟨0, .e⟩, []⟩)
  | _, _ => none
def flatP : List (Nat × Value) → Bool
  | [] => true
  | (_, v) :: l => flat v && flatP l
def tagRun (P : Program) (m : Mac) (tg : FuncId) (k t : ByteArray) (a b : Option Int) : Option Value := match a, b, P.funcs[tg]? with
  | some a, some b, some fn => restOf P m tg fn [(0, .string k), (1, .string t), (4, .string ⟨⟨[]⟩⟩), (5, .int .u64 a), (6, .int .u64 b)]
  | _, _, _ => none
def pairO (h : AH) : Option Value → Option (Value × AH)
  | some v => some (v, h)
  | none => none
def tagO (P : Program) (m : Mac) (tg wd : FuncId) (el : TypeId) : CallF := fun f vs h => bif Nat.beq f tg then match vs with
  | [.string k, .string t] => bif Nat.ble 8 k.data.toList.length then pairO h (tagRun P m tg k t (wordV m wd el k) (wordV m wd el ⟨⟨k.data.toList.drop 8⟩⟩)) else none
  | _ => none else none
def signR (h2 : AH) : Option (Value × AH) → Option (Value × AH)
  | some (.tuple ⟨[.string s, .int .i64 e]⟩, _) => some (.tuple ⟨[.string s, .int .i64 e]⟩, h2)
  | _ => none
def signM (m : Mac) (ch : FuncId) (el : TypeId) (n : Int) (k : ByteArray) : Option (Value × AH) → Option (Value × AH)
  | some (.string d, h2) => signR h2 (m.f ch [.string k, .slice (some ⟨0, 0, none⟩) 2 2] (oneB [.string ⟨⟨[UInt8.ofNat (wr .u8 n).toNat]⟩⟩, .string d] el))
  | _ => none
def signO (m : Mac) (sg dg ch : FuncId) (el : TypeId) : CallF := fun f vs h => bif Nat.beq f sg then match vs with
  | [.agg ⟨l⟩, .int .i64 n, .string k] => bif l.length.beq 12 then signM m ch el n k (m.f dg [.agg ⟨l⟩] h) else none
  | _ => none else none
def lookT : List (List UInt8 × List UInt8 × List UInt8) → List UInt8 → List UInt8 → Option Value
  | [], _, _ => none
  | (a, b, c) :: l, k, t => bif beB a k && beB b t then some (.string ⟨⟨c⟩⟩) else lookT l k t
def tabO (tg : FuncId) (tab : List (List UInt8 × List UInt8 × List UInt8)) : CallF := fun f vs h => bif Nat.beq f tg then match vs with
  | [.string k, .string t] => pairO h (lookT tab k.data.toList t.data.toList)
  | _ => none else none
def orO (a b : CallF) : CallF := fun f vs h => match a f vs h with
  | some r => some r
  | none => b f vs h
end
theorem orO_ok {a b : CallF} (ha : FOK P a) (hb : FOK P b) : FOK P (orO a b) := by
  intro f vs h v h' e
  unfold orO at e
  split at e
  · rename_i r hr
    cases e
    exact ha _ _ _ _ _ hr
  · exact hb _ _ _ _ _ e
def EvR (P : Program) (h : AH) (v u : Value) (η : PH) : Prop := ∃ ρ : Rn, rn ρ v = some u ∧ HR P ρ h η ∧ ∀ i, h.next ≤ i → ρ i = none
theorem upd_out {η η' : PH} {w w' : World} (u : Upd [η] [η'] w w') : Upd [η] [] w w' := ⟨u.size, u.keep, by simp, by simp, by simp⟩
theorem fok_spec {cf : CallF} (hc : FOK P cf) {f : FuncId} {h h' : AH} {vs us : List Value} {v : Value} (e : cf f vs h = some (v, h')) {ρ : Rn} {η : PH} (hr : HR P ρ h η) (hf : Fresh ρ h.next h'.next) (hu : rnL ρ vs = some us) :
    Eng.Spec P (.func (.func f) #[] #[]) us [] [η] (fun u H' => ∃ ρ' η', rn ρ' v = some u ∧ HR P ρ' h' η' ∧ Ext ρ ρ' h.next h'.next ∧ H' = [η']) := by
  intro N w hs
  unfold CallsV
  obtain ⟨c1, c2⟩ := (hc _ _ _ _ _ e).2 ρ η w us hr (hs.h η (by simp)) hf hu
  have hrun : ((do let d ← Deferred.ofValue (.func (.func f) #[] #[]) us.toArray; invoke d.target d.args : Sem Next).run P w) = .ok (.enter f us.toArray) w := by
    rw [← c1]
    simp [Deferred.ofValue, invoke]
  rw [hrun];refine CallsIn.mono c2 ?_;rintro e w' ⟨u, rfl, ρ', η', k1, k2, k3, k4⟩;exact ⟨u, rfl, [η'], ⟨ρ', η', k1, k2, k4, rfl⟩, k3⟩
theorem fok_spec1 {cf : CallF} (hc : FOK P cf) {f : FuncId} {h h' : AH} {v u y : Value} (e : cf f [v] h = some (y, h')) (hy : flat y = true) {η : PH} (r : EvR P h v u η) :
    Eng.Spec P (.func (.func f) #[] #[]) [u] [] [η] (fun x H' => x = y ∧ H' = []) := by
  obtain ⟨ρ, r1, r2, r3⟩ := r
  intro N w hs
  refine (fok_spec hc e r2 (fun i h1 _ => r3 i h1) (rnL_cons.2 ⟨_, _, r1, rnL_nil, rfl⟩) N w hs).mono ?_
  rintro x w' ⟨H', ⟨ρ', η', k1, _, _, rfl⟩, u⟩;rw [rn_flat hy] at k1
  cases k1
  exact ⟨[], ⟨rfl, rfl⟩, upd_out u⟩
theorem fok_of_spec {f : FuncId} {fn : Func} {c : Code} (hfn : P.funcs[f]? = some fn) (hb : fn.body = some c) (hname : (fn.name == "runtime.NumGoroutine") = false) {us : List Value} {v : Value} {h h' : AH} {ρ : Rn} {η : PH}
    (hs : Eng.Spec P (.func (.func f) #[] #[]) us [] [η] (fun u H' => ∃ ρ' η', rn ρ' v = some u ∧ HR P ρ' h' η' ∧ Ext ρ ρ' h.next h'.next ∧ H' = [η'])) {w : World} (hw : η.le w) :
    (callFunc f us.toArray).run P w = .ok (.enter f us.toArray) w ∧ CallsIn Fence.wide 0 P f us.toArray w (fun e w' => ∃ u, e = .returned u ∧ ∃ ρ' η', rn ρ' v = some u ∧ After P ρ η w h h' ρ' η' w') := by
  have hcf : (callFunc f us.toArray).run P w = .ok (.enter f us.toArray) w := by
    have hname' : ¬ fn.name = "runtime.NumGoroutine" := by simpa using hname
    simp [callFunc, program, Sem.run, bind, Sem.bind, pure, hfn, hb, hname']
  refine ⟨hcf, ?_⟩
  have hsat : Sat (.of w) [] [η] w := ⟨⟨Nat.le_refl _, rfl, rfl, rfl, Nat.le_refl _⟩, by simp, by simpa using hw, by simp, by simp⟩
  have h1 := hs (.of w) w hsat
  unfold CallsV at h1
  have hrun : ((do let d ← Deferred.ofValue (.func (.func f) #[] #[]) us.toArray; invoke d.target d.args : Sem Next).run P w) = .ok (.enter f us.toArray) w := by
    rw [← hcf]
    simp [Deferred.ofValue, invoke]
  rw [hrun] at h1;refine CallsIn.mono h1 ?_;rintro e w' ⟨u, rfl, H', ⟨ρ', η', k1, k2, k3, rfl⟩, k5⟩;exact ⟨u, rfl, ρ', η', k1, k2, k5, k3⟩
theorem spec_frame {f : Value} {us : List Value} {v : Value} {h : AH} {ρ : Rn} {η : PH} (hv : flat v = true) (hr : HR P ρ h η) (hs : Eng.Spec P f us [] [] (fun u H' => u = v ∧ H' = [])) :
    Eng.Spec P f us [] [η] (fun u H' => ∃ ρ' η', rn ρ' v = some u ∧ HR P ρ' h η' ∧ Ext ρ ρ' h.next h.next ∧ H' = [η']) := by
  intro N w hsat
  have h0 : Sat N [] [] w := ⟨hsat.sz, by simp, by simp, by simp, by simp⟩
  refine (hs N w h0).mono ?_;rintro u w' ⟨H', ⟨rfl, rfl⟩, k⟩;exact ⟨[η], ⟨ρ, η, rn_flat hv, hr, Ext.refl, rfl⟩, Upd.frame (H := []) (H1 := []) (F := [η]) hsat k⟩
section
variable {C : Cx} {R H : List PH} {L : Env} {dst : Option Tmp} {ty : TypeId} {pos : String} {aft : Array Edge} {g : Option (Nat × Bool)}
theorem Sat.emp' {N : Bs} {w : World} (hs : Sat N R H w) : Sat N R ((fun _ => none) :: H) w :=
  ⟨hs.sz, hs.r, fun ρ hr => by
      simp at hr
      rcases hr with rfl | hr
      · intro b o hb; simp at hb
      · exact hs.h ρ hr, List.pairwise_cons.2 ⟨fun _ _ _ => .inl rfl, hs.hd⟩, fun ρ hr σ hσ => by
      simp at hσ
      rcases hσ with rfl | hσ
      · exact fun _ => .inr rfl
      · exact hs.rd ρ hr σ hσ⟩
theorem l_s2b {sT dT e : TypeId} {x : Operand} {s : ByteArray} {v : Value} {h1 : AH} (hx : evalE L x = some (.string s)) (hw : wrS2b ⟨0, .e⟩ e (some (.string s)) = some (v, h1))
    (h1' : C.P.underlying sT = some .string) (h2' : C.P.underlying dT = some (.slice e)) (h3' : C.P.underlying e = some (.int .u8)) (h4' : szP C.P e = some 1) :
    Loud C R H L ⟨dst, .convert sT dT x, ty, pos, aft, g⟩ (fun u H' => ∃ η, EvR C.P h1 v u η ∧ H' = η :: H) := by
  refine ⟨fun a w hxx hsat next Q hnx => ?_⟩
  have hxv := hxx x (by simp [Op.operands]) _ hx
  have hlok : LOK C.P (fun _ => none) (fun _ => none) (fun _ => a.eval x) w ⟨0, .e⟩ ⟨dst, .convert sT dT (.const (.string s)), ty, pos, aft, g⟩ v h1 :=
    w_s2b (P := C.P) (fr := .e) (wr := .s2b e (.c (.string s))) (by simp [inOf, odOf, inConv, h1', h2', h3', h4', flat]) hw hr_empty (by intro b o hb; cases hb) trivial (fun y hy u hu _ => by
      simp at hy; subst hy
      simp only [evX, Option.some.injEq] at hu;subst hu
      exact ⟨_, rfl, hxv⟩)
  obtain ⟨n1, k⟩ := hlok
  obtain ⟨u, ρ', η', w', k1, k2, k3, k4, k5⟩ := k (fun i _ _ => rfl)
  have hex : (execOp a.eval ⟨dst, .convert sT dT x, ty, pos, aft, g⟩).run C.P w = (execOp (fun _ => a.eval x) ⟨dst, .convert sT dT (.const (.string s)), ty, pos, aft, g⟩).run C.P w := by simp [execOp]
  have hs2 : Sat C.N R (η' :: H) w' := Sat.upd (H1 := [fun _ => none]) (H1' := [η']) (F := H) (Sat.emp' hsat) k4
  have hev : EvR C.P h1 v u η' := ⟨ρ', k2, k3, fun i hi => by
    cases hρ : ρ' i with
    | none => rfl
    | some z =>
      rcases k5.2 i (by rw [hρ]; simp) with h | h
      · exact absurd rfl h
      · omega⟩
  rcases k1 with k1 | ⟨k1, rfl⟩
  · exact wpIn_value (by intro c; simp) (by rw [hex]; exact k1) (hnx _ _ _ ⟨η', hev, rfl⟩ hs2)
  · exact wpIn_skipv (by intro c; simp) (by rw [hex]; exact k1) (hnx _ _ _ ⟨η', hev, rfl⟩ hs2)
theorem putS_get {M : Nat} : ∀ {l : List (Nat × Value)} {fr fr' : Fr}, putS M l fr = some fr' → ∀ t v, fr'.get t = some v → (t, v) ∈ l ∨ fr.get t = some v
  | [], fr, fr', e, t, v, h => by cases e; exact .inr h
  | (d, u) :: l, fr, fr', e, t, v, h => by
    simp only [putS] at e
    split at e
    · rename_i fr1 h1
      rcases putS_get e t v h with h2 | h2
      · exact .inl (by simp [h2])
      · rw [putF_get h1] at h2
        split at h2
        · rename_i hd; cases hd; cases h2; exact .inl (by simp)
        · exact .inr h2
    · cases e
theorem flatP_mem : ∀ {l : List (Nat × Value)}, flatP l = true → ∀ d u, (d, u) ∈ l → flat u = true
  | [], _, d, u, h => by cases h
  | (e, v) :: l, hf, d, u, h => by
    simp only [flatP, Bool.and_eq_true] at hf
    rcases List.mem_cons.1 h with h | h
    · cases h; exact hf.1
    · exact flatP_mem hf.2 d u h
theorem restEnd_some {fn : Func} {x : Option (Ex × St)} {v : Value} (h : restEnd P fn x = some v) : ∃ s h2, x = some (.ret, s) ∧ dropMk s.ms s.h = some h2 ∧ evRes s.fr h2 P fn.results.toList = some [v] ∧ flat v = true := by
  unfold restEnd at h
  split at h
  · split at h
    · rename_i h2 hd
      split at h
      · rename_i v' hl
        cases hf : flat v' with
        | false => rw [hf] at h; cases h
        | true => rw [hf] at h; cases h; exact ⟨_, _, rfl, hd, hl, hf⟩
      · cases h
    · cases h
  · cases h
theorem jk_rest {P : Program} {m : Mac} (hm : MOK P m) {fn : Func} {tg : FuncId} {c : Code} {l : List (Nat × Value)} {N : Bs} {R R0 H : List PH} {L : Env} {post : Value → List PH → Prop} {v : Value}
    (h : restOf P m tg fn l = some v) (hc : fn.body.bind tagRest = some c) (hl : ∀ d u, (d, u) ∈ l → Eng.look L d = some u) (hfl : flatP l = true) (hR : ∀ ρ ∈ R0, ρ ∈ R) (hp : post v []) :
    JK ⟨none, P, FnQ P fn N R0 post, N, fn.ntmps⟩ [] R H L [.code c] := by
  unfold restOf at h;rw [hc] at h
  cases hfr : putS fn.ntmps l .e with
  | none => rw [hfr] at h; cases h
  | some fr =>
  rw [hfr] at h
  obtain ⟨s, h2, e, hd, hev, hv⟩ := restEnd_some h
  refine ⟨fun a w hf hdf hs => ?_⟩
  obtain ⟨_, g1⟩ := hm.c _ _ _ _ _ e
  have hfk : FK (fun _ => none) fr (fun t => a.tmps.getD t undef) := fun t u hu => by
    rcases putS_get hfr t u hu with h3 | h3
    · exact ⟨u, rn_flat (flatP_mem hfl t u h3), hf.get t u (hl t u h3)⟩
    · cases h3
  refine (show c.wpIn (wideR none) 0 P _ _ w from g1 (fun _ => none) (fun _ => none) a w none _ trivial ⟨hf.size, hfk, by rw [hdf]; exact .nil, hr_empty, (by intro b o hb; cases hb)⟩ (fun i _ _ => rfl) (fun ρ' η' a' w' si u x => ?_))
  show MarksQ P fn a'.tmps (fun v w' => ∃ H', post v H' ∧ Sat N R0 H' w') a'.defers w'
  obtain ⟨_, g2⟩ := marks_ok (fn := fn) (tmps := a'.tmps) (S := fun v w' => ∃ H', post v H' ∧ Sat N R0 H' w') hd si.mks si.hr si.le
  refine g2 (fun η2 w2 r2 u2 => ?_)
  obtain ⟨uu, t1, t2⟩ := results_ok r2 (u2.own _ (by simp)) si.fk hev
  rw [show one [v] = v from rfl, rn_flat hv] at t1
  cases t1
  have hs2 : Sat N R ([η2] ++ H) w2 := Sat.upd (H1 := [fun _ => none]) (H1' := [η2]) (F := H) (Sat.emp' hs) (Upd.comp u u2)
  exact ⟨v, t2, [], hp, (hs2.rsub hR).sel .nil⟩
theorem extract_drop (s : ByteArray) (n : Nat) : s.extract n s.size = ⟨⟨s.data.toList.drop n⟩⟩ := by
  apply ByteArray.ext
  rw [ByteArray.data_extract]
  apply Array.ext'
  simp
  rw [List.take_of_length_le]
  simp
theorem q_strL {t : TypeId} {x : Operand} {s : ByteArray} (n : Nat) {k : IntKind} (hx : evalE L x = some (.string s)) (ht : C.P.underlying t = some .string) (hn : n ≤ s.size) :
    Quiet C R H L ⟨dst, .slice t x (some (.const (.int k (n : Int)))) none none, ty, pos, aft, g⟩ (.string ⟨⟨s.data.toList.drop n⟩⟩) :=
  ⟨by simp, fun a w hxx _ => by
    have e := hxx x (by simp [Op.operands]) _ hx
    have ec : a.eval (.const (.int k (n : Int))) = .int k (n : Int) := rfl
    simp [execOp, e, ec, run_sliceAt_string w t _ _ _ _ ht, run_slice_string_l (P := C.P) w t s ht k (n : Int) (by omega) (by omega), extract_drop]⟩
theorem wordV_some {m : Mac} {wd : FuncId} {el : TypeId} {k : ByteArray} {x : Int} (h : wordV m wd el k = some x) : ∃ v h1 h2, wrS2b ⟨0, .e⟩ el (some (.string k)) = some (v, h1) ∧ m.f wd [v] h1 = some (.int .u64 x, h2) := by
  unfold wordV at h
  split at h
  · rename_i v h1 e
    split at h
    · rename_i n h2 e2
      cases h
      exact ⟨v, h1, h2, e, e2⟩
    · cases h
  · cases h
def LkA (L : Env) : List (Nat × Value) → Prop
  | [] => True
  | (d, v) :: l => Eng.look L d = some v ∧ LkA L l
theorem LkA.get {L : Env} : ∀ {l : List (Nat × Value)}, LkA L l → ∀ d v, (d, v) ∈ l → Eng.look L d = some v
  | [], _, d, v, h => by cases h
  | (e, u) :: l, hl, d, v, h => by
    rcases List.mem_cons.1 h with h | h
    · cases h; exact hl.1
    · exact LkA.get hl.2 d v h
theorem signR_some {h2 h' : AH} {x : Option (Value × AH)} {v : Value} (h : signR h2 x = some (v, h')) : ∃ s e h3, x = some (.tuple #[.string s, .int .i64 e], h3) ∧ v = .tuple #[.string s, .int .i64 e] ∧ h' = h2 := by
  unfold signR at h
  split at h
  · cases h; exact ⟨_, _, _, rfl, rfl, rfl⟩
  · cases h
theorem signM_some {m : Mac} {ch : FuncId} {el : TypeId} {n : Int} {k : ByteArray} {x : Option (Value × AH)} {v : Value} {h' : AH} (h : signM m ch el n k x = some (v, h')) : ∃ d h2, x = some (.string d, h2) ∧
    signR h2 (m.f ch [.string k, .slice (some ⟨0, 0, none⟩) 2 2] (oneB [.string ⟨⟨[UInt8.ofNat (wr .u8 n).toNat]⟩⟩, .string d] el)) = some (v, h') := by
  unfold signM at h
  split at h
  · exact ⟨_, _, rfl, h⟩
  · cases h
theorem one_new {c : List Value} {t : TypeId} : AH.new ⟨0, .e⟩ (.cells c t) = some (oneB c t) := rfl
theorem hr_one {b : Nat} {c : List Value} {t : TypeId} (hc : rnL (fun _ => none) c = some c) : HR P (setR (fun _ => none) 0 (b, 0, 0)) (oneB c t) (sng b (.cells c.toArray t (0, 0))) :=
  HR.new hr_empty one_new rfl rfl (or_cells hc _ (setR_le rfl))
theorem fok_specL {cf : CallF} (hc : FOK P cf) {f : FuncId} {h h' : AH} {vs us : List Value} {y : Value} (e : cf f vs h = some (y, h')) (hy : flat y = true) {ρ : Rn} {η : PH} (hr : HR P ρ h η) (hf : Fresh ρ h.next h'.next) (hu : rnL ρ vs = some us) :
    Eng.Spec P (.func (.func f) #[] #[]) us [] [η] (fun x H' => x = y ∧ H' = []) := by
  intro N w hs
  refine (fok_spec hc e hr hf hu N w hs).mono ?_;rintro x w' ⟨H', ⟨ρ', η', k1, _, _, rfl⟩, u⟩;rw [rn_flat hy] at k1
  cases k1
  exact ⟨[], ⟨rfl, rfl⟩, upd_out u⟩
theorem two_spec {cf : CallF} (hc : FOK P cf) {f : FuncId} {h' : AH} {k x y : ByteArray} {t : TypeId} {v : Value} (e : cf f [.string k, .slice (some ⟨0, 0, none⟩) 2 2] (oneB [.string x, .string y] t) = some (v, h')) (hv : flat v = true) (b : Nat) :
    Eng.Spec P (.func (.func f) #[] #[]) [.string k, .slice (some ⟨b, 0, none⟩) 2 2] [] [sng b (.cells #[.string x, .string y] t (0, 0))] (fun x H' => x = v ∧ H' = []) :=
  fok_specL hc e hv (hr_one (c := [.string x, .string y]) rfl) (fun i h1 _ => by
    have h1 : 1 ≤ i := h1
    unfold setR; rw [if_neg (by omega)]) (rnL_cons.2 ⟨_, _, rfl, rnL_cons.2 ⟨_, _, by rw [rn_sl1 rn_new (by decide)], rnL_nil, rfl⟩, rfl⟩)
theorem l_b2s1 {sT dT e : TypeId} {x : Operand} {b : Nat} {n : Int} {t : TypeId} {fz : Nat × Nat} {H1 : List PH} (hx : evalE L x = some (.slice (some ⟨b, 0, none⟩) 1 1)) (ht : Take (sng b (.cells #[.int .u8 n] t fz)) H H1)
    (h1' : C.P.underlying sT = some (.slice e)) (h2' : C.P.underlying e = some (.int .u8)) (h3' : C.P.underlying dT = some .string) :
    Loud C R H L ⟨dst, .convert sT dT x, ty, pos, aft, g⟩ (fun u H' => u = .string ⟨⟨[UInt8.ofNat n.toNat]⟩⟩ ∧ H' = H) := by
  refine Quiet.loud ⟨by simp, fun a w hxx hs => ?_⟩
  have hxv := hxx x (by simp [Op.operands]) _ hx
  have hb : w.heap[b]? = some (.cells #[.int .u8 n] t fz) := (hs.h _ ht.mem) b _ (sng_self b _)
  have hcells : (loadCells ⟨b, 0, none⟩ 1).run C.P w = .ok (([n] : List Int).map (Value.int .u8)).toArray w :=
    loadCells_run (P := C.P) (us := [.int .u8 n]) (fun j u hu => by
      cases j with
      | zero => cases hu; simp [World.cell?, hb]
      | succ j => simp at hu)
  simp only [execOp, hxv];refine run_value ?_;rw [run_convert_bytes_string w sT dT e _ 1 1 h1' h2' h3', run_bytesToString (P := C.P) w ⟨b, 0, none⟩ 1 1 [n] hcells]
  rfl
theorem rn_aggL {ρ : Rn} {l us : List Value} (h : rnL ρ l = some us) : rn ρ (.agg ⟨l⟩) = some (.agg us.toArray) := by
  simp only [rn, rnR, h]
theorem restOf_flat {m : Mac} {tg : FuncId} {fn : Func} {l : List (Nat × Value)} {v : Value} (h : restOf P m tg fn l = some v) : flat v = true := by
  unfold restOf at h
  split at h
  · obtain ⟨_, _, _, _, _, hv⟩ := restEnd_some h
    exact hv
  · cases h
theorem tagRun_some {m : Mac} {tg : FuncId} {k t : ByteArray} {a b : Option Int} {v : Value} (h : tagRun P m tg k t a b = some v) : ∃ x y fn, a = some x ∧ b = some y ∧ P.funcs[tg]? = some fn ∧ restOf P m tg fn [(0, .string k), (1, .string t), (4, .string ⟨⟨[]⟩⟩), (5, .int .u64 x), (6, .int .u64 y)] = some v := by
  unfold tagRun at h
  split at h
  · rename_i x y fn hfn
    exact ⟨x, y, fn, rfl, rfl, hfn, h⟩
  · cases h
theorem pairO_some {h h' : AH} {x : Option Value} {v : Value} (e : pairO h x = some (v, h')) : x = some v ∧ h' = h := by
  cases x with
  | none => cases e
  | some u => cases e; exact ⟨rfl, rfl⟩
theorem lookT_some : ∀ {tab : List (List UInt8 × List UInt8 × List UInt8)} {k t : List UInt8} {v : Value}, lookT tab k t = some v → ∃ c, (k, t, c) ∈ tab ∧ v = .string ⟨⟨c⟩⟩
  | (a, b, c) :: l, k, t, v, h => by
    simp only [lookT] at h
    cases hb : (beB a k && beB b t) with
    | true =>
      rw [hb, cond_true] at h
      cases h
      obtain ⟨h1, h2⟩ := Bool.and_eq_true_iff.1 hb
      rw [beB_eq] at h1 h2
      obtain rfl := eq_of_beq h1
      obtain rfl := eq_of_beq h2
      exact ⟨c, by simp, rfl⟩
    | false =>
      rw [hb, cond_false] at h
      obtain ⟨c', h1, h2⟩ := lookT_some h
      exact ⟨c', by simp [h1], h2⟩
theorem tabO_ok {cf : CallF} (hc : FOK P cf) {tg : FuncId} {tab : List (List UInt8 × List UInt8 × List UInt8)} (ht : ∀ k t c, (k, t, c) ∈ tab → ∀ h, cf tg [.string ⟨⟨k⟩⟩, .string ⟨⟨t⟩⟩] h = some (.string ⟨⟨c⟩⟩, h)) : FOK P (tabO tg tab) := by
  intro f vs h v h' e
  unfold tabO at e
  cases hb : Nat.beq f tg with
  | false => rw [hb] at e; cases e
  | true =>
    have hf := Nat.eq_of_beq_eq_true hb
    subst hf;rw [hb, cond_true] at e
    split at e
    · rename_i k t
      obtain ⟨e1, rfl⟩ := pairO_some e
      obtain ⟨c, h1, rfl⟩ := lookT_some e1
      exact hc _ _ _ _ _ (ht _ _ _ h1 h')
    · cases e
theorem tagO_any {m : Mac} {tg wd : FuncId} {el : TypeId} {k t : ByteArray} {v : Value} {h0 h1 : AH} (e : tagO P m tg wd el tg [.string k, .string t] h0 = some (v, h1)) (h : AH) : tagO P m tg wd el tg [.string k, .string t] h = some (v, h) := by
  unfold tagO at e ⊢;rw [Nat.beq_refl, cond_true] at e ⊢
  dsimp only at e ⊢
  cases h8 : Nat.ble 8 k.data.toList.length with
  | false => rw [h8] at e; cases e
  | true =>
    rw [h8, cond_true] at e;rw [cond_true]
    obtain ⟨e1, _⟩ := pairO_some e
    rw [e1]
    rfl
end
end Go.Ev
namespace Go.Proofs.YtglifndogffmkaaGreat
open Go.Eng Go.Ev
set_option maxRecDepth 100000
set_option maxHeartbeats 64000000

def crcL : List Nat := [0, 4067132163, 3778769143, 324072436, 3348797215, 904991772, 648144872, 3570033899, 2329499855, 2024987596, 1809983544, 2575936315, 1296289744, 3207089363, 2893594407, 1578318884, 274646895, 3795141740, 4049975192, 51262619, 3619967088, 632279923, 922689671, 3298075524, 2592579488, 1760304291, 2075979607, 2312596564, 1562183871, 2943781820, 3156637768, 1313733451, 549293790, 3537243613, 3246849577, 871202090, 3878099393, 357341890, 102525238, 4101499445, 2858735121, 1477399826, 1264559846, 3107202533, 1845379342, 2677391885, 2361733625, 2125378298, 820201905, 3263744690, 3520608582, 598981189, 4151959214, 85089709, 373468761, 3827903834, 3124367742, 1213305469, 1526817161, 2842354314, 2107672161, 2412447074, 2627466902, 1861252501, 1098587580, 3004210879, 2688576843, 1378610760, 2262928035, 1955203488, 1742404180, 2511436119, 3416409459, 969524848, 714683780, 3639785095, 205050476, 4266873199, 3976438427, 526918040, 1361435347, 2739821008, 2954799652, 1114974503, 2529119692, 1691668175, 2005155131, 2247081528, 3690758684, 697762079, 986182379, 3366744552, 476452099, 3993867776, 4250756596, 255256311, 1640403810, 2477592673, 2164122517, 1922457750, 2791048317, 1412925310, 1197962378, 3037525897, 3944729517, 427051182, 170179418, 4165941337, 746937522, 3740196785, 3451792453, 1070968646, 1905808397, 2213795598, 2426610938, 1657317369, 3053634322, 1147748369, 1463399397, 2773627110, 4215344322, 153784257, 444234805, 3893493558, 1021025245, 3467647198, 3722505002, 797665321, 2197175160, 1889384571, 1674398607, 2443626636, 1164749927, 3070701412, 2757221520, 1446797203, 137323447, 4198817972, 3910406976, 461344835, 3484808360, 1037989803, 781091935, 3705997148, 2460548119, 1623424788, 1939049696, 2180517859, 1429367560, 2807687179, 3020495871, 1180866812, 410100952, 3927582683, 4182430767, 186734380, 3756733383, 763408580, 1053836080, 3434856499, 2722870694, 1344288421, 1131464017, 2971354706, 1708204729, 2545590714, 2229949006, 1988219213, 680717673, 3673779818, 3383336350, 1002577565, 4010310262, 493091189, 238226049, 4233660802, 2987750089, 1082061258, 1395524158, 2705686845, 1972364758, 2279892693, 2494862625, 1725896226, 952904198, 3399985413, 3656866545, 731699698, 4283874585, 222117402, 510512622, 3959836397, 3280807620, 837199303, 582374963, 3504198960, 68661723, 4135334616, 3844915500, 390545967, 1230274059, 3141532936, 2825850620, 1510247935, 2395924756, 2091215383, 1878366691, 2644384480, 3553878443, 565732008, 854102364, 3229815391, 340358836, 3861050807, 4117890627, 119113024, 1493875044, 2875275879, 3090270611, 1247431312, 2660249211, 1828433272, 2141937292, 2378227087, 3811616794, 291187481, 34330861, 4032846830, 615137029, 3603020806, 3314634738, 939183345, 1776939221, 2609017814, 2295496738, 2058945313, 2926798794, 1545135305, 1330124605, 3173225534, 4084100981, 17165430, 307568514, 3762199681, 888469610, 3332340585, 3587147933, 665062302, 2042050490, 2346497209, 2559330125, 1793573966, 3190661285, 1279665062, 1595330642, 2910671697]
def crcV : Value := .agg ⟨crcL.map fun n => .int .u32 (.ofNat n)⟩
def isV (v : Value) : Option (Value × AH) → Bool
 | some (u, _) => beV u v
 | none => false
theorem isV_ok {v : Value} {x : Option (Value × AH)} (h : isV v x = true) : ∃ h', x = some (v, h') := by
 cases x with
 | none => cases h
 | some p => obtain ⟨u, h'⟩ := p; exact ⟨h', by rw [beV_eq (show beV u v = true from h)]⟩
def noGo : List Func → Bool
 | [] => true
 | f :: l => !(f.name == "runtime.NumGoroutine") && noGo l
theorem noGo_ok : ∀ {l : List Func}, noGo l = true → ∀ f ∈ l, (f.name == "runtime.NumGoroutine") = false
 | [], _, f, hf => by cases hf
 | g :: l, h, f, hf => by
  have h : (!(g.name == "runtime.NumGoroutine") && noGo l) = true := h
  rw [Bool.and_eq_true] at h
  rcases List.mem_cons.1 hf with rfl | hf
  ·simpa using h.1
  ·exact noGo_ok h.2 f hf
theorem names_ok : ∀ (f : FuncId) (fn : Func), Tryz.prog.funcs[f]? = some fn → (fn.name == "runtime.NumGoroutine") = false := fun f fn h =>
 noGo_ok (l := Tryz.prog.funcs.toList) (by kernel_rfl) fn (by rw [Array.mem_toList_iff]; exact Array.mem_of_getElem? h)
theorem mixed_ok : Tryz.prog.follows .mixedOrders = true := by kernel_rfl
theorem crc_run : isV crcV ((mac Tryz.prog noOrc 400).f 293 [] ⟨0, .e⟩) = true := by kernel_rfl
theorem crc_orc : FOK Tryz.prog (orcOf 293 crcV) :=
 Exists.elim (isV_ok crc_run) (fun _ h => orcOf_ok (mac_ok noOrc_ok names_ok mixed_ok 400) h (by kernel_rfl))
end Go.Proofs.YtglifndogffmkaaGreat
namespace Go.Proofs.YtglifndogffmkaaGreat
open Go.Eng Go.Step
set_option maxRecDepth 100000
set_option maxHeartbeats 64000000
theorem tag_spec {m:Ev.Mac} (hm:Ev.MOK Tryz.prog m) {k t:ByteArray} {v:Value} {x y:Int} (h8:8≤k.data.toList.length) (hx:Ev.wordV m 234 5 k=some x)
  (hy:Ev.wordV m 234 5 ⟨⟨k.data.toList.drop 8⟩⟩=some y) {fn:Func} (hfn:Tryz.prog.funcs[(185:Nat)]?=some fn)
  (h:Ev.restOf Tryz.prog m 185 fn [(0,.string k),(1,.string t),(4,.string ⟨⟨[]⟩⟩),(5,.int .u64 x),(6,.int .u64 y)]=some v) :
  Eng.Spec Tryz.prog (fv 185) [.string k,.string t] [] [] (fun u H'=>u=v∧H'=[]):=by
 obtain ⟨v1,h1,h1',hx1,hx2⟩:=Ev.wordV_some hx
 obtain ⟨v2,h2,h2',hy1,hy2⟩:=Ev.wordV_some hy
 have hfe:=Option.some.inj (hfn.symm.trans Tryz.func185)
 subst hfe
 refine spec_in (cap:=[]) Tryz.func185 rfl rfl Tryz.ntmps185 rfl envZ (fun N β=>?_)
 refine Aa ?_;refine Aaj ?_
 refine BD (.p 0 (.p 3 (.p 4 (.l2 1 .e (.l2 2 .b (.l 5 .e (.l 6 .b (.q 7 (.q 8 .nil)))) 5 .e (.l 2 .b (.l 6 .b (.q 7 (.q 8 .nil))))) 5 .e (.l 1 .e (.l 2 .b (.l 6 .b (.q 7 (.q 8 .nil))))))))) [] rfl (by kernel_rfl) Sel.nil ?_
 refine EM rfl (DT rfl) rfl rfl rfl ?_;refine EM rfl (DT rfl) rfl rfl rfl ?_;refine EM rfl (Ev.q_strL 8 rfl rfl h8) rfl rfl rfl ?_;refine EE ?_ ?_
 ·refine a_e rfl (Ev.l_s2b rfl hx1 rfl rfl rfl rfl) rfl rfl rfl (by rintro _ _ ⟨η,_,rfl⟩ w hw; exact hw.tail) ?_
  rintro ux _ ⟨ηx,rx,rfl⟩;refine EE ?_ ?_
  ·refine CR rfl (Ev.fok_spec1 hm.f hx2 rfl rx) rfl rfl (Takes.cons .here Takes.nil) RdOK.nil rfl rfl (fun _ _ _ w hw=>hw.sel Sel.nil) ?_
   rintro _ _ ⟨rfl,rfl⟩
   refine B4 (a_e rfl (Ev.l_s2b rfl hy1 rfl rfl rfl rfl) rfl rfl rfl (by rintro _ _ ⟨η,_,rfl⟩ w hw; exact hw.tail) ?_)
   rintro uy _ ⟨ηy,ry,rfl⟩
   refine B4 (CR rfl (Ev.fok_spec1 hm.f hy2 rfl ry) rfl rfl (Takes.cons .here Takes.nil) RdOK.nil rfl rfl (fun _ _ _ w hw=>hw.sel Sel.nil) ?_)
   rintro _ _ ⟨rfl,rfl⟩;refine CQ rfl (CL rfl) rfl rfl rfl rfl ?_;refine CQ rfl (CL rfl) rfl rfl rfl rfl ?_;refine BE ?_;exact Ev.jk_rest hm h rfl (Ev.LkA.get ⟨rfl,rfl,rfl,rfl,rfl,trivial⟩) rfl rsubZ ⟨rfl,rfl⟩
  ·refine a_e rfl (Ev.l_s2b rfl hy1 rfl rfl rfl rfl) rfl rfl rfl (by rintro _ _ ⟨η,_,rfl⟩ w hw; exact hw.tail) ?_
   rintro uy _ ⟨ηy,ry,rfl⟩
   refine B4 (CR rfl (Ev.fok_spec1 hm.f hx2 rfl rx) rfl rfl (Takes.cons (.there .here) Takes.nil) RdOK.nil rfl rfl (fun _ _ _ w hw=>hw.sel Sel.nil) ?_)
   rintro _ _ ⟨rfl,rfl⟩
   refine B4 (CR rfl (Ev.fok_spec1 hm.f hy2 rfl ry) rfl rfl (Takes.cons .here Takes.nil) RdOK.nil rfl rfl (fun _ _ _ w hw=>hw.sel Sel.nil) ?_)
   rintro _ _ ⟨rfl,rfl⟩;refine CQ rfl (CL rfl) rfl rfl rfl rfl ?_;refine CQ rfl (CL rfl) rfl rfl rfl rfl ?_;refine BE ?_;exact Ev.jk_rest hm h rfl (Ev.LkA.get ⟨rfl,rfl,rfl,rfl,rfl,trivial⟩) rfl rsubZ ⟨rfl,rfl⟩
 ·refine a_e rfl (Ev.l_s2b rfl hy1 rfl rfl rfl rfl) rfl rfl rfl (by rintro _ _ ⟨η,_,rfl⟩ w hw; exact hw.tail) ?_
  rintro uy _ ⟨ηy,ry,rfl⟩
  refine B4 (a_e rfl (Ev.l_s2b rfl hx1 rfl rfl rfl rfl) rfl rfl rfl (by rintro _ _ ⟨η,_,rfl⟩ w hw; exact hw.tail) ?_)
  rintro ux _ ⟨ηx,rx,rfl⟩
  refine B4 (CR rfl (Ev.fok_spec1 hm.f hx2 rfl rx) rfl rfl (Takes.cons .here Takes.nil) RdOK.nil rfl rfl (fun _ _ _ w hw=>hw.sel Sel.nil) ?_)
  rintro _ _ ⟨rfl,rfl⟩
  refine B4 (CR rfl (Ev.fok_spec1 hm.f hy2 rfl ry) rfl rfl (Takes.cons .here Takes.nil) RdOK.nil rfl rfl (fun _ _ _ w hw=>hw.sel Sel.nil) ?_)
  rintro _ _ ⟨rfl,rfl⟩;refine CQ rfl (CL rfl) rfl rfl rfl rfl ?_;refine CQ rfl (CL rfl) rfl rfl rfl rfl ?_;refine BE ?_;exact Ev.jk_rest hm h rfl (Ev.LkA.get ⟨rfl,rfl,rfl,rfl,rfl,trivial⟩) rfl rsubZ ⟨rfl,rfl⟩
theorem tag_ok {m:Ev.Mac} (hm:Ev.MOK Tryz.prog m):Ev.FOK Tryz.prog (Ev.tagO Tryz.prog m 185 234 5):=by
 intro f vs h v h' e
 unfold Ev.tagO at e
 cases hb:Nat.beq f 185 with
 | false=>rw [hb] at e; cases e
 | true =>
  have hf:=Nat.eq_of_beq_eq_true hb
  subst hf;rw [hb,cond_true] at e
  split at e
  ·rename_i k t
   cases h8:Nat.ble 8 k.data.toList.length with
   | false=>rw [h8] at e; cases e
   | true =>
    rw [h8,cond_true] at e
    obtain ⟨hr,rfl⟩:=Ev.pairO_some e
    obtain ⟨x,y,fn,hx,hy,hfn,hrest⟩:=Ev.tagRun_some hr
    refine ⟨Nat.le_refl _,fun ρ η w us hr' hw _ hu=>?_⟩
    cases hu
    have hsp:=tag_spec hm (Nat.le_of_ble_eq_true h8) hx hy hfn hrest
    exact Ev.fok_of_spec Tryz.func185 rfl rfl (Ev.spec_frame (Ev.restOf_flat hrest) hr' hsp) hw
  ·cases e
theorem sign_spec {m:Ev.Mac} (hm:Ev.MOK Tryz.prog m) {l:List Value} {h h2 h3:Ev.AH} {ρ:Ev.Rn} {η:PH} {b0 b1 b2 b3 b4 b5 b6 b7 b8 b9 b10 b11:Value} {n e:Int} {k d s:ByteArray} (hr:Ev.HR Tryz.prog ρ h η) (hf:Ev.Fresh ρ h.next h2.next) (hu:Ev.rnL ρ l=some [b0,b1,b2,b3,b4,b5,b6,b7,b8,b9,b10,b11])
  (h1:m.f 120 [.agg ⟨l⟩] h=some (.string d,h2)) (h3':m.f 119 [.string k,.slice (some ⟨0,0,none⟩) 2 2] (Ev.oneB [.string ⟨⟨[UInt8.ofNat (Ev.wr .u8 n).toNat]⟩⟩,.string d] 9)=some (.tuple #[.string s,.int .i64 e],h3)) :
  Eng.Spec Tryz.prog (fv 55) [.agg #[b0,b1,b2,b3,b4,b5,b6,b7,b8,b9,b10,b11],.int .i64 n,.string k] [] [η] (fun u H'=>∃ ρ' η',Ev.rn ρ' (.tuple #[.string s,.int .i64 e])=some u∧Ev.HR Tryz.prog ρ' h2 η'∧Ev.Ext ρ ρ' h.next h2.next∧H'=[η']):=by
 have hsd:=Ev.fok_spec hm.f h1 hr hf (Ev.rnL_cons.2 ⟨_,_,(Ev.rn_aggL hu),Ev.rnL_nil,rfl⟩)
 have hch:=Ev.two_spec hm.f h3' rfl
 rw [Ev.wr_eq] at hch
 refine spec_in (cap:=[]) Tryz.func55 rfl rfl Tryz.ntmps55 rfl envZ (fun N β=>?_)
 refine Aa ?_;refine BH (BI rfl) rfl rfl rfl ?_;rintro _ _ ⟨bx,rfl,rfl⟩;refine AQ (ρ:=sng bx _) takeZ ?_
 have cb:=rdB bx 74 [b0,b1,b2,b3,b4,b5,b6,b7,b8,b9,b10,b11]
 refine Ace ?_
 refine BD (.p 0 (.p 1 (.p 2 (.p 5 (.l2 3 .e (.l2 4 .e (.l 6 .b (.l 7 .e (.l 8 .b (.q 9 (.q 10 (.q 11 (.q 12 .nil))))))) 6 .b (.l 4 .e (.l 7 .e (.l 8 .b (.q 9 (.q 10 (.q 11 (.q 12 .nil)))))))) 6 .b (.l 3 .e (.l 4 .e (.l 7 .e (.l 8 .b (.q 9 (.q 10 (.q 11 (.q 12 .nil))))))))))))) [] rfl (by kernel_rfl) Sel.nil ?_
 refine EM rfl (DT rfl) rfl rfl rfl ?_;refine EM rfl (DT rfl) rfl rfl rfl ?_;refine EM rfl (E3 rfl rfl rfl rfl) rfl rfl rfl ?_;refine EM rfl (D6 rfl rfl (cellsR cb memZ) rfl) rfl rfl rfl ?_;refine EE ?_ ?_
 ·refine a_e rfl (CE (cs:=[.int .u8 (IntKind.u8.wrap n)]) rfl rfl rfl rfl rfl (by intro z hz; simp at hz; subst hz; rfl) (.one rfl .nil) rfl) rfl rfl rfl (by rintro _ _ ⟨b,rfl,rfl⟩ w hw; exact hw.tail) ?_
  rintro _ _ ⟨bn,rfl,rfl⟩;refine EE ?_ ?_
  ·refine a_e rfl (Ev.l_b2s1 rfl .here rfl rfl rfl) rfl rfl rfl (by rintro _ _ ⟨_,rfl⟩ w hw; exact hw) ?_
   rintro _ _ ⟨rfl,rfl⟩
   refine B4 (CR rfl hsd rfl rfl (Takes.cons (.there .here) Takes.nil) RdOK.nil rfl rfl (fun _ _ _ w hw=>hw.sel Sel.nil) ?_)
   rintro _ _ ⟨ρ2,η2,k1,k2,k3,rfl⟩
   cases k1
   refine B4 (a_e rfl (CE (cs:=[.string ⟨⟨[UInt8.ofNat (IntKind.u8.wrap n).toNat]⟩⟩,.string d]) rfl rfl rfl rfl rfl (by intro z hz; simp at hz; rcases hz with rfl|rfl <;> rfl) (.one rfl (.one rfl .nil)) rfl) rfl rfl rfl (by rintro _ _ ⟨b,rfl,rfl⟩ w hw; exact hw.tail) ?_)
   rintro _ _ ⟨bs,rfl,rfl⟩
   refine B4 (CR rfl (hch bs) rfl rfl (Takes.cons .here Takes.nil) RdOK.nil rfl rfl (fun _ _ _ w hw=>hw.sel Sel.nil) ?_)
   rintro _ _ ⟨rfl,rfl⟩;refine CQ rfl (CP rfl rfl) rfl rfl rfl rfl ?_;refine CQ rfl (CP rfl rfl) rfl rfl rfl rfl ?_;refine CQ rfl (CL rfl) rfl rfl rfl rfl ?_;refine CQ rfl (CL rfl) rfl rfl rfl rfl ?_;refine BE ?_;exact AT (res2 rfl rfl rfl) rsubZ selZ ⟨ρ2,η2,rfl,k2,k3,rfl⟩
  ·refine CR rfl hsd rfl rfl (Takes.cons (.there .here) Takes.nil) RdOK.nil rfl rfl (fun _ _ _ w hw=>hw.sel Sel.nil) ?_
   rintro _ _ ⟨ρ2,η2,k1,k2,k3,rfl⟩
   cases k1
   refine B4 (a_e rfl (Ev.l_b2s1 rfl (.there .here) rfl rfl rfl) rfl rfl rfl (by rintro _ _ ⟨_,rfl⟩ w hw; exact hw) ?_)
   rintro _ _ ⟨rfl,rfl⟩
   refine B4 (a_e rfl (CE (cs:=[.string ⟨⟨[UInt8.ofNat (IntKind.u8.wrap n).toNat]⟩⟩,.string d]) rfl rfl rfl rfl rfl (by intro z hz; simp at hz; rcases hz with rfl|rfl <;> rfl) (.one rfl (.one rfl .nil)) rfl) rfl rfl rfl (by rintro _ _ ⟨b,rfl,rfl⟩ w hw; exact hw.tail) ?_)
   rintro _ _ ⟨bs,rfl,rfl⟩
   refine B4 (CR rfl (hch bs) rfl rfl (Takes.cons .here Takes.nil) RdOK.nil rfl rfl (fun _ _ _ w hw=>hw.sel Sel.nil) ?_)
   rintro _ _ ⟨rfl,rfl⟩;refine CQ rfl (CP rfl rfl) rfl rfl rfl rfl ?_;refine CQ rfl (CP rfl rfl) rfl rfl rfl rfl ?_;refine CQ rfl (CL rfl) rfl rfl rfl rfl ?_;refine CQ rfl (CL rfl) rfl rfl rfl rfl ?_;refine BE ?_;exact AT (res2 rfl rfl rfl) rsubZ selZ ⟨ρ2,η2,rfl,k2,k3,rfl⟩
 ·refine CR rfl hsd rfl rfl (Takes.cons .here Takes.nil) RdOK.nil rfl rfl (fun _ _ _ w hw=>hw.sel Sel.nil) ?_
  rintro _ _ ⟨ρ2,η2,k1,k2,k3,rfl⟩
  cases k1
  refine B4 (a_e rfl (CE (cs:=[.int .u8 (IntKind.u8.wrap n)]) rfl rfl rfl rfl rfl (by intro z hz; simp at hz; subst hz; rfl) (.one rfl .nil) rfl) rfl rfl rfl (by rintro _ _ ⟨b,rfl,rfl⟩ w hw; exact hw.tail) ?_)
  rintro _ _ ⟨bn,rfl,rfl⟩
  refine B4 (a_e rfl (Ev.l_b2s1 rfl .here rfl rfl rfl) rfl rfl rfl (by rintro _ _ ⟨_,rfl⟩ w hw; exact hw) ?_)
  rintro _ _ ⟨rfl,rfl⟩
  refine B4 (a_e rfl (CE (cs:=[.string ⟨⟨[UInt8.ofNat (IntKind.u8.wrap n).toNat]⟩⟩,.string d]) rfl rfl rfl rfl rfl (by intro z hz; simp at hz; rcases hz with rfl|rfl <;> rfl) (.one rfl (.one rfl .nil)) rfl) rfl rfl rfl (by rintro _ _ ⟨b,rfl,rfl⟩ w hw; exact hw.tail) ?_)
  rintro _ _ ⟨bs,rfl,rfl⟩
  refine B4 (CR rfl (hch bs) rfl rfl (Takes.cons .here Takes.nil) RdOK.nil rfl rfl (fun _ _ _ w hw=>hw.sel Sel.nil) ?_)
  rintro _ _ ⟨rfl,rfl⟩;refine CQ rfl (CP rfl rfl) rfl rfl rfl rfl ?_;refine CQ rfl (CP rfl rfl) rfl rfl rfl rfl ?_;refine CQ rfl (CL rfl) rfl rfl rfl rfl ?_;refine CQ rfl (CL rfl) rfl rfl rfl rfl ?_;refine BE ?_;exact AT (res2 rfl rfl rfl) rsubZ selZ ⟨ρ2,η2,rfl,k2,k3,rfl⟩
theorem sign_ok {m:Ev.Mac} (hm:Ev.MOK Tryz.prog m):Ev.FOK Tryz.prog (Ev.signO m 55 120 119 9):=by
 intro f vs h v h' e
 unfold Ev.signO at e
 cases hb:Nat.beq f 55 with
 | false=>rw [hb] at e; cases e
 | true =>
  have hf:=Nat.eq_of_beq_eq_true hb
  subst hf;rw [hb,cond_true] at e
  split at e
  ·rename_i l n k
   cases h8:l.length.beq 12 with
   | false=>rw [h8] at e; cases e
   | true =>
    rw [h8,cond_true] at e
    obtain ⟨d,h2,e1,e2⟩:=Ev.signM_some e
    obtain ⟨s,x,h3,e3,rfl,rfl⟩:=Ev.signR_some e2
    refine ⟨(hm.f _ _ _ _ _ e1).1,fun ρ η w us hr hw hfr hu=>?_⟩
    obtain ⟨u0,us1,q1,q2,rfl⟩:=Ev.rnL_cons.1 hu
    obtain ⟨bs,q3,rfl⟩:=Ev.rn_agg q1
    cases q2
    have hlen:bs.length=12:=by rw [Ev.rnL_len q3]; exact Nat.eq_of_beq_eq_true h8
    match bs,hlen with
    | [b0,b1,b2,b3,b4,b5,b6,b7,b8,b9,b10,b11],_ =>
     exact Ev.fok_of_spec Tryz.func55 rfl rfl (sign_spec hm hr hfr q3 e1 e3) hw
  ·cases e
end Go.Proofs.YtglifndogffmkaaGreat
namespace Go.Proofs.YtglifndogffmkaaGreat
open Go.Eng Go.Ev
set_option maxRecDepth 100000
set_option maxHeartbeats 64000000
noncomputable def evM4:Mac:=mac Tryz.prog (orcOf 293 crcV) 600
theorem evM4_ok:MOK Tryz.prog evM4:=mac_ok crc_orc names_ok mixed_ok 600
noncomputable def evT4:CallF:=tagO Tryz.prog evM4 185 234 5
theorem evT4_ok:FOK Tryz.prog evT4:=tag_ok evM4_ok
theorem evT4_run0:isV (.string ⟨⟨[184,158,221,212,138,195,50,174]⟩⟩) (evT4 185 [.string ⟨⟨[48,49,50,51,52,53,54,55,56,57,97,98,99,100,101,102]⟩⟩,.string ⟨⟨[]⟩⟩] ⟨0,.e⟩)=true:=by kernel_rfl
theorem evT4_run1:isV (.string ⟨⟨[58,169,178,178,115,22,14,77]⟩⟩) (evT4 185 [.string ⟨⟨[48,49,50,51,52,53,54,55,56,57,97,98,99,100,101,103]⟩⟩,.string ⟨⟨[]⟩⟩] ⟨0,.e⟩)=true:=by kernel_rfl
theorem evT4_run2:isV (.string ⟨⟨[48,132,136,99,24,28,0,155]⟩⟩) (evT4 185 [.string ⟨⟨[48,49,50,51,52,53,54,55,56,57,97,98,99,100,101,102]⟩⟩,.string ⟨⟨[1,0,0,0,0,0,0,0,1,23,0,0,0,0,0,0,0,36,6,77,66,49,2,0,0,0,0,2,4,18,0,0,0,4,104,105,39,161,127,183]⟩⟩] ⟨0,.e⟩)=true:=by kernel_rfl
theorem evT4_run3:isV (.string ⟨⟨[18,213,1,101,48,16,139,49]⟩⟩) (evT4 185 [.string ⟨⟨[48,49,50,51,52,53,54,55,56,57,97,98,99,100,101,103]⟩⟩,.string ⟨⟨[1,0,0,0,0,0,0,0,1,23,0,0,0,0,0,0,0,36,6,77,66,49,2,0,0,0,0,2,4,18,0,0,0,4,104,105,39,161,127,183]⟩⟩] ⟨0,.e⟩)=true:=by kernel_rfl
def tagTab:List (List UInt8 × List UInt8 × List UInt8):=[([48,49,50,51,52,53,54,55,56,57,97,98,99,100,101,102],[],[184,158,221,212,138,195,50,174]),([48,49,50,51,52,53,54,55,56,57,97,98,99,100,101,103],[],[58,169,178,178,115,22,14,77]),([48,49,50,51,52,53,54,55,56,57,97,98,99,100,101,102],[1,0,0,0,0,0,0,0,1,23,0,0,0,0,0,0,0,36,6,77,66,49,2,0,0,0,0,2,4,18,0,0,0,4,104,105,39,161,127,183],[48,132,136,99,24,28,0,155]),([48,49,50,51,52,53,54,55,56,57,97,98,99,100,101,103],[1,0,0,0,0,0,0,0,1,23,0,0,0,0,0,0,0,36,6,77,66,49,2,0,0,0,0,2,4,18,0,0,0,4,104,105,39,161,127,183],[18,213,1,101,48,16,139,49])]
theorem evT4_any {k t c:List UInt8} (h0:isV (.string ⟨⟨c⟩⟩) (evT4 185 [.string ⟨⟨k⟩⟩,.string ⟨⟨t⟩⟩] ⟨0,.e⟩)=true) (h:AH):evT4 185 [.string ⟨⟨k⟩⟩,.string ⟨⟨t⟩⟩] h=some (.string ⟨⟨c⟩⟩,h):=
 Exists.elim (isV_ok h0) (fun _ e=>tagO_any e h)
theorem tagTab_ok:∀ k t c,(k,t,c)∈tagTab→∀ h,evT4 185 [.string ⟨⟨k⟩⟩,.string ⟨⟨t⟩⟩] h=some (.string ⟨⟨c⟩⟩,h):=by
 intro k t c hm h
 rcases List.mem_cons.1 hm with e|hm
 ·cases e; exact evT4_any evT4_run0 h
 rcases List.mem_cons.1 hm with e|hm
 ·cases e; exact evT4_any evT4_run1 h
 rcases List.mem_cons.1 hm with e|hm
 ·cases e; exact evT4_any evT4_run2 h
 rcases List.mem_cons.1 hm with e|hm
 ·cases e; exact evT4_any evT4_run3 h
 cases hm
noncomputable def evT5:CallF:=tabO 185 tagTab
theorem evT5_ok:FOK Tryz.prog evT5:=tabO_ok evT4_ok tagTab_ok
noncomputable def evM5:Mac:=mac Tryz.prog (orO (orcOf 293 crcV) evT5) 1000
theorem evM5_ok:MOK Tryz.prog evM5:=mac_ok (orO_ok crc_orc evT5_ok) names_ok mixed_ok 1000
noncomputable def evO5:CallF:=orO (orcOf 293 crcV) (orO (signO evM5 55 120 119 9) evT5)
theorem evO5_ok:FOK Tryz.prog evO5:=orO_ok crc_orc (orO_ok (sign_ok evM5_ok) evT5_ok)
theorem awake35_run:isV (.bool true) ((mac Tryz.prog evO5 3000).f 7 [] ⟨0,.e⟩)=true:=by kernel_rfl
theorem awake35_spec:Eng.Spec Tryz.prog (.func (.func 7) #[] #[]) [] [] [] (fun u H'=>H'=[]∧u=.bool true):=
 Exists.elim (isV_ok awake35_run) (fun _ h=>closed_spec (mac_ok evO5_ok names_ok mixed_ok 3000) h rfl)
end Go.Proofs.YtglifndogffmkaaGreat
namespace Go.Proofs.YtglifndogffmkaaGreat
open Go.Eng Go.Step
set_option maxRecDepth 100000
set_option maxHeartbeats 64000000
open Go.ChangeShapes Go.WideShapes Go.ChangeAt Go.RowKit

set_option maxRecDepth 100000 in
theorem topLoaded_lifted (os : Os) (started : os.Started) (H : Type) (enc : TypeId × Value → H) :
  ReturnsInHanded {} Tryz.checked os 3 .any (Rows.topLoadedSpec.pre6 enc Tryz.prog Tryz.f3 Rows.topLoadedRow.domain false) (Rows.topLoadedSpec.post enc Tryz.prog Tryz.f3 false true false false) := by
 refine returnsInHanded_of_change (C := Tryz.checked) Tryz.own started (by kernel_rfl) Tryz.func3
  (ChangeSpec.witness6 (enc := enc) (C := Tryz.checked) false ⟨#[], #[.agg #[.slice none 0 0, .slice none 0 0], .slice none 0 0, .agg #[.int .i64 0, .int .i64 0, .int .i64 0, .int .i64 0, .int .i64 0, .int .i64 0, .bool false]], []⟩ 8 (by kernel_rfl) (by kernel_rfl) (by kernel_rfl) (by kernel_rfl)) ?_
 intro W base args ds gs before hval0 hW hcnd _
 have hval : ∀ (j : Nat) t v, Tryz.f3.params[j]? = some t → args[j]? = some v → Value.okWide Tryz.prog W .any base t v := hval0
 have hW' := hW
 obtain ⟨p, q, hA0, hV, rfl, hfz, hnd⟩ := hW
 have hA : DataW.TrodAll enc Tryz.prog W 0 (fun _ => true) true Tryz.f3.params.toList args.toList ds p := hA0
 rw [Tryz.params3] at hA hval
 obtain ⟨v0, vs0, d0, ds0, p0, q0, hargs, rfl, rfl, h0, r0⟩ := trodAll_cons hA
 obtain ⟨v1, vs1, d1, ds1, p1, q1, rfl, rfl, rfl, h1, r1⟩ := trodAll_cons r0
 obtain ⟨v2, vs2, d2, ds2, p2, q2, rfl, rfl, rfl, h2, r2⟩ := trodAll_cons r1
 obtain ⟨rfl, rfl, rfl⟩ := trodAll_nil r2
 obtain rfl : args = #[v0, v1, v2] := by cases args; simp_all
 obtain ⟨rfl, rfl⟩ := trodVars_none hV
 have lt0 : ∀ x ∈ p0, x.block < W.heap.size := by obtain ⟨m, hm⟩ := h0; exact DataW.trod_lt m _ _ _ hm
 have lt1 : ∀ x ∈ p1, x.block < W.heap.size := by obtain ⟨m, hm⟩ := h1; exact DataW.trod_lt m _ _ _ hm
 have lt2 : ∀ x ∈ p2, x.block < W.heap.size := by obtain ⟨m, hm⟩ := h2; exact DataW.trod_lt m _ _ _ hm
 have hlaw : Ans Tryz.prog (fv 3) [v0, v1, v2] [heapPH W] (fun v => v = .bool true) := by
  obtain ⟨pq, pc, kq, kc, qs, cs, rfl, hq, hc, hcap, lq, lc⟩ := plan_of (hval 0 _ v0 rfl rfl) (RdT.of h0)
  obtain ⟨pl, kl, l, rfl, hl, ll⟩ := requests_of (hval 1 _ v1 rfl rfl) (RdT.of h1)
  obtain ⟨rq, rfl⟩ := request_of (hval 2 _ v2 rfl rfl) (RdT.of h2)
  exact (loaded_law awake35_spec hq hc hcap lq lc hl ll).rsub (fun _ h => by simpa using h)
 refine (law_calls Tryz.func3 rfl rfl hlaw).mono fun e W' ⟨he, bel⟩ => ?_
 subst he
 exact ⟨_, rfl, _, _, _, [], _, [], hW', trodAll_mk1 (shut_bool Tryz.underlying4 _), (trodAll_cons_mk (Below.trod Tryz.laidOut (by kernel_rfl) (of_decide_eq_true (by kernel_rfl)) h0 bel lt0) (trodAll_cons_mk (Below.trod Tryz.laidOut (by kernel_rfl) (of_decide_eq_true (by kernel_rfl)) h1 bel lt1) (trodAll_cons_mk (Below.trod Tryz.laidOut (by kernel_rfl) (of_decide_eq_true (by kernel_rfl)) h2 bel lt2) trodAll_mk0))), rfl, bel.frame _, fun h => by cases h⟩
theorem loaded_inPlace : Rows.topLoadedRow.inPlace = Tryz.prog.inPlace 3 := by kernel_rfl
theorem loaded_unfollowed : Tryz.prog.unfollowed 3 = true := by kernel_rfl
theorem loaded_recurses : Tryz.prog.recurses 3 = true := by kernel_rfl
theorem loaded_named : Rows.topLoadedRow.named = Tryz.prog.varsNamed 3 := by kernel_rfl
theorem loaded_func : Tryz.prog.funcNamed "mailboat/mailboattop.TopLoaded" = some 3 := by kernel_rfl
theorem loaded_joined : joinedFacts Tryz.prog 3 Tryz.f3 Rows.topLoadedSpec Rows.topLoadedRow = true := by
 unfold joinedFacts;rw [← loaded_inPlace, loaded_unfollowed, loaded_recurses, ← loaded_named]
 kernel_rfl
theorem topLoaded_holds : Rows.TopLoadedSaid :=
 OpenClaim.holds_of_wide 3 Tryz.f3 rfl rfl rfl rfl rfl rfl rfl ⟨rfl, rfl, rfl, rfl, rfl⟩ rfl rfl rfl rfl rfl loaded_func Tryz.func3 loaded_joined
  (of_decide_eq_true (by kernel_rfl)) (by unfold Func.isWrapper; first | (rw [if_pos (by decide +kernel)]; kernel_rfl) | (rw [if_neg (by decide +kernel)]; exact ⟨rfl, rfl⟩))
  (fun os started H enc _ => topLoaded_lifted os started H enc)
end Go.Proofs.YtglifndogffmkaaGreat
