/- Texts of this proof, one after the other; no conditions. -/
import Derived.WideKeyRuns
import Derived.Test.YtphehihohghfoaaGreatWB3
import Derived.Test.YtphehihohghfoaaGreatWB6
import Derived.Test.YtphehihohghfoaaGreatWB1
import Derived.Test.YtphehihohghfoaaGreatWB0
import Derived.Test.YtphehihohghfoaaGreatWB5
import Derived.Test.YtphehihohghfoaaGreatWB4
import Derived.Test.YtphehihohghfoaaGreatWB2
set_option linter.all false
/- Maps whose keys are structs of two or three ints: looked up, changed. No conditions. -/
namespace Go.Eng
variable {C : Cx} {D : List Deferred} {R H : List PH} {L : Env} {K : List It}
variable {dst : Option Tmp} {ty : TypeId} {pos : String} {aft : Array Edge} {g : Option (Nat × Bool)}
abbrev aggI (k : List Int) : Value := .agg (k.map int).toArray
def entsS : Nat → List (List Int × Value) → List MapEntry
  | _, [] => []
  | i, kv :: m => ⟨aggI kv.1, kv.2, i⟩ :: entsS (i + 1) m
def mapS (m : List (List Int × Value)) : Obj := .map (entsS 0 m).toArray m.length
def midxS (k : List Int) : List (List Int × Value) → Option (Nat × Value)
  | [] => none
  | (a, v) :: m => if k = a then some (0, v) else (midxS k m).map (fun p => (p.1 + 1, p.2))
def mgetS (k : List Int) (m : List (List Int × Value)) : Option Value := (midxS k m).map (·.2)
def msetS (k : List Int) (v : Value) : List (List Int × Value) → List (List Int × Value)
  | [] => [(k, v)]
  | (a, w) :: m => if k = a then (a, v) :: m else (a, w) :: msetS k v m
theorem mgetS_mset (k x : List Int) (v : Value) : ∀ m : List (List Int × Value), mgetS x (msetS k v m) = if x = k then some v else mgetS x m
  | [] => by
    by_cases h : x = k <;> simp [msetS, mgetS, midxS, h]
  | (a, w) :: m => by
    have ih := mgetS_mset k x v m
    by_cases h : k = a
    · subst h
      simp only [msetS, if_true, mgetS, midxS]
      by_cases e : x = k <;> simp [e]
    · simp only [msetS, if_neg h, mgetS, midxS] at ih ⊢
      by_cases e : x = a
      · subst e
        simp [Ne.symm h]
      · simp only [if_neg e, Option.map_map] at ih ⊢
        have e2 : ((fun x : Nat × Value => x.2) ∘ fun p : Nat × Value => (p.1 + 1, p.2)) = fun x => x.2 := rfl
        rw [e2, ih]
theorem mset_noneS {k : List Int} {v : Value} : ∀ {m : List (List Int × Value)} (i : Nat), midxS k m = none → entsS i m ++ [⟨aggI k, v, i + m.length⟩] = entsS i (msetS k v m) ∧ (msetS k v m).length = m.length + 1
  | [], i, _ => ⟨rfl, rfl⟩
  | (a, w) :: m, i, h => by
    unfold midxS at h
    split at h
    · exact absurd h (by simp)
    · rename_i hk
      have h' : midxS k m = none := by simpa using h
      obtain ⟨e, l⟩ := mset_noneS (k := k) (v := v) (m := m) (i + 1) h'
      simp only [msetS, if_neg hk, entsS, List.cons_append, List.length_cons, l, and_true, ← e]
      congr 4
      omega
theorem mset_someS {k : List Int} {v : Value} : ∀ {m : List (List Int × Value)} (i n : Nat) (w : Value), midxS k m = some (n, w) → (entsS i m).modify n (fun e => { e with key := aggI k, val := v }) = entsS i (msetS k v m) ∧ (msetS k v m).length = m.length ∧ n < m.length ∧ ((entsS i m)[n]?).map (·.key) = some (aggI k)
  | [], i, n, w, h => by simp [midxS] at h
  | (a, u) :: m, i, n, w, h => by
    unfold midxS at h
    split at h
    · rename_i hk
      subst hk
      simp at h
      obtain ⟨rfl, rfl⟩ := h
      simp [entsS, msetS]
    · rename_i hk
      cases hm : midxS k m with
      | none => rw [hm] at h; simp at h
      | some p =>
        rw [hm] at h
        simp at h
        obtain ⟨rfl, rfl⟩ := h
        obtain ⟨e, l, l2, l3⟩ := mset_someS (k := k) (v := v) (m := m) (i + 1) p.1 p.2 hm
        simp only [msetS, if_neg hk, entsS, List.length_cons, l, List.modify_succ_cons, e]
        refine ⟨trivial, trivial, by omega, ?_⟩
        simpa using l3
structure KeyS (P : Program) (kt : TypeId) (n : Nat) : Prop where
  i : intsP P kt n = true
  s : P.stoodInHeld kt = false
theorem run_askS {P : Program} {w : World} {kt : TypeId} {n : Nat} {k : List Int} (hk : KeyS P kt n) (hn : k.length = n) : ∀ (m : List (List Int × Value)) (i j : Nat), (∀ x ∈ m, x.1.length = n) → (Instr.findAsking kt (aggI k) (entsS i m) j).run P w = .ok ((midxS k m).map (fun p => (j + p.1, p.2))) w
  | [], i, j, _ => by simp [entsS, Instr.findAsking, midxS]
  | (a, v) :: m, i, j, h => by
    have ih := run_askS (w := w) hk hn m (i + 1) (j + 1) (fun x hx => h x (by simp [hx]))
    have he := run_eqInts (P := P) w hk.i hk.s hn (h (a, v) (by simp))
    simp only [entsS, Instr.findAsking, Op.equal, Op.maxDepth, Sem.run_bind, he, Result.andThen_ok, midxS]
    by_cases e : k = a
    · simp [e]
    · simp only [e, decide_false, Bool.false_eq_true, if_false, ih, Option.map_map]
      congr 2
      funext p
      show (j + 1 + p.1, p.2) = (j + (p.1 + 1), p.2)
      rw [show j + 1 + p.1 = j + (p.1 + 1) by omega]
theorem run_findS {P : Program} {w : World} {kt : TypeId} {n : Nat} {k : List Int} (hk : KeyS P kt n) (hn : k.length = n) {m : List (List Int × Value)} (h : ∀ x ∈ m, x.1.length = n) : (Instr.findKey kt (aggI k) (entsS 0 m)).run P w = .ok (midxS k m) w := by
  obtain ⟨fs, hu, _, _⟩ := intsP_of hk.i
  rw [run_findKey_eq w (by rw [hu]), run_askS hk hn m 0 0 h]
  simp
theorem run_checkFlds {P : Program} {w : World} (em : Bool) (d : Nat) (k : List Int) : ∀ (fs : List Field) (j : Nat), fldsI P j fs = true → j + fs.length = k.length →
    ((forIn fs PUnit.unit fun (f : Field) (_ : PUnit) => (if f.name ≠ "_" then do let x ← part f.type (k.map int).toArray f.offset; Instr.checkKey em (d + 1) f.type x; pure (ForInStep.yield PUnit.unit) else pure (ForInStep.yield PUnit.unit) : Sem (ForInStep PUnit)))).run P w = .ok PUnit.unit w
  | [], j, _, _ => by simp
  | f :: fs, j, hf, h => by
    simp only [fldsI, fldI, Bool.and_eq_true, bne_iff_ne, ne_eq, beq_iff_eq] at hf
    obtain ⟨⟨⟨h3, h4⟩, h5⟩, h6⟩ := hf
    have hu : P.underlying f.type = some (.int .i64) := by
      split at h5
      · assumption
      · simp at h5
    have ih := run_checkFlds (w := w) em d k fs (j + 1) h6 (by simp at h; omega)
    have hk : j < k.length := by simp at h; omega
    have hp : (part f.type (k.map int).toArray f.offset).run P w = .ok (int k[j]) w := by
      have hag : aggP P f.type = some false := by simp [aggP, hu]
      simp [part, run_isAgg hag, h4, hk]
    have hc := run_checkKey (P := P) (w := w) (k := k[j]) em d hu
    rw [List.forIn_cons];simp only [h3, not_false_eq_true, if_true, ne_eq, bind_assoc, Sem.run_bind, hp, hc, Result.andThen_ok, pure_bind];exact ih
theorem run_checkS {P : Program} {w : World} {kt : TypeId} {n : Nat} {k : List Int} (hk : KeyS P kt n) (hn : k.length = n) (em : Bool) : (Instr.checkKey em 10000 kt (aggI k)).run P w = .ok () w := by
  obtain ⟨fs, hu, hs, hf⟩ := intsP_of hk.i
  have h := run_checkFlds (P := P) (w := w) em 9998 k fs.toList 0 hf (by simp [hs, hn])
  rw [show (10000 : Nat) = 9999 + 1 from rfl, Instr.checkKey]
  simp only [Sem.run_bind, run_underlying hu, Result.andThen_ok, ← Array.forIn_toList];rw [h]
  rfl
theorem run_lookupS {P : Program} {w : World} {t kt et : TypeId} {b n : Nat} {k : List Int} {l : List (List Int × Value)} {z : Value} {ok : Bool} (ht : P.underlying t = some (.map kt et)) (hk : KeyS P kt n) (hn : k.length = n) (hl : ∀ x ∈ l, x.1.length = n) (hz : zeroP P et = some z) (hg : w.heap[b]? = some (mapS l)) :
    (Instr.lookup t (.map (some b)) (aggI k) ok).run P w = .ok (if ok then .tuple #[(mgetS k l).getD z, .bool (mgetS k l).isSome] else (mgetS k l).getD z) w := by
  have hf := run_findS (P := P) (w := w) (k := k) hk hn hl
  have hc := fun e => run_checkS (P := P) (w := w) (k := k) hk hn e
  unfold mgetS
  cases hm : midxS k l with
  | none =>
    rw [hm] at hf
    simp [Instr.lookup, run_underlying ht, getObj, Sem.run, hg, mapS]
    simp [hc, hf, run_zeroValue hz]
  | some p =>
    rw [hm] at hf
    simp [Instr.lookup, run_underlying ht, getObj, Sem.run, hg, mapS]
    simp [hc, hf]
def MapAtS (N : Bs) (R H : List PH) (b : Nat) (l : List (List Int × Value)) : Prop := ∀ w, Sat N R H w → w.heap[b]? = some (mapS l)
theorem mapAtS_rd {N : Bs} {b : Nat} {l : List (List Int × Value)} (m : Mem (sng b (mapS l)) R) : MapAtS N R H b l := fun w hs => hs.r _ m.mem b _ (sng_self b _)
theorem FL {t : TypeId} : Loud C R H L ⟨dst, .makeMap t none, ty, pos, aft, g⟩ (fun v H' => ∃ b, v = .map (some b) ∧ H' = sng b (mapS []) :: H) := EU
theorem F3 {x y : Operand} {t kt et : TypeId} {b : Nat} (n : Nat) (k : List Int) {l : List (List Int × Value)} {z : Value} (h : evalE L x = some (.map (some b))) (hk : evalE L y = some (aggI k)) (ht : C.P.underlying t = some (.map kt et)) (hkt : KeyS C.P kt n) (hn : k.length = n) (hl : ∀ x ∈ l, x.1.length = n) (hz : zeroP C.P et = some z) (hm : MapAtS C.N R H b l) :
    Quiet C R H L ⟨dst, .lookup t x y false, ty, pos, aft, g⟩ ((mgetS k l).getD z) :=
  ⟨by intro c; simp, fun a w hx hs => by
    have e1 := hx x (by simp [Op.operands]) _ h
    have e2 := hx y (by simp [Op.operands]) _ hk
    simp [execOp, e1, e2, run_lookupS (ok := false) ht hkt hn hl hz (hm w hs)]⟩
theorem sameBits_agg (k : List Int) : Instr.sameBits 10000 (aggI k) (aggI k) = true := by
  have h : ∀ l : List Int, ((l.map int).zip (l.map int)).all (fun p => Instr.sameBits 9999 p.1 p.2) = true := by
    intro l
    induction l with
    | nil => rfl
    | cons x l ih =>
      simp only [List.map_cons, List.zip_cons_cons, List.all_cons, ih, Bool.and_true]
      simp [Instr.sameBits]
  have h2 := h k
  simp only [aggI];unfold Instr.sameBits;simp only [beq_self_eq_true, Bool.true_and];exact h2
theorem run_mapUpdateS {P : Program} {w : World} {t kt et : TypeId} {b n : Nat} {k : List Int} {v : Value} {l : List (List Int × Value)} (ht : P.underlying t = some (.map kt et)) (hkt : KeyS P kt n) (hn : k.length = n) (hl : ∀ x ∈ l, x.1.length = n) (hg : w.heap[b]? = some (mapS l)) :
    (Instr.mapUpdate t (.map (some b)) (aggI k) v).run P w = .ok () { w with heap := w.heap.setIfInBounds b (mapS (msetS k v l)) } := by
  have hf := run_findS (P := P) (w := w) (k := k) hkt hn hl
  have hc := fun e => run_checkS (P := P) (w := w) (k := k) hkt hn e
  cases hm : midxS k l with
  | none =>
    rw [hm] at hf
    obtain ⟨e, n⟩ := mset_noneS (k := k) (v := v) 0 hm
    have e2 : mapS (msetS k v l) = .map ((entsS 0 l).toArray.push ⟨aggI k, v, l.length⟩) (l.length + 1) := by
      unfold mapS; rw [n, ← e]; simp
    rw [e2]
    simp [Instr.mapUpdate, run_underlying ht, getObj, Sem.run, hg, mapS]
    simp [hc, hf, setObj, Sem.run, hg, mapS]
  | some p =>
    rw [hm] at hf
    obtain ⟨e, n, n2, n3⟩ := mset_someS (k := k) (v := v) 0 p.1 p.2 hm
    have e2 : mapS (msetS k v l) = .map ((entsS 0 l).toArray.modify p.1 (fun e => { e with key := aggI k, val := v })) l.length := by
      unfold mapS; rw [n, ← e]; simp
    rw [e2]
    have hks : (Instr.keyThatStays (aggI k) (aggI k)).run P w = .ok (aggI k) w := by simp [Instr.keyThatStays, sameBits_agg]
    simp [Instr.mapUpdate, run_underlying ht, getObj, Sem.run, hg, mapS]
    simp [hc, hf, setObj, Sem.run, n3, hks, hg, mapS]
theorem E1 {x y z : Operand} {t kt et : TypeId} {b : Nat} (n : Nat) (k : List Int) {v : Value} {l : List (List Int × Value)} {H' : List PH} (h : evalE L x = some (.map (some b))) (hk : evalE L y = some (aggI k)) (hv : evalE L z = some v) (ht : C.P.underlying t = some (.map kt et)) (hkt : KeyS C.P kt n) (hn : k.length = n) (hl : ∀ x ∈ l, x.1.length = n) (hm : Take (sng b (mapS l)) H H') :
    Loud C R H L ⟨dst, .mapUpdate t x y z, ty, pos, aft, g⟩ (fun u H2 => u = undef ∧ H2 = sng b (mapS (msetS k v l)) :: H') := by
  refine ⟨fun a w hx hs next Q hnx => ?_⟩
  have hg := hs.own hm
  have e1 := hx x (by simp [Op.operands]) _ h
  have e2 := hx y (by simp [Op.operands]) _ hk
  have e3 := hx z (by simp [Op.operands]) _ hv
  refine wpIn_skipv (w' := { w with heap := w.heap.setIfInBounds b (mapS (msetS k v l)) }) (by intro c; simp) ?_ (hnx _ _ _ ⟨rfl, rfl⟩ (hs.turn hm ?_ ?_ ?_))
  · simp [execOp, e1, e2, e3, run_mapUpdateS ht hkt hn hl hg]
  · simp
  · have : b < w.heap.size := by
      rw [Array.getElem?_eq_some_iff] at hg; exact hg.1
    simp [this]
  · intro k hk; simp [Array.getElem?_setIfInBounds, Ne.symm hk]
theorem msetS_len {k : List Int} {v : Value} {n : Nat} (hk : k.length = n) : ∀ {l : List (List Int × Value)}, (∀ x ∈ l, x.1.length = n) → ∀ x ∈ msetS k v l, x.1.length = n
  | [], _, x, hx => by simp [msetS] at hx; rw [hx]; exact hk
  | (a, w) :: l, h, x, hx => by
    unfold msetS at hx
    split at hx
    · rcases List.mem_cons.1 hx with rfl | hx
      · exact h (a, w) (by simp)
      · exact h x (by simp [hx])
    · rcases List.mem_cons.1 hx with rfl | hx
      · exact h (a, w) (by simp)
      · exact msetS_len hk (l := l) (fun y hy => h y (by simp [hy])) x hx
end Go.Eng
/- Nodes at times, numbered in a map. No program in sight. No conditions. -/
namespace Go.Step
open Go.Eng
def placesN (d:Dm) (n:Nat) (t:Int):List (Int × Int):=(rngI d.r t).map (fun u=>((n:Int),u))
def placesA (d:Dm):Nat → List (Int × Int)
  | 0=>[]
  | n + 1=>placesA d n ++ placesN d n (d.e + 1)
theorem placesN_len (d:Dm) (n:Nat) (t:Int):(placesN d n t).length = (t - d.r).toNat:=by unfold placesN; rw [List.length_map,rngI_len]
theorem placesA_len {d:Dm} (h:d.r ≤ d.e):∀ m:Nat,((placesA d m).length:Int) = m * wd d
  | 0=>by simp [placesA]
  | m + 1=>by
    have ih:=placesA_len h m
    unfold placesA;rw [List.length_append,placesN_len,Int.natCast_add,ih,Int.natCast_add,Int.add_mul];unfold wd;omega
theorem places_at {d:Dm} (h:d.r ≤ d.e) {k:Nat} {t:Int} (ht:d.r ≤ t):((placesA d k ++ placesN d k t).length:Int) = vtx d k t:=by
  rw [List.length_append,placesN_len,Int.natCast_add,placesA_len h];unfold vtx;omega
theorem placesN_snoc {d:Dm} {k:Nat} {t:Int} (ht:d.r ≤ t):placesN d k (t + 1) = placesN d k t ++ [((k:Int),t)]:=by
  unfold placesN;rw [rngI_snoc ht,List.map_append]
  rfl
theorem placesN_nil (d:Dm) (k:Nat):placesN d k d.r = []:=by
  unfold placesN;rw [rngI_nil (Int.le_refl _)]
  rfl
theorem placesA_get {d:Dm} (h:d.r ≤ d.e) {n:Nat} {t:Int} (h1:d.r ≤ t) (h2:t ≤ d.e):∀ {m:Nat},n < m → (placesA d m)[(vtx d n t).toNat]? = some ((n:Int),t)
  | 0,hm=>by omega
  | m + 1,hm=>by
    have hl:=placesA_len h m
    have hp:0 ≤ vtx d n t:=by
      unfold vtx
      have:=Int.mul_nonneg (show 0 ≤ (n:Int) by omega) (show 0 ≤ wd d by unfold wd; omega)
      omega
    unfold placesA
    by_cases hn:n < m
    · have hlt:=(vtx_lt (d:=d) (n:=n) (t:=t) (N:=m) (by omega) (by omega) h1 h2).2
      rw [List.getElem?_append_left (by omega)]
      exact placesA_get h h1 h2 hn
    · obtain rfl:n = m:=by omega
      have hv:vtx d n t = n * wd d + (t - d.r):=rfl
      rw [List.getElem?_append_right (by omega)]
      have e:(vtx d n t).toNat - (placesA d n).length = (t - d.r).toNat:=by omega
      rw [e];unfold placesN
      rw [List.getElem?_map,rngI_get (by omega)]
      simp only [Option.map_some,Option.some.injEq,Prod.mk.injEq,true_and];omega
theorem tickL_len (r e g:Int) (F:List (Int × Int)) {k:Nat} {x:Int × Int} (h:F[k]? = some x):(tickL r e g (F.take (k + 1))).length = (tickL r e g (F.take k)).length + (min x.2 (e - g) - max x.1 r).toNat:=by
  obtain ⟨hk,rfl⟩:=List.getElem?_eq_some_iff.1 h
  unfold tickL;rw [List.take_succ_eq_append_getElem hk,List.flatMap_append,List.length_append]
  congr 1
  simp [tickS,rngI_len]
theorem tickL_at (r e g:Int) (F:List (Int × Int)) {k:Nat} {x:Int × Int} (h:F[k]? = some x) {t:Int} (h1:max x.1 r ≤ t) (h2:t < min x.2 (e - g)):(tickL r e g F)[(tickL r e g (F.take k)).length + (t - max x.1 r).toNat]? = some t:=by
  obtain ⟨hk,rfl⟩:=List.getElem?_eq_some_iff.1 h
  have hF:tickL r e g F = tickL r e g (F.take k) ++ (tickS r e g F[k] ++ tickL r e g (F.drop (k + 1))):=by
    have h3:F = F.take k ++ F[k] :: F.drop (k + 1):=by rw [← List.drop_eq_getElem_cons hk,List.take_append_drop]
    conv=>lhs; rw [h3]
    unfold tickL;rw [List.flatMap_append,List.flatMap_cons]
  rw [hF,List.getElem?_append_right (by omega),Nat.add_sub_cancel_left,List.getElem?_append_left (by unfold tickS; rw [rngI_len]; omega)]
  unfold tickS
  rw [rngI_get (by omega)]
  congr 1
  omega
def NumAt (d:Dm) (k t:Int) (M:List (List Int × Value)):Prop:=(∀ e ∈ M,e.1.length = 2) ∧ ∀ n u:Int,mgetS [n,u] M = if (0 ≤ n ∧ d.r ≤ u ∧ u ≤ d.e) ∧ (n < k ∨ (n = k ∧ u < t)) then some (int (vtx d n u)) else none
theorem NumAt.nil (d:Dm):NumAt d 0 d.r []:=⟨by simp,fun n u=>by rw [if_neg (by omega)]; rfl⟩
theorem NumAt.row {d:Dm} {k t:Int} {M:List (List Int × Value)} (h:NumAt d k t M) (ht:d.e < t):NumAt d (k + 1) d.r M:=⟨h.1,fun n u=>by
  rw [h.2]
  by_cases c:(0 ≤ n ∧ d.r ≤ u ∧ u ≤ d.e) ∧ (n < k ∨ (n = k ∧ u < t))
  · rw [if_pos c,if_pos (by omega)]
  · rw [if_neg c,if_neg (by omega)]⟩
theorem NumAt.add {d:Dm} {k t:Int} {M:List (List Int × Value)} (h:NumAt d k t M) (hk:0 ≤ k) (h1:d.r ≤ t) (h2:t ≤ d.e):NumAt d k (t + 1) (msetS [k,t] (int (vtx d k t)) M):=⟨msetS_len rfl h.1,fun n u=>by
  rw [mgetS_mset]
  by_cases c:[n,u] = [k,t]
  · rw [if_pos c]
    simp only [List.cons.injEq,and_true] at c
    obtain ⟨rfl,rfl⟩:=c
    rw [if_pos (by omega)]
  · rw [if_neg c,h.2]
    have c2:¬ (n = k ∧ u = t):=fun h=>c (by rw [h.1,h.2])
    by_cases c3:(0 ≤ n ∧ d.r ≤ u ∧ u ≤ d.e) ∧ (n < k ∨ (n = k ∧ u < t))
    · rw [if_pos c3,if_pos (by omega)]
    · rw [if_neg c3,if_neg (by omega)]⟩
end Go.Step
/- What an owned slice looks like; chunks that hold more. No conditions. -/
namespace Go.Eng
theorem OwnS.form {e:TypeId} {s n:Nat} {v:Value} {xs:List Value} {ρ:PH} (h:OwnS e s v n xs ρ):∃ p c,v = .slice p n c:=by
  obtain ⟨_,⟨rfl,rfl,_⟩ | ⟨b,cap,_,rfl,_⟩⟩:=h
  · exact ⟨none,0,rfl⟩
  · exact ⟨_,cap,rfl⟩
theorem OwnS.formP {e:TypeId} {s n:Nat} {v:Value} {xs:List Value} {ρ:PH} (h:OwnS e s v n xs ρ) (hn:0 < n):∃ b c,v = .slice (some ⟨b,0,none⟩) n c:=by
  obtain ⟨_,⟨_,h,_⟩ | ⟨b,cap,_,rfl,_⟩⟩:=h
  · omega
  · exact ⟨b,cap,rfl⟩
theorem SlAt.mono {ρ γ:PH} {s n:Nat} {v:Value} {xs:List Value} (h:SlAt ρ s v n xs) (hs:PH.sub ρ γ):SlAt γ s v n xs:=by
  obtain ⟨h1,h2 | ⟨b,o,c,e,h3⟩⟩:=h
  · exact ⟨h1,.inl h2⟩
  · exact ⟨h1,.inr ⟨b,o,c,e,fun j u hu=>hs.rdc (h3 j u hu)⟩⟩
theorem SlE.mono {α:Type} {enc:α → List Value} {s:Nat} {ρ γ:PH} {v:Value} {l:List α} (h:SlE enc s ρ v l) (hs:PH.sub ρ γ):SlE enc s γ v l:=SlAt.mono h hs
end Go.Eng
/- Arrays of small values: their elements' places, two of them built. No conditions. -/
namespace Go.Eng
variable {C:Cx} {R H:List PH} {L:Env} {dst:Option Tmp} {ty:TypeId} {pos:String} {aft:Array Edge} {g:Option (Nat × Bool)}
theorem GP {x y:Operand} {t e:TypeId} {b o n i:Nat} {k:IntKind} (h:evalE L x = some (.pointer (some ⟨b,o,none⟩))) (h2:evalE L y = some (.int k (i:Int))) (ht:C.P.underlying t = some (.array n e)) (hs:szP C.P e = some 1) (hn:i < n) :
    Quiet C R H L ⟨dst,.indexAddr t x y,ty,pos,aft,g⟩ (.pointer (some ⟨b,o + i,none⟩)):=
  ⟨by intro c; simp,fun a w hx _=>by
    simp [execOp,hx x (by simp [Op.operands]) _ h,hx y (by simp [Op.operands]) _ h2,Instr.indexAt,Instr.sureAddr,asIntOf,run_underlying ht,hn,run_sizeOf hs,Addr.add_lit]⟩
theorem G6 {x y:Operand} {t e:TypeId} {b o n:Nat} {k:IntKind} (h:evalE L x = some (.pointer (some ⟨b,o,none⟩))) (h2:evalE L y = some (.int k 0)) (ht:C.P.underlying t = some (.array n e)) (hs:szP C.P e = some 1) (hn:0 < n) :
    Quiet C R H L ⟨dst,.indexAddr t x y,ty,pos,aft,g⟩ (.pointer (some ⟨b,o,none⟩)):=GP (i:=0) h h2 ht hs hn
theorem G7 {x y:Operand} {t e:TypeId} {b o n:Nat} {k:IntKind} (h:evalE L x = some (.pointer (some ⟨b,o,none⟩))) (h2:evalE L y = some (.int k 1)) (ht:C.P.underlying t = some (.array n e)) (hs:szP C.P e = some 1) (hn:1 < n) :
    Quiet C R H L ⟨dst,.indexAddr t x y,ty,pos,aft,g⟩ (.pointer (some ⟨b,o + 1,none⟩)):=GP (i:=1) h h2 ht hs hn
theorem DT {x y:Operand} {t e:TypeId} {z0 z1 v0 v1:Value} (h:evalE L x = some v0) (h2:evalE L y = some v1) (ht:C.P.underlying t = some (.array 2 e)) (hs:szP C.P e = some 1) (hz:zeroP C.P t = some (.agg #[z0,z1])) (o0:v0.oneCell' = true) (o1:v1.oneCell' = true) :
    Quiet C R H L ⟨dst,.build t #[(0,x),(1,y)],ty,pos,aft,g⟩ (.agg #[v0,v1]):=
  ⟨by intro c; simp,fun a w hx _=>by
    have c0:v0.cells = #[v0]:=by cases v0 <;> first | rfl | simp [Value.oneCell'] at o0
    have c1:v1.cells = #[v1]:=by cases v1 <;> first | rfl | simp [Value.oneCell'] at o1
    have cz:(Value.agg #[z0,z1]).cells = #[z0,z1]:=rfl
    simp [execOp,hx x (by simp [Op.operands]) _ h,hx y (by simp [Op.operands]) _ h2,Instr.build,run_zeroValue hz,run_underlying ht,run_sizeOf hs,cz,Instr.fill,c0,c1]⟩
end Go.Eng
/- Building structs whose fields are structs. No conditions. -/
namespace Go.Eng
variable {C:Cx} {R H:List PH} {L:Env}
def placesP (P:Program):List Field → Option (List (Nat × Nat))
  | []=>some []
  | f :: fs=>match szP P f.type,placesP P fs with
    | some n,some r=>some ((f.offset,n) :: r)
    | _,_=>none
def evalPs (L:Env):List (Nat × Operand) → Option (List (Nat × Value))
  | []=>some []
  | (i,x) :: ps=>match evalE L x,evalPs L ps with
    | some v,some r=>some ((i,v) :: r)
    | _,_=>none
def fillL (pl:List (Nat × Nat)):List Value → List (Nat × Value) → Option (List Value)
  | zs,[]=>some zs
  | zs,(i,v) :: r=>match pl[i]? with
    | none=>none
    | some (off,size)=>if v.cells.size = size ∧ off + size ≤ zs.length then fillL pl (zs.take off ++ (v.cells.toList ++ zs.drop (off + size))) r else none
theorem fillL_eq {pl:List (Nat × Nat)}:∀ {pvs:List (Nat × Value)} {zs out:List Value},fillL pl zs pvs = some out → Instr.fill (fun i=>pl[i]?) zs.toArray pvs = some out.toArray
  | [],zs,out,h=>by simp [fillL] at h; subst h; rfl
  | (i,v) :: r,zs,out,h=>by
    unfold fillL at h;unfold Instr.fill

    split at h
    · simp at h
    · rename_i off size e
      rw [e]
      split at h
      · rename_i hc
        have ih:=fillL_eq h
        have hs:=splice_fold v.cells.toList 0 off zs.toArray (by simp; omega)
        simp only
        rw [if_neg (by simp; omega)]
        rw [← ih]
        congr 1
        apply Array.ext'
        simpa [← Array.toList_zipIdx,← hc.1] using hs
      · simp at h
theorem evalPs_eq {a:Act}:∀ {ps:List (Nat × Operand)} {pvs:List (Nat × Value)},evalPs L ps = some pvs → (∀ x ∈ ps.map (·.2),OnE L a x) → ps.map (fun (x:Nat × Operand)=>(x.1,a.eval x.2)) = pvs
  | [],pvs,h,_=>by simp [evalPs] at h; subst h; rfl
  | (i,x) :: ps,pvs,h,hx=>by
    unfold evalPs at h
    split at h
    · rename_i v r e1 e2
      simp at h; subst h
      rw [List.map_cons,evalPs_eq e2 (fun y hy=>hx y (by simp at hy ⊢; exact .inr hy)),hx x (by simp) v e1]
    · simp at h
theorem placesP_run {P:Program}:∀ (fs:List Field) (pl:List (Nat × Nat)) (w:World),placesP P fs = some pl → (fs.mapM (fun f=>Prod.mk f.offset <$> sizeOf f.type:Field → Sem (Nat × Nat))).run P w = .ok pl w
  | [],pl,w,h=>by simp [placesP] at h; subst h; simp
  | f :: fs,pl,w,h=>by
    unfold placesP at h
    split at h
    · rename_i n r e1 e2
      simp at h; subst h
      simp [List.mapM_cons,run_sizeOf e1,placesP_run fs r w e2]
    · simp at h
theorem C9 {dst:Option Tmp} {ty:TypeId} {pos:String} {aft:Array Edge} {g:Option (Nat × Bool)} {t:TypeId} {ps:List (Nat × Operand)} {fs:List Field} {pl:List (Nat × Nat)} {pvs:List (Nat × Value)} {zs out:List Value}
    (hu:C.P.underlying t = some (.struct fs.toArray)) (hz:zeroP C.P t = some (.agg zs.toArray)) (hpl:placesP C.P fs = some pl) (hv:evalPs L ps = some pvs) (ho:fillL pl zs pvs = some out) :
    Quiet C R H L ⟨dst,.build t ps.toArray,ty,pos,aft,g⟩ (.agg out.toArray):=
  ⟨by intro c; simp,fun a w hxx _=>by
    have h1:=evalPs_eq (a:=a) hv (fun x hx=>hxx x (by simp [Op.operands] at hx ⊢; exact hx))
    have h2:=placesP_run fs pl w hpl
    have h3:=fillL_eq ho
    simp only [execOp,Instr.build]

    simp [run_zeroValue hz,Value.cells,run_underlying hu,h1,h2,h3]⟩
end Go.Eng
/- Free spans of contacts. -/
namespace Go.Proofs.YtphehihohghfoaaGreat
open Go.Eng Go.Step
set_option maxRecDepth 100000
set_option maxHeartbeats 4000000

theorem vok {qs:List Int} {cs:List Ct} {bs:List Bk} {hs:List Hd} {d:Dm} (h:validT qs cs bs hs d = true):VOk qs cs bs hs d:=by
 obtain ⟨hcs0,hbl,hok,hhl,hql,hquo,hdm,hcsl⟩:=valid_ok h
 obtain ⟨_,hb,hh⟩:=chkT_ok (of_decide_eq_true h).1
 exact ⟨fun c hc=>by
  have h1:=chkCt_all (hcs0 c hc).1
  have h2:=(hcs0 c hc).2
  exact ⟨⟨h1.1.1,by omega⟩,⟨h1.2.1.1,by omega⟩,h1.2.2.1,h1.2.2.2.1,h1.2.2.2.2⟩,hbl,(chkB_ok hb).2,hok,hhl,fit_of hh,hql,hquo,hdm,hcsl⟩
theorem vokB {qs:List Int} {cs:List Ct} {bs:List Bk} {hs:List Hd} {d:Dm} (h:validT qs cs bs hs d = true):chkB qs cs bs = 0:=(chkT_ok (of_decide_eq_true h).1).2.1
theorem bkCheck0_spec {ρ τ σ υ:PH} {pq pc pb ph:Option Addr} {kq kc kb kh:Nat} {qs:List Int} {cs:List Ct} {bs:List Bk} {hs:List Hd} (hT:TbAt ρ τ σ υ pq pc pb ph kq kc kb kh qs cs bs hs) (i:Nat) (h0:chkB qs cs bs = 0) (hi:i < cs.length) :
  Ans Tryz.prog (fv 152) [.agg #[.slice pq qs.length kq,.slice pc cs.length kc],.slice pb bs.length kb,int (i:Int)] [ρ,τ,σ] (fun r=>r = int 0):=by
 have hck:=bkCheck_spec ρ τ σ pq pc kq kc qs cs _ bs hT.hq hT.hc hT.hcap hT.lq hT.lc hT.hb hT.lb
 rw [h0] at hck
 refine spec_in (cap:=[]) Tryz.func152 rfl rfl Tryz.ntmps152 rfl envZ (fun N β=>?_)
 refine AD ?_;refine AA ?_;refine BI (BK rfl) rfl rfl rfl ?_;rintro _ _ ⟨b3,rfl,rfl⟩;refine AS (ρ:=sng b3 _) takeZ ?_
 have c:RdN (sng b3 (.cells #[.slice pq qs.length kq,.slice pc cs.length kc] 25 (0,0))) b3 0 [.slice pq qs.length kq,.slice pc cs.length kc]:=rdN_sng (vs:=[.slice pq qs.length kq,.slice pc cs.length kc])
 have c0:rdc (sng b3 (.cells #[.slice pq qs.length kq,.slice pc cs.length kc] 25 (0,0))) b3 0 = some (.slice pq qs.length kq):=by rw [rdc_sng]; rfl
 have c1:rdc (sng b3 (.cells #[.slice pq qs.length kq,.slice pc cs.length kc] 25 (0,0))) b3 1 = some (.slice pc cs.length kc):=by rw [rdc_sng]; rfl
 refine AC ?_;refine AE ?_;refine AD ?_;refine AD ?_;refine AA ?_;refine AT ?_;refine AB ?_;refine A4 hck rfl rfl rdZ rfl rfl ?_;rintro _ rfl;refine BE ?_;refine AE ?_;refine AN rfl ?_;refine AK ?_;refine AD ?_;refine AD ?_;refine AA ?_;refine AB ?_;refine AY ?_;refine AB ?_;refine AB ?_;refine AG ?_;refine AF ?_;refine AV ?_;refine BO ?_;refine AL ?_;refine AE ?_;refine AN rfl ?_;refine AK ?_;refine AD ?_;refine AA ?_;refine AC ?_;refine AE ?_;exact AI (res1 rfl rfl) rsubZ selZ ⟨rfl,rfl⟩
theorem freeAdd_spec (bA bO:Nat) (a to:Int) (u:Value) (G:List (Int × Int)) (χ:PH) (hO:OwnS 93 2 u G.length (G.flatMap encS) χ) (hl:G.length ≤ 100000) :
  Eng.Spec Tryz.prog (.func (.func 165) #[] #[.pointer (some ⟨bA,0,none⟩),.pointer (some ⟨bO,0,none⟩)]) [int to] [] [sng bA (.cells #[int a] 3 (0,0)),sng bO (.cells #[u] 91 (0,0)),χ] (fun r H'=>r = .tuple #[] ∧ ∃ u' χ',H' = [sng bA (.cells #[int a] 3 (0,0)),sng bO (.cells #[u'] 91 (0,0)),χ'] ∧ OwnS 93 2 u' (G ++ if a < to then [(a,to)] else []).length ((G ++ if a < to then [(a,to)] else []).flatMap encS) χ'):=by
 have hone:∀ z n (xs:List Value) (χ:PH),OwnS 93 2 z n xs χ → z.oneCell' = true:=fun z n xs χ h=>by obtain ⟨_,_,rfl⟩:=h.form; rfl
 have hu:=hone _ _ _ _ hO
 refine spec_in (cap:=[.pointer (some ⟨bA,0,none⟩),.pointer (some ⟨bO,0,none⟩)]) Tryz.func165 rfl rfl Tryz.ntmps165 rfl envZ (fun N β=>?_)
 by_cases h:a < to
 ·rw [if_pos h]
  refine AD ?_;refine AA ?_;refine AF ?_;refine AB ?_;refine BD ?_;refine AE ?_;refine AO rfl ?_;refine AA ?_;refine AF ?_;refine AF ?_;refine AB ?_;refine BT ?_;refine A9 ?_; rintro _ _ ⟨b,rfl,rfl⟩
  refine BI (BP (by_:=16) (s:=2) (news:=[int a,int to]) rfl rfl rfl rfl rfl rfl rfl hO takeZ (cells_own memZ) rfl (by (repeat (first | exact (fun v hv=>absurd hv List.not_mem_nil) | (refine List.forall_mem_cons.2 ⟨?_,?_⟩; (focus (first | exact rfl | assumption))))); first | done | fail) (by omega) (by simp only [maxLen]; omega) (by omega)) rfl rfl rfl ?_
  rintro u1 _ ⟨χ1,hO1,rfl⟩
  have hu2:=hone _ _ _ _ hO1
  refine BF ?_; rintro _ _ ⟨rfl,rfl⟩;refine AE ?_;refine CO (res0 rfl) rsubZ selZ ⟨rfl,u1,χ1,rfl,?_⟩;rw [List.length_append,List.flatMap_append];exact hO1
 ·rw [if_neg h,List.append_nil]
  refine AD ?_;refine AA ?_;refine AF ?_;refine AB ?_;refine AY ?_;refine AE ?_;refine AN rfl ?_;refine AK ?_;exact CO (res0 rfl) rsubZ selZ ⟨rfl,u,χ,rfl,hO⟩
theorem gapsP_at {e:Int} {l:List (Int × Int)} {k:Nat} (h:k < l.length) (a:Int):gapsP e a (l.drop k) = (if a < l[k].1 then [(a,l[k].1)] else []) ++ gapsP e l[k].2 (l.drop (k + 1)):=by
 rw [List.drop_eq_getElem_cons h]
 rfl
set_option maxHeartbeats 32000000 in
theorem bkFree0_spec {ρ τ σ υ:PH} {pq pc pb ph:Option Addr} {kq kc kb kh:Nat} {qs:List Int} {cs:List Ct} {bs:List Bk} {hs:List Hd} (hT:TbAt ρ τ σ υ pq pc pb ph kq kc kb kh qs cs bs hs) (i:Nat) (x:Ct) (hx:cs[i]? = some x) (hb:firstE (bkE cs bs) bs.length = 0) (hbl:bs.length ≤ 512) :
  Makes Tryz.prog (fv 153) [.agg #[.slice pq qs.length kq,.slice pc cs.length kc],.slice pb bs.length kb,int (i:Int),int x.s] [ρ,τ,σ] (fun r χ=>OwnS 93 2 r (freeC cs bs i).length ((freeC cs bs i).flatMap encS) χ):=by
 have hbusy:=busy_spec σ _ bs i hT.hb (by omega)
 have hbi:=busy_in hb hx
 have hbp:=busy_apart hb i
 have hbll:=busyL_len bs i
 have hfc:freeC cs bs i = gapsP x.e x.s (busyL bs i):=by unfold freeC; rw [hx]
 have hgl:=gapsP_len x.e (busyL bs i) x.s
 have hone:∀ z n (xs:List Value) (χ:PH),OwnS 93 2 z n xs χ → z.oneCell' = true:=fun z n xs χ h=>by obtain ⟨_,_,rfl⟩:=h.form; rfl
 rw [hfc]
 have hi:=(List.getElem?_eq_some_iff.1 hx).1
 obtain ⟨bq,oq,e4,hrd⟩:=ctRow hT.rc hx
 refine spec_in (cap:=[]) Tryz.func153 rfl rfl Tryz.ntmps153 rfl envZ (fun N β=>?_)
 refine AD ?_;refine AA ?_;refine BI (BK rfl) rfl rfl rfl ?_;rintro _ _ ⟨b3,rfl,rfl⟩;refine AS (ρ:=sng b3 _) takeZ ?_
 have c:RdN (sng b3 (.cells #[.slice pq qs.length kq,.slice pc cs.length kc] 25 (0,0))) b3 0 [.slice pq qs.length kq,.slice pc cs.length kc]:=rdN_sng (vs:=[.slice pq qs.length kq,.slice pc cs.length kc])
 have c0:rdc (sng b3 (.cells #[.slice pq qs.length kq,.slice pc cs.length kc] 25 (0,0))) b3 0 = some (.slice pq qs.length kq):=by rw [rdc_sng]; rfl
 have c1:rdc (sng b3 (.cells #[.slice pq qs.length kq,.slice pc cs.length kc] 25 (0,0))) b3 1 = some (.slice pc cs.length kc):=by rw [rdc_sng]; rfl
 refine BV ?_;subst e4;refine AC ?_;refine AE ?_;refine AD ?_;refine AA ?_;refine AG ?_;refine AF ?_;refine AB ?_;refine A3 ?_;refine AT ?_;refine A2 ?_; rintro _ _ ⟨b,rfl,rfl⟩;refine AX ?_; rintro _ _ ⟨rfl,rfl⟩;refine AE ?_;refine AD ?_;refine AA ?_;refine B6 ?_; rintro _ _ ⟨b,rfl,rfl⟩;refine AE ?_;refine AD ?_;refine AA ?_;refine AG ?_;refine AF ?_;refine AB ?_;refine EY ?_;refine B6 ?_; rintro _ _ ⟨b,rfl,rfl⟩;refine BF ?_; rintro _ _ ⟨rfl,rfl⟩;refine AE ?_;refine AD ?_;refine AA ?_;refine CF ?_;refine AC ?_;refine AE ?_;refine AD ?_;refine AD ?_;refine AA ?_;refine AB ?_;refine AB ?_
 revert b; intro bA
 revert b; intro bO
 revert b; intro bC
 rw [show max x.s x.s = x.s by omega]
 refine AS (ρ:=sng bC _) takeZ ?_
 have g2:rdc (sng bC (.cells #[int x.f,int x.t,int x.s,int x.e,int x.r,int x.g,int x.l] 57 (0,0))) bC 3 = some (int x.e):=by rw [rdc_sng]; rfl
 refine BM hbusy rfl rfl rdZ rfl rfl ?_;rintro w χb hOb
 have hSb:=hOb.at
 obtain ⟨pw,kw,rfl⟩:=hOb.form
 obtain ⟨_,_,ew,hrw⟩:=SlE.val (enc:=encS) encS_len (show SlE encS 2 χb _ (busyL bs i) from hSb)
 simp only [Value.slice.injEq] at ew
 obtain ⟨rfl,_,rfl⟩:=ew
 refine AS (ρ:=χb) takeZ ?_
 generalize busyL bs i = L at hbi hbp hbll hOb hSb hrw hgl
 refine AV ?_;refine AB ?_;refine AE ?_;refine AP ?_
 refine BB [2,12,27,28,9,10,11] (X:=Nat × Int × List (Int × Int) × Value × PH) (0,x.s,[],.slice none 0 0,emp) (fun z=>z.1 ≤ L.length ∧ (∀ y ∈ L.drop z.1,z.2.1 ≤ y.1) ∧ gapsP x.e x.s L = z.2.2.1 ++ gapsP x.e z.2.1 (L.drop z.1) ∧ OwnS 93 2 z.2.2.2.1 z.2.2.1.length (z.2.2.1.flatMap encS) z.2.2.2.2) (fun z=>[(29,int z.1)]) (fun z=>[sng bA (.cells #[int z.2.1] 3 (0,0)),sng bO (.cells #[z.2.2.2.1] 91 (0,0)),z.2.2.2.2]) (fun z=>L.length - z.1) pickZ ⟨by dsimp only; omega,fun y hy=>by rw [List.drop_zero] at hy; exact (hbi y hy).1,rfl,OwnS.nil _ _⟩ covZ selZ ?_
 rintro ⟨k,a,G,u,χ⟩ ⟨hk,ha,hG,hO⟩
 dsimp only at hk ha hG hO ⊢
 have hGl:G.length ≤ L.length + 1:=by
  have:=congrArg List.length hG
  rw [List.length_append] at this;omega
 by_cases hlt:k < L.length
 ·have hy:=List.getElem?_eq_getElem hlt
  have hga:=gapsP_at (e:=x.e) hlt a
  have hmem:=List.getElem_mem hlt
  have hin:=hbi _ hmem
  have hak:=ha L[k] (by rw [List.drop_eq_getElem_cons hlt]; exact List.mem_cons_self)
  have hpk:∀ y ∈ L.drop (k + 1),L[k].2 ≤ y.1:=fun y hy=>by
   have h1:=List.Pairwise.sublist (List.drop_sublist k L) hbp
   rw [List.drop_eq_getElem_cons hlt] at h1;exact (List.pairwise_cons.1 h1).1 y hy
  obtain ⟨b6,o6,rfl,hRd6,y0,y1⟩:=spRow hrw hy
  generalize L[k] = y at hy hga hin hak hpk hRd6 y0 y1
  have hadd:=freeAdd_spec bA bO a y.1 u G χ hO (by omega)
  refine AD ?_;refine AA ?_;refine BD ?_;refine AE ?_;refine AD ?_;refine AO rfl ?_;refine AK ?_;refine AD ?_;refine AP ?_;refine AD ?_;refine AA ?_;refine A3 ?_;refine AT ?_;refine A2 ?_; rintro _ _ ⟨b,rfl,rfl⟩;refine AX ?_; rintro _ _ ⟨rfl,rfl⟩;refine AE ?_;refine AD ?_;refine AA ?_;refine AB ?_;refine AG ?_;refine AF ?_
  revert b; intro b14
  refine BG hadd rfl rfl takesZ rdZ rfl rfl ?_;rintro _ _ ⟨rfl,u',χ',rfl,hO'⟩
  have hmx:max a y.2 = y.2:=by omega
  refine AE ?_;refine AA ?_;refine AF ?_;refine AG ?_;refine AF ?_;refine EY ?_
  focus ((rw [hmx]))
  refine BF ?_; rintro _ _ ⟨rfl,rfl⟩;refine AE ?_;refine AZ ?_;refine AA ?_;refine A7 ?_;refine AB ?_;refine AE ?_
  refine AU (k + 1,y.2,G ++ (if a < y.1 then [(a,y.1)] else []),u',χ') ⟨by dsimp only; omega,hpk,?_,hO'⟩ (by dsimp only; omega) covZ selZ
  dsimp only
  rw [hG,hga,List.append_assoc]
 ·have hke:k = L.length:=by omega
  subst hke
  have hadd:=freeAdd_spec bA bO a x.e u G χ hO (by omega)
  have hfin:gapsP x.e x.s L = G ++ (if a < x.e then [(a,x.e)] else []):=by
   rw [hG,List.drop_length]
   rfl
  rw [hfin];refine AD ?_;refine AA ?_;refine AY ?_;refine AE ?_;refine AD ?_;refine AN rfl ?_;refine A5 rfl ?_;refine AD ?_;refine AA ?_;refine AB ?_;refine AG ?_;refine AF ?_;refine BG hadd rfl rfl takesZ rdZ rfl rfl ?_;rintro _ _ ⟨rfl,u',χ',rfl,hO'⟩;refine AE ?_;refine AD ?_;refine AA ?_;refine AF ?_;refine AC ?_;refine AE ?_;exact AI (res1 rfl rfl) rsubZ selZ ⟨χ',hO',rfl⟩
theorem bkFree_spec {ρ τ σ υ:PH} {pq pc pb ph:Option Addr} {kq kc kb kh:Nat} {qs:List Int} {cs:List Ct} {bs:List Bk} {hs:List Hd} (hT:TbAt ρ τ σ υ pq pc pb ph kq kc kb kh qs cs bs hs) (i:Nat) (x:Ct) (hx:cs[i]? = some x) (h0:chkB qs cs bs = 0) :
  Makes Tryz.prog (fv 136) [.agg #[.slice pq qs.length kq,.slice pc cs.length kc],.slice pb bs.length kb,int (i:Int)] [ρ,τ,σ] (fun r χ=>∃ u,r = .tuple #[u,int 0] ∧ OwnS 93 2 u (freeC cs bs i).length ((freeC cs bs i).flatMap encS) χ):=by
 obtain ⟨hbl,hb⟩:=chkB_ok h0
 have hck:=bkCheck0_spec hT i h0 (List.getElem?_eq_some_iff.1 hx).1
 have hfr:=bkFree0_spec hT i x hx hb hbl
 have hi:=(List.getElem?_eq_some_iff.1 hx).1
 obtain ⟨bq,oq,e4,hrd⟩:=ctRow hT.rc hx
 have g2:rdc τ bq (oq + i * 7 + 2) = some (int x.s):=hrd.get (j:=2) rfl
 refine spec_in (cap:=[]) Tryz.func136 rfl rfl Tryz.ntmps136 rfl envZ (fun N β=>?_)
 refine AD ?_;refine AA ?_;refine BI (BK rfl) rfl rfl rfl ?_;rintro _ _ ⟨b3,rfl,rfl⟩;refine AS (ρ:=sng b3 _) takeZ ?_
 have c:RdN (sng b3 (.cells #[.slice pq qs.length kq,.slice pc cs.length kc] 25 (0,0))) b3 0 [.slice pq qs.length kq,.slice pc cs.length kc]:=rdN_sng (vs:=[.slice pq qs.length kq,.slice pc cs.length kc])
 have c0:rdc (sng b3 (.cells #[.slice pq qs.length kq,.slice pc cs.length kc] 25 (0,0))) b3 0 = some (.slice pq qs.length kq):=by rw [rdc_sng]; rfl
 have c1:rdc (sng b3 (.cells #[.slice pq qs.length kq,.slice pc cs.length kc] 25 (0,0))) b3 1 = some (.slice pc cs.length kc):=by rw [rdc_sng]; rfl
 subst e4;refine AC ?_;refine AC ?_;refine AE ?_;refine AD ?_;refine AD ?_;refine AA ?_;refine AT ?_;refine AB ?_;refine AB ?_;refine A4 hck rfl rfl rdZ rfl rfl ?_;rintro _ rfl;refine AC ?_;refine AE ?_;refine AD ?_;refine AA ?_;refine AB ?_;refine BE ?_;refine AE ?_;refine AN rfl ?_;refine AK ?_;refine AD ?_
 refine A6 (.q 0 (.q 1 (.q 2 (.q 3 (.q 4 (.q 5 (.q 6 (.q 7 (.q 8 (.l 9 .e (.q 10 (.q 11 .nil)))))))))))) [] rfl (by kernel_rfl) Sel.nil ?_
 refine BL ?_;refine AJ ?_;refine AJ ?_;refine A0 ?_;refine AR ?_;refine AJ ?_;refine BC ?_;refine BX ?_;refine AR ?_;refine CL (DW rfl hfr rfl rfl rdZ rfl rfl ?_);rintro u _ ⟨χ,hO,rfl⟩;refine BW ?_;refine BW ?_;refine A8 ?_
 skip
 exact AI (res2 rfl rfl rfl) rsubZ selZ ⟨χ,⟨u,rfl,hO⟩,rfl⟩
end Go.Proofs.YtphehihohghfoaaGreat
/- The network made. -/
namespace Go.Proofs.YtphehihohghfoaaGreat
open Go.Eng Go.Step
set_option maxRecDepth 100000
set_option maxHeartbeats 4000000

theorem exValid_spec {ρ τ σ υ:PH} {pq pc pb ph:Option Addr} {kq kc kb kh:Nat} {qs:List Int} {cs:List Ct} {bs:List Bk} {hs:List Hd} (hT:TbAt ρ τ σ υ pq pc pb ph kq kc kb kh qs cs bs hs) (d:Dm) :
  Ans Tryz.prog (fv 98) [.agg #[.slice pq qs.length kq,.slice pc cs.length kc,.slice pb bs.length kb,.slice ph hs.length kh],.agg #[int d.s,int d.d,int d.v,int d.r,int d.e]] [ρ,τ,σ,υ] (fun r=>r = .bool (validT qs cs bs hs d)):=by
 refine spec_in (cap:=[]) Tryz.func98 rfl rfl Tryz.ntmps98 rfl envZ (fun N β=>?_)
 refine AD ?_;refine AA ?_;refine BI (BK rfl) rfl rfl rfl ?_;rintro _ _ ⟨b1,rfl,rfl⟩;refine AS (ρ:=sng b1 _) takeZ ?_
 have ct:RdN (sng b1 (.cells #[.slice pq qs.length kq,.slice pc cs.length kc,.slice pb bs.length kb,.slice ph hs.length kh] 29 (0,0))) b1 0 [.slice pq qs.length kq,.slice pc cs.length kc,.slice pb bs.length kb,.slice ph hs.length kh]:=rdN_sng (vs:=[.slice pq qs.length kq,.slice pc cs.length kc,.slice pb bs.length kb,.slice ph hs.length kh])
 have ct0:rdc (sng b1 (.cells #[.slice pq qs.length kq,.slice pc cs.length kc,.slice pb bs.length kb,.slice ph hs.length kh] 29 (0,0))) b1 0 = some (.slice pq qs.length kq):=by rw [rdc_sng]; rfl
 have ct1:rdc (sng b1 (.cells #[.slice pq qs.length kq,.slice pc cs.length kc,.slice pb bs.length kb,.slice ph hs.length kh] 29 (0,0))) b1 1 = some (.slice pc cs.length kc):=by rw [rdc_sng]; rfl
 have ct2:rdc (sng b1 (.cells #[.slice pq qs.length kq,.slice pc cs.length kc,.slice pb bs.length kb,.slice ph hs.length kh] 29 (0,0))) b1 2 = some (.slice pb bs.length kb):=by rw [rdc_sng]; rfl
 have ct3:rdc (sng b1 (.cells #[.slice pq qs.length kq,.slice pc cs.length kc,.slice pb bs.length kb,.slice ph hs.length kh] 29 (0,0))) b1 3 = some (.slice ph hs.length kh):=by rw [rdc_sng]; rfl
 have ctp:RdP (sng b1 (.cells #[.slice pq qs.length kq,.slice pc cs.length kc,.slice pb bs.length kb,.slice ph hs.length kh] 29 (0,0))) b1 0 [.slice pq qs.length kq,.slice pc cs.length kc]:=rdP_sng (xs:=[.slice pq qs.length kq,.slice pc cs.length kc,.slice pb bs.length kb,.slice ph hs.length kh]) rfl
 refine BI (BK rfl) rfl rfl rfl ?_;rintro _ _ ⟨b2,rfl,rfl⟩;refine AS (ρ:=sng b2 _) takeZ ?_
 have cd:RdN (sng b2 (.cells #[int d.s,int d.d,int d.v,int d.r,int d.e] 31 (0,0))) b2 0 [int d.s,int d.d,int d.v,int d.r,int d.e]:=rdN_sng (vs:=[int d.s,int d.d,int d.v,int d.r,int d.e])
 have cd0:rdc (sng b2 (.cells #[int d.s,int d.d,int d.v,int d.r,int d.e] 31 (0,0))) b2 0 = some (int d.s):=by rw [rdc_sng]; rfl
 have cd1:rdc (sng b2 (.cells #[int d.s,int d.d,int d.v,int d.r,int d.e] 31 (0,0))) b2 1 = some (int d.d):=by rw [rdc_sng]; rfl
 have cd2:rdc (sng b2 (.cells #[int d.s,int d.d,int d.v,int d.r,int d.e] 31 (0,0))) b2 2 = some (int d.v):=by rw [rdc_sng]; rfl
 have cd3:rdc (sng b2 (.cells #[int d.s,int d.d,int d.v,int d.r,int d.e] 31 (0,0))) b2 3 = some (int d.r):=by rw [rdc_sng]; rfl
 have cd4:rdc (sng b2 (.cells #[int d.s,int d.d,int d.v,int d.r,int d.e] 31 (0,0))) b2 4 = some (int d.e):=by rw [rdc_sng]; rfl
 refine AC ?_;refine AE ?_;refine AD ?_;refine AA ?_;refine AG ?_;refine AG ?_;refine AF ?_;refine AV ?_;refine AC ?_;refine AE ?_;refine AD ?_;refine AD ?_;refine AA ?_;refine AT ?_;refine A4 (chkTab_spec hT) rfl rfl rdZ rfl rfl ?_;rintro _ rfl
 by_cases h0:chkT qs cs bs hs = 0
 rotate_left
 ·have hv:validT qs cs bs hs d = false:=decide_eq_false (fun h=>h0 h.1)
  rw [hv]
  generalize chkT qs cs bs hs = z at h0
  refine CG ?_;refine AB ?_;refine AH rfl rfl rfl ?_;refine AH rfl rfl rfl ?_;refine AH rfl rfl rfl ?_;refine AQ ?_;refine AB ?_;refine AH rfl rfl rfl ?_;refine AH rfl rfl rfl ?_;refine AH rfl rfl rfl ?_;refine AH rfl rfl rfl ?_;refine AQ ?_;refine AB ?_;refine AH rfl rfl rfl ?_;refine AH rfl rfl rfl ?_;refine AH rfl rfl rfl ?_;refine AQ ?_;refine AB ?_;refine AH rfl rfl rfl ?_;refine AH rfl rfl rfl ?_;refine AH rfl rfl rfl ?_;refine AH rfl rfl rfl ?_;refine AQ ?_;refine AB ?_;refine AH rfl rfl rfl ?_;refine AH rfl rfl rfl ?_;refine AH rfl rfl rfl ?_;refine AH rfl rfl rfl ?_;refine AH rfl rfl rfl ?_;refine AQ ?_;refine AE ?_;refine AO rfl ?_;refine AD ?_;refine AA ?_;refine AC ?_;refine AE ?_;exact AI (res1 rfl rfl) rsubZ selZ ⟨rfl,rfl⟩
 rw [h0]
 have hbad:¬ okDm qs.length d → validT qs cs bs hs d = false:=fun h=>decide_eq_false (fun k=>h k.2)
 by_cases hs1:0 ≤ d.s
 rotate_left
 ·rw [hbad (fun h=>by unfold okDm at h; omega)]
  refine BE ?_;refine AB ?_;refine AG ?_;refine AF ?_;refine BD ?_;refine AL ?_;refine AB ?_;refine AH rfl rfl rfl ?_;refine AH rfl rfl rfl ?_;refine AH rfl rfl rfl ?_;refine AH rfl rfl rfl ?_;refine AQ ?_;refine AB ?_;refine AH rfl rfl rfl ?_;refine AH rfl rfl rfl ?_;refine AH rfl rfl rfl ?_;refine AQ ?_;refine AB ?_;refine AH rfl rfl rfl ?_;refine AH rfl rfl rfl ?_;refine AH rfl rfl rfl ?_;refine AH rfl rfl rfl ?_;refine AQ ?_;refine AB ?_;refine AH rfl rfl rfl ?_;refine AH rfl rfl rfl ?_;refine AH rfl rfl rfl ?_;refine AH rfl rfl rfl ?_;refine AH rfl rfl rfl ?_;refine AQ ?_;refine AE ?_;refine AO rfl ?_;refine AD ?_;refine AA ?_;refine AC ?_;refine AE ?_;exact AI (res1 rfl rfl) rsubZ selZ ⟨rfl,rfl⟩
 by_cases hs2:d.s < (qs.length:Int)
 rotate_left
 ·rw [hbad (fun h=>by unfold okDm at h; omega)]
  refine BE ?_;refine AB ?_;refine AG ?_;refine AF ?_;refine AY ?_;refine AL ?_;refine AB ?_;refine AG ?_;refine AF ?_;refine AB ?_;refine CK ?_;refine AL ?_;refine AB ?_;refine AH rfl rfl rfl ?_;refine AH rfl rfl rfl ?_;refine AH rfl rfl rfl ?_;refine AQ ?_;refine AB ?_;refine AH rfl rfl rfl ?_;refine AH rfl rfl rfl ?_;refine AH rfl rfl rfl ?_;refine AH rfl rfl rfl ?_;refine AQ ?_;refine AB ?_;refine AH rfl rfl rfl ?_;refine AH rfl rfl rfl ?_;refine AH rfl rfl rfl ?_;refine AH rfl rfl rfl ?_;refine AH rfl rfl rfl ?_;refine AQ ?_;refine AE ?_;refine AO rfl ?_;refine AD ?_;refine AA ?_;refine AC ?_;refine AE ?_;exact AI (res1 rfl rfl) rsubZ selZ ⟨rfl,rfl⟩
 by_cases hd1:0 ≤ d.d
 rotate_left
 ·rw [hbad (fun h=>by unfold okDm at h; omega)]
  refine BE ?_;refine AB ?_;refine AG ?_;refine AF ?_;refine AY ?_;refine AL ?_;refine AB ?_;refine AG ?_;refine AF ?_;refine AB ?_;refine BO ?_;refine AL ?_;refine AB ?_;refine AG ?_;refine AF ?_;refine BD ?_;refine AL ?_;refine AB ?_;refine AH rfl rfl rfl ?_;refine AH rfl rfl rfl ?_;refine AH rfl rfl rfl ?_;refine AH rfl rfl rfl ?_;refine AQ ?_;refine AB ?_;refine AH rfl rfl rfl ?_;refine AH rfl rfl rfl ?_;refine AH rfl rfl rfl ?_;refine AH rfl rfl rfl ?_;refine AH rfl rfl rfl ?_;refine AQ ?_;refine AE ?_;refine AO rfl ?_;refine AD ?_;refine AA ?_;refine AC ?_;refine AE ?_;exact AI (res1 rfl rfl) rsubZ selZ ⟨rfl,rfl⟩
 by_cases hd2:d.d < (qs.length:Int)
 rotate_left
 ·rw [hbad (fun h=>by unfold okDm at h; omega)]
  refine BE ?_;refine AB ?_;refine AG ?_;refine AF ?_;refine AY ?_;refine AL ?_;refine AB ?_;refine AG ?_;refine AF ?_;refine AB ?_;refine BO ?_;refine AL ?_;refine AB ?_;refine AG ?_;refine AF ?_;refine AY ?_;refine AL ?_;refine AB ?_;refine AG ?_;refine AF ?_;refine AB ?_;refine CK ?_;refine AL ?_;refine AB ?_;refine AH rfl rfl rfl ?_;refine AH rfl rfl rfl ?_;refine AH rfl rfl rfl ?_;refine AH rfl rfl rfl ?_;refine AH rfl rfl rfl ?_;refine AQ ?_;refine AE ?_;refine AO rfl ?_;refine AD ?_;refine AA ?_;refine AC ?_;refine AE ?_;exact AI (res1 rfl rfl) rsubZ selZ ⟨rfl,rfl⟩
 by_cases h3:d.s ≠ d.d
 rotate_left
 ·rw [hbad (fun h=>by unfold okDm at h; omega)]
  refine BE ?_;refine AB ?_;refine AG ?_;refine AF ?_;refine AY ?_;refine AL ?_;refine AB ?_;refine AG ?_;refine AF ?_;refine AB ?_;refine BO ?_;refine AL ?_;refine AB ?_;refine AG ?_;refine AF ?_;refine AY ?_;refine AL ?_;refine AB ?_;refine AG ?_;refine AF ?_;refine AB ?_;refine BO ?_;refine AL ?_;refine AB ?_;refine AG ?_;refine AF ?_;refine AG ?_;refine AF ?_;refine CJ ?_;refine AL ?_;refine AE ?_;refine AO rfl ?_;refine AD ?_;refine AA ?_;refine AC ?_;refine AE ?_;exact AI (res1 rfl rfl) rsubZ selZ ⟨rfl,rfl⟩
 by_cases h4:1 ≤ d.v
 rotate_left
 ·rw [hbad (fun h=>by unfold okDm at h; omega)]
  refine BE ?_;refine AB ?_;refine AG ?_;refine AF ?_;refine AY ?_;refine AL ?_;refine AB ?_;refine AG ?_;refine AF ?_;refine AB ?_;refine BO ?_;refine AL ?_;refine AB ?_;refine AG ?_;refine AF ?_;refine AY ?_;refine AL ?_;refine AB ?_;refine AG ?_;refine AF ?_;refine AB ?_;refine BO ?_;refine AL ?_;refine AB ?_;refine AG ?_;refine AF ?_;refine AG ?_;refine AF ?_;refine B8 ?_;refine AL ?_;refine AE ?_;refine AN rfl ?_;refine AK ?_;refine AD ?_;refine AA ?_;refine AG ?_;refine AF ?_;refine BO ?_;refine AB ?_;refine AH rfl rfl rfl ?_;refine AH rfl rfl rfl ?_;refine AH rfl rfl rfl ?_;refine AL ?_;refine AB ?_;refine AH rfl rfl rfl ?_;refine AH rfl rfl rfl ?_;refine AH rfl rfl rfl ?_;refine AL ?_;refine AB ?_;refine AH rfl rfl rfl ?_;refine AH rfl rfl rfl ?_;refine AH rfl rfl rfl ?_;refine AH rfl rfl rfl ?_;refine AH rfl rfl rfl ?_;refine AL ?_;refine AB ?_;refine AH rfl rfl rfl ?_
  refine AH rfl rfl rfl ?_;refine AH rfl rfl rfl ?_;refine AL ?_;refine AB ?_;refine AH rfl rfl rfl ?_;refine AH rfl rfl rfl ?_;refine AH rfl rfl rfl ?_;refine AH rfl rfl rfl ?_;refine AH rfl rfl rfl ?_;refine AH rfl rfl rfl ?_;refine AL ?_;refine AC ?_;refine AE ?_;exact AI (res1 rfl rfl) rsubZ selZ ⟨rfl,rfl⟩
 by_cases h5:d.v ≤ 1099511627776
 rotate_left
 ·rw [hbad (fun h=>by unfold okDm at h; omega)]
  refine BE ?_;refine AB ?_;refine AG ?_;refine AF ?_;refine AY ?_;refine AL ?_;refine AB ?_;refine AG ?_;refine AF ?_;refine AB ?_;refine BO ?_;refine AL ?_;refine AB ?_;refine AG ?_;refine AF ?_;refine AY ?_;refine AL ?_;refine AB ?_;refine AG ?_;refine AF ?_;refine AB ?_;refine BO ?_;refine AL ?_;refine AB ?_;refine AG ?_;refine AF ?_;refine AG ?_;refine AF ?_;refine B8 ?_;refine AL ?_;refine AE ?_;refine AN rfl ?_;refine AK ?_;refine AD ?_;refine AA ?_;refine AG ?_;refine AF ?_;refine CK ?_;refine AB ?_;refine AG ?_;refine AF ?_;refine CU ?_;refine AQ ?_;refine AB ?_;refine AH rfl rfl rfl ?_;refine AH rfl rfl rfl ?_;refine AH rfl rfl rfl ?_;refine AL ?_;refine AB ?_;refine AH rfl rfl rfl ?_;refine AH rfl rfl rfl ?_;refine AH rfl rfl rfl ?_;refine AH rfl rfl rfl ?_;refine AH rfl rfl rfl ?_;refine AL ?_;refine AB ?_;refine AH rfl rfl rfl ?_;refine AH rfl rfl rfl ?_
  refine AH rfl rfl rfl ?_;refine AL ?_;refine AB ?_;refine AH rfl rfl rfl ?_;refine AH rfl rfl rfl ?_;refine AH rfl rfl rfl ?_;refine AH rfl rfl rfl ?_;refine AH rfl rfl rfl ?_;refine AH rfl rfl rfl ?_;refine AL ?_;refine AC ?_;refine AE ?_;exact AI (res1 rfl rfl) rsubZ selZ ⟨rfl,rfl⟩
 by_cases h6:0 ≤ d.r
 rotate_left
 ·rw [hbad (fun h=>by unfold okDm at h; omega)]
  refine BE ?_;refine AB ?_;refine AG ?_;refine AF ?_;refine AY ?_;refine AL ?_;refine AB ?_;refine AG ?_;refine AF ?_;refine AB ?_;refine BO ?_;refine AL ?_;refine AB ?_;refine AG ?_;refine AF ?_;refine AY ?_;refine AL ?_;refine AB ?_;refine AG ?_;refine AF ?_;refine AB ?_;refine BO ?_;refine AL ?_;refine AB ?_;refine AG ?_;refine AF ?_;refine AG ?_;refine AF ?_;refine B8 ?_;refine AL ?_;refine AE ?_;refine AN rfl ?_;refine AK ?_;refine AD ?_;refine AA ?_;refine AG ?_;refine AF ?_;refine CK ?_;refine AB ?_;refine AG ?_;refine AF ?_;refine CT ?_;refine AQ ?_;refine AB ?_;refine AG ?_;refine AF ?_;refine BO ?_;refine AQ ?_;refine AB ?_;refine AH rfl rfl rfl ?_;refine AH rfl rfl rfl ?_;refine AH rfl rfl rfl ?_;refine AH rfl rfl rfl ?_;refine AH rfl rfl rfl ?_;refine AL ?_;refine AB ?_;refine AH rfl rfl rfl ?_;refine AH rfl rfl rfl ?_;refine AH rfl rfl rfl ?_;refine AL ?_;refine AB ?_
  refine AH rfl rfl rfl ?_;refine AH rfl rfl rfl ?_;refine AH rfl rfl rfl ?_;refine AH rfl rfl rfl ?_;refine AH rfl rfl rfl ?_;refine AH rfl rfl rfl ?_;refine AL ?_;refine AC ?_;refine AE ?_;exact AI (res1 rfl rfl) rsubZ selZ ⟨rfl,rfl⟩
 by_cases h7:d.r < d.e
 rotate_left
 ·rw [hbad (fun h=>by unfold okDm at h; omega)]
  refine BE ?_;refine AB ?_;refine AG ?_;refine AF ?_;refine AY ?_;refine AL ?_;refine AB ?_;refine AG ?_;refine AF ?_;refine AB ?_;refine BO ?_;refine AL ?_;refine AB ?_;refine AG ?_;refine AF ?_;refine AY ?_;refine AL ?_;refine AB ?_;refine AG ?_;refine AF ?_;refine AB ?_;refine BO ?_;refine AL ?_;refine AB ?_;refine AG ?_;refine AF ?_;refine AG ?_;refine AF ?_;refine B8 ?_;refine AL ?_;refine AE ?_;refine AN rfl ?_;refine AK ?_;refine AD ?_;refine AA ?_;refine AG ?_;refine AF ?_;refine CK ?_;refine AB ?_;refine AG ?_;refine AF ?_;refine CT ?_;refine AQ ?_;refine AB ?_;refine AG ?_;refine AF ?_;refine CK ?_;refine AQ ?_;refine AB ?_;refine AG ?_;refine AF ?_;refine AG ?_;refine AF ?_;refine AY ?_;refine AQ ?_;refine AB ?_;refine AH rfl rfl rfl ?_;refine AH rfl rfl rfl ?_;refine AH rfl rfl rfl ?_;refine AL ?_;refine AB ?_;refine AH rfl rfl rfl ?_;refine AH rfl rfl rfl ?_
  refine AH rfl rfl rfl ?_;refine AH rfl rfl rfl ?_;refine AH rfl rfl rfl ?_;refine AH rfl rfl rfl ?_;refine AL ?_;refine AC ?_;refine AE ?_;exact AI (res1 rfl rfl) rsubZ selZ ⟨rfl,rfl⟩
 by_cases h8:d.e ≤ 1099511627776
 rotate_left
 ·rw [hbad (fun h=>by unfold okDm at h; omega)]
  refine BE ?_;refine AB ?_;refine AG ?_;refine AF ?_;refine AY ?_;refine AL ?_;refine AB ?_;refine AG ?_;refine AF ?_;refine AB ?_;refine BO ?_;refine AL ?_;refine AB ?_;refine AG ?_;refine AF ?_;refine AY ?_;refine AL ?_;refine AB ?_;refine AG ?_;refine AF ?_;refine AB ?_;refine BO ?_;refine AL ?_;refine AB ?_;refine AG ?_;refine AF ?_;refine AG ?_;refine AF ?_;refine B8 ?_;refine AL ?_;refine AE ?_;refine AN rfl ?_;refine AK ?_;refine AD ?_;refine AA ?_;refine AG ?_;refine AF ?_;refine CK ?_;refine AB ?_;refine AG ?_;refine AF ?_;refine CT ?_;refine AQ ?_;refine AB ?_;refine AG ?_;refine AF ?_;refine CK ?_;refine AQ ?_;refine AB ?_;refine AG ?_;refine AF ?_;refine AG ?_;refine AF ?_;refine BD ?_;refine AQ ?_;refine AB ?_;refine AG ?_;refine AF ?_;refine CU ?_;refine AQ ?_;refine AB ?_;refine AH rfl rfl rfl ?_;refine AH rfl rfl rfl ?_;refine AH rfl rfl rfl ?_;refine AH rfl rfl rfl ?_
  refine AH rfl rfl rfl ?_;refine AH rfl rfl rfl ?_;refine AL ?_;refine AC ?_;refine AE ?_;exact AI (res1 rfl rfl) rsubZ selZ ⟨rfl,rfl⟩
 by_cases h9:d.e - d.r ≤ 100
 rotate_left
 ·rw [hbad (fun h=>by unfold okDm at h; omega)]
  refine BE ?_;refine AB ?_;refine AG ?_;refine AF ?_;refine AY ?_;refine AL ?_;refine AB ?_;refine AG ?_;refine AF ?_;refine AB ?_;refine BO ?_;refine AL ?_;refine AB ?_;refine AG ?_;refine AF ?_;refine AY ?_;refine AL ?_;refine AB ?_;refine AG ?_;refine AF ?_;refine AB ?_;refine BO ?_;refine AL ?_;refine AB ?_;refine AG ?_;refine AF ?_;refine AG ?_;refine AF ?_;refine B8 ?_;refine AL ?_;refine AE ?_;refine AN rfl ?_;refine AK ?_;refine AD ?_;refine AA ?_;refine AG ?_;refine AF ?_;refine CK ?_;refine AB ?_;refine AG ?_;refine AF ?_;refine CT ?_;refine AQ ?_;refine AB ?_;refine AG ?_;refine AF ?_;refine CK ?_;refine AQ ?_;refine AB ?_;refine AG ?_;refine AF ?_;refine AG ?_;refine AF ?_;refine BD ?_;refine AQ ?_;refine AB ?_;refine AG ?_;refine AF ?_;refine CT ?_;refine AQ ?_;refine AB ?_;refine AG ?_;refine AF ?_;refine AG ?_;refine AF ?_;refine CY ?_;refine CU ?_;refine AQ ?_
  refine AC ?_;refine AE ?_;exact AI (res1 rfl rfl) rsubZ selZ ⟨rfl,rfl⟩
 have hv:validT qs cs bs hs d = true:=decide_eq_true ⟨h0,by unfold okDm; omega⟩
 rw [hv];refine BE ?_;refine AB ?_;refine AG ?_;refine AF ?_;refine AY ?_;refine AL ?_;refine AB ?_;refine AG ?_;refine AF ?_;refine AB ?_;refine BO ?_;refine AL ?_;refine AB ?_;refine AG ?_;refine AF ?_;refine AY ?_;refine AL ?_;refine AB ?_;refine AG ?_;refine AF ?_;refine AB ?_;refine BO ?_;refine AL ?_;refine AB ?_;refine AG ?_;refine AF ?_;refine AG ?_;refine AF ?_;refine B8 ?_;refine AL ?_;refine AE ?_;refine AN rfl ?_;refine AK ?_;refine AD ?_;refine AA ?_;refine AG ?_;refine AF ?_;refine CK ?_;refine AB ?_;refine AG ?_;refine AF ?_;refine CT ?_;refine AQ ?_;refine AB ?_;refine AG ?_;refine AF ?_;refine CK ?_;refine AQ ?_;refine AB ?_;refine AG ?_;refine AF ?_;refine AG ?_;refine AF ?_;refine BD ?_;refine AQ ?_;refine AB ?_;refine AG ?_;refine AF ?_;refine CT ?_;refine AQ ?_;refine AB ?_;refine AG ?_;refine AF ?_;refine AG ?_;refine AF ?_;refine CY ?_;refine CT ?_;refine AQ ?_
 refine AC ?_;refine AE ?_;exact AI (res1 rfl rfl) rsubZ selZ ⟨rfl,rfl⟩
set_option maxHeartbeats 32000000 in
theorem build_spec {ρ τ σ υ:PH} {pq pc pb ph:Option Addr} {kq kc kb kh:Nat} {qs:List Int} {cs:List Ct} {bs:List Bk} {hs:List Hd} (hT:TbAt ρ τ σ υ pq pc pb ph kq kc kb kh qs cs bs hs) (d:Dm) :
  Eng.Spec Tryz.prog (fv 61) [.agg #[.slice pq qs.length kq,.slice pc cs.length kc,.slice pb bs.length kb,.slice ph hs.length kh],.agg #[int d.s,int d.d,int d.v,int d.r,int d.e]] [ρ,τ,σ,υ] [] (fun r H'=>(validT qs cs bs hs d = false ∧ r = .tuple #[.pointer none,.bool false] ∧ H' = []) ∨ (validT qs cs bs hs d = true ∧ ∃ bw bm u χ M,r = .tuple #[.pointer (some ⟨bw,0,none⟩),.bool true] ∧ H' = [sng bw (.cells #[.slice pq qs.length kq,.slice pc cs.length kc,.slice pb bs.length kb,.slice ph hs.length kh,int d.s,int d.d,int d.v,int d.r,int d.e,u,.map (some bm)] 134 (0,0)),sng bm (mapS M),χ] ∧ OwnS 130 2 u (placesA d qs.length).length ((placesA d qs.length).flatMap encS) χ ∧ NumAt d qs.length d.r M)):=by
 have hval:=exValid_spec hT d
 have hone:∀ z n (xs:List Value) (χ:PH),OwnS 130 2 z n xs χ → z.oneCell' = true:=fun z n xs χ h=>by obtain ⟨_,_,rfl⟩:=h.form; rfl
 refine spec_in (cap:=[]) Tryz.func61 rfl rfl Tryz.ntmps61 rfl envZ (fun N β=>?_)
 refine AD ?_;refine AA ?_;refine BI (BK rfl) rfl rfl rfl ?_;rintro _ _ ⟨b1,rfl,rfl⟩;refine AS (ρ:=sng b1 _) takeZ ?_
 have ct:RdN (sng b1 (.cells #[.slice pq qs.length kq,.slice pc cs.length kc,.slice pb bs.length kb,.slice ph hs.length kh] 29 (0,0))) b1 0 [.slice pq qs.length kq,.slice pc cs.length kc,.slice pb bs.length kb,.slice ph hs.length kh]:=rdN_sng (vs:=[.slice pq qs.length kq,.slice pc cs.length kc,.slice pb bs.length kb,.slice ph hs.length kh])
 have ct0:rdc (sng b1 (.cells #[.slice pq qs.length kq,.slice pc cs.length kc,.slice pb bs.length kb,.slice ph hs.length kh] 29 (0,0))) b1 0 = some (.slice pq qs.length kq):=by rw [rdc_sng]; rfl
 have ct1:rdc (sng b1 (.cells #[.slice pq qs.length kq,.slice pc cs.length kc,.slice pb bs.length kb,.slice ph hs.length kh] 29 (0,0))) b1 1 = some (.slice pc cs.length kc):=by rw [rdc_sng]; rfl
 have ct2:rdc (sng b1 (.cells #[.slice pq qs.length kq,.slice pc cs.length kc,.slice pb bs.length kb,.slice ph hs.length kh] 29 (0,0))) b1 2 = some (.slice pb bs.length kb):=by rw [rdc_sng]; rfl
 have ct3:rdc (sng b1 (.cells #[.slice pq qs.length kq,.slice pc cs.length kc,.slice pb bs.length kb,.slice ph hs.length kh] 29 (0,0))) b1 3 = some (.slice ph hs.length kh):=by rw [rdc_sng]; rfl
 have ctp:RdP (sng b1 (.cells #[.slice pq qs.length kq,.slice pc cs.length kc,.slice pb bs.length kb,.slice ph hs.length kh] 29 (0,0))) b1 0 [.slice pq qs.length kq,.slice pc cs.length kc]:=rdP_sng (xs:=[.slice pq qs.length kq,.slice pc cs.length kc,.slice pb bs.length kb,.slice ph hs.length kh]) rfl
 refine BI (BK rfl) rfl rfl rfl ?_;rintro _ _ ⟨b2,rfl,rfl⟩;refine AS (ρ:=sng b2 _) takeZ ?_
 have cd:RdN (sng b2 (.cells #[int d.s,int d.d,int d.v,int d.r,int d.e] 31 (0,0))) b2 0 [int d.s,int d.d,int d.v,int d.r,int d.e]:=rdN_sng (vs:=[int d.s,int d.d,int d.v,int d.r,int d.e])
 have cd0:rdc (sng b2 (.cells #[int d.s,int d.d,int d.v,int d.r,int d.e] 31 (0,0))) b2 0 = some (int d.s):=by rw [rdc_sng]; rfl
 have cd1:rdc (sng b2 (.cells #[int d.s,int d.d,int d.v,int d.r,int d.e] 31 (0,0))) b2 1 = some (int d.d):=by rw [rdc_sng]; rfl
 have cd2:rdc (sng b2 (.cells #[int d.s,int d.d,int d.v,int d.r,int d.e] 31 (0,0))) b2 2 = some (int d.v):=by rw [rdc_sng]; rfl
 have cd3:rdc (sng b2 (.cells #[int d.s,int d.d,int d.v,int d.r,int d.e] 31 (0,0))) b2 3 = some (int d.r):=by rw [rdc_sng]; rfl
 have cd4:rdc (sng b2 (.cells #[int d.s,int d.d,int d.v,int d.r,int d.e] 31 (0,0))) b2 4 = some (int d.e):=by rw [rdc_sng]; rfl
 refine AC ?_;refine AC ?_;refine AE ?_;refine AD ?_;refine AD ?_;refine AA ?_;refine AT ?_;refine AT ?_;refine A4 hval rfl rfl rdZ rfl rfl ?_;rintro _ rfl
 cases hv:validT qs cs bs hs d with
 | false =>
  refine BJ ?_;refine AE ?_;refine AO rfl ?_;refine AD ?_;refine AA ?_;refine AC ?_;refine AC ?_;refine AE ?_;exact AI (res2 rfl rfl rfl) rsubZ selZ (.inl ⟨rfl,rfl,rfl⟩)
 | true =>
 have h:=vok hv
 have hdm:=h.dm
 unfold okDm at hdm
 have hnq:=h.nq
 refine BV ?_;refine BJ ?_;refine AE ?_;refine AN rfl ?_;refine AK ?_;refine AD ?_;refine AA ?_;refine AT ?_;refine AT ?_
 focus ((refine' BI _ rfl rfl rfl _; rotate_left; (exact FL); rintro _ _ ⟨b,rfl,rfl⟩))
 revert b; intro bm
 refine CR (C9 (out:=[.slice pq qs.length kq,.slice pc cs.length kc,.slice pb bs.length kb,.slice ph hs.length kh,int d.s,int d.d,int d.v,int d.r,int d.e,.slice none 0 0,.map (some bm)]) rfl rfl rfl rfl rfl) rfl rfl rfl ?_;refine CI ?_; rintro _ _ ⟨b,rfl,rfl⟩;refine AC ?_;refine AE ?_;refine AD ?_;refine AD ?_;refine AA ?_;refine AG ?_;refine AG ?_;refine AF ?_;refine AV ?_;refine AB ?_;refine AE ?_;refine AP ?_
 revert b; intro bw
 refine BB [2,3,6,22] (X:=Nat × Value × PH × List (List Int × Value)) (0,.slice none 0 0,emp,[]) (fun x=>x.1 ≤ qs.length ∧ OwnS 130 2 x.2.1 (placesA d x.1).length ((placesA d x.1).flatMap encS) x.2.2.1 ∧ NumAt d x.1 d.r x.2.2.2) (fun x=>[(23,int x.1)]) (fun x=>[sng bw (.cells #[.slice pq qs.length kq,.slice pc cs.length kc,.slice pb bs.length kb,.slice ph hs.length kh,int d.s,int d.d,int d.v,int d.r,int d.e,x.2.1,.map (some bm)] 134 (0,0)),sng bm (mapS x.2.2.2),x.2.2.1]) (fun x=>qs.length - x.1) pickZ ⟨by dsimp only; omega,OwnS.nil _ _,NumAt.nil d⟩ covZ selZ ?_
 rintro ⟨k,u,χ,M⟩ ⟨hk,hO,hM⟩
 dsimp only at hk hO hM ⊢
 by_cases hlt:k < qs.length
 rotate_left
 ·have hke:k = qs.length:=by omega
  subst hke;refine AD ?_;refine AA ?_;refine AY ?_;refine AE ?_;refine AD ?_;refine AN rfl ?_;refine A5 rfl ?_;refine AD ?_;refine AA ?_;refine AB ?_;refine AC ?_;refine AC ?_;refine AE ?_;exact AI (res2 rfl rfl rfl) rsubZ selZ (.inr ⟨rfl,bw,bm,u,χ,M,rfl,rfl,hO,hM⟩)
 refine AD ?_;refine AA ?_;refine BD ?_;refine AE ?_;refine AD ?_;refine AO rfl ?_;refine AK ?_;refine AD ?_;refine AP ?_;refine AD ?_;refine AA ?_;refine AB ?_;refine AC ?_;refine AE ?_;refine AD ?_;refine AA ?_;refine AG ?_;refine AF ?_;refine AC ?_;refine AE ?_;refine AP ?_
 refine BB [2,3,6,7,22,23] (X:=Int × Value × PH × List (List Int × Value)) (d.r,u,χ,M) (fun x=>d.r ≤ x.1 ∧ x.1 ≤ d.e + 1 ∧ OwnS 130 2 x.2.1 (placesA d k ++ placesN d k x.1).length ((placesA d k ++ placesN d k x.1).flatMap encS) x.2.2.1 ∧ NumAt d k x.1 x.2.2.2) (fun x=>[(8,int x.1)]) (fun x=>[sng bw (.cells #[.slice pq qs.length kq,.slice pc cs.length kc,.slice pb bs.length kb,.slice ph hs.length kh,int d.s,int d.d,int d.v,int d.r,int d.e,x.2.1,.map (some bm)] 134 (0,0)),sng bm (mapS x.2.2.2),x.2.2.1]) (fun x=>(d.e + 1 - x.1).toNat) pickZ ⟨by dsimp only; omega,by dsimp only; omega,by dsimp only; rw [placesN_nil,List.append_nil]; exact hO,hM⟩ covZ selZ ?_
 rintro ⟨t,u2,χ2,M2⟩ ⟨ht1,ht2,hO2,hM2⟩
 dsimp only at ht1 ht2 hO2 hM2 ⊢
 by_cases hte:t ≤ d.e
 rotate_left
 ·have hte2:t = d.e + 1:=by omega
  subst hte2;refine AD ?_;refine AD ?_;refine AA ?_;refine AB ?_;refine AG ?_;refine AF ?_;refine CU ?_;refine AE ?_;refine AN rfl ?_;refine A5 rfl ?_;refine AZ ?_;refine AA ?_;refine A7 ?_;refine AB ?_;refine AE ?_
  exact AU (k + 1,u2,χ2,M2) ⟨by dsimp only; omega,hO2,by dsimp only; exact hM2.row (by omega)⟩ (by dsimp only; omega) covZ selZ
 have hlen:=places_at (d:=d) (by omega) (k:=k) ht1
 have hvt:=vtx_lt (d:=d) (n:=k) (t:=t) (N:=16) (by omega) (by omega) ht1 hte
 have hvb:vtx d k t < 1616:=by
  have hw:=h.wd
  have:=Int.mul_le_mul_of_nonneg_left hw.2 (show (0:Int) ≤ ((16:Nat):Int) by omega)
  omega
 have hsn:=placesN_snoc (k:=k) ht1
 have hadd:=hM2.add (by omega) ht1 hte
 have hMl:=hM2.1
 obtain ⟨pu,ku,rfl⟩:=hO2.form
 have hflat:(placesA d k ++ placesN d k (t + 1)) = (placesA d k ++ placesN d k t) ++ [((k:Int),t)]:=by rw [hsn,List.append_assoc]
 generalize placesA d k ++ placesN d k t = P at hlen hO2 hflat
 refine AD ?_;refine AD ?_;refine AA ?_;refine AB ?_;refine AG ?_;refine AF ?_;refine CT ?_;refine AE ?_;refine AO rfl ?_;refine AK ?_;refine AD ?_;refine AP ?_;refine AD ?_;refine AA ?_;refine AB ?_;refine AB ?_;refine BT ?_;refine A2 ?_; rintro _ _ ⟨b,rfl,rfl⟩;refine AX ?_; rintro _ _ ⟨rfl,rfl⟩;refine AE ?_;refine AD ?_
 revert b; intro b9
 refine A6 (.q 0 (.q 1 (.q 2 (.q 3 (.q 4 (.q 5 (.q 6 (.q 7 (.q 8 (.q 9 (.l 10 .b .nil))))))))))) [] rfl (by kernel_rfl) Sel.nil ?_
 refine AJ ?_;refine BA ?_;refine A0 ?_;refine AR ?_;refine BL ?_;refine AJ ?_;refine BA ?_;refine A0 ?_;refine AR ?_;refine DA ?_;rw [hlen];refine CL ?_
 refine' FJ rfl (E1 2 [(k:Int),t] (v:=int (vtx d k t)) (l:=M2) rfl rfl rfl rfl ⟨by kernel_rfl,by kernel_rfl⟩ rfl hMl takeZ) rfl rfl _ _
 ·rintro _ _ ⟨_,rfl⟩ w hw; exact hw.sel Sel.nil
 rintro _ _ ⟨rfl,rfl⟩;refine A8 ?_
 skip
 refine A6 (.p 0 (.q 1 (.q 2 (.q 3 (.q 4 (.q 5 (.l 6 .e (.l 7 .b (.q 8 (.q 9 (.l 10 .b .nil))))))))))) [] rfl (by kernel_rfl) Sel.nil ?_
 refine DG ?_;refine AJ ?_;refine BA ?_;refine A0 ?_;refine AR ?_;refine BL ?_;refine BN ?_; rintro _ _ ⟨b,rfl,rfl⟩
 refine CL (a_b rfl (BP (by_:=16) (s:=2) (news:=[int (k:Int),int t]) rfl rfl rfl rfl rfl rfl rfl hO2 takeZ (cells_own memZ) rfl (by (repeat (first | exact (fun v hv=>absurd hv List.not_mem_nil) | (refine List.forall_mem_cons.2 ⟨?_,?_⟩; (focus (first | exact rfl | assumption))))); first | done | fail) (by omega) (by simp only [maxLen]; omega) (by omega)) rfl rfl rfl (fun _ _ _ w hw=>hw.sel Sel.nil) ?_)
 rintro u3 _ ⟨χ3,hO3,rfl⟩
 have hu3:=hone _ _ _ _ hO3
 refine BA ?_;refine A0 ?_;refine DL ?_; rintro _ _ ⟨rfl,rfl⟩;refine A8 ?_;refine AZ ?_;refine AA ?_;refine AB ?_;refine CC ?_;refine AC ?_;refine AE ?_
 refine AU (t + 1,u3,χ3,_) ⟨by dsimp only; omega,by dsimp only; omega,?_,hadd⟩ (by dsimp only; omega) covZ selZ
 dsimp only
 rw [hflat,List.length_append,List.flatMap_append];exact hO3
end Go.Proofs.YtphehihohghfoaaGreat
/- Inside a region that draws its order: the chunks in another order. No conditions. -/
namespace Go.Eng
variable {C:Cx} {D:List Deferred} {R H Hf:List PH} {L:Env} {K:List It} {ps ls:List Nat}
theorem Quiet.perm {H':List PH} {o:Oper} {v:Value} (hp:H'.Perm H) (h:Quiet C R H L o v):Quiet C R H' L o v:=⟨h.1,fun a w hx hs=>h.2 a w hx (hs.perm hp)⟩
theorem EO {H':List PH} {all:Array Oper} {done:List Nat} {plan:Pl} (hp:H.Perm H') (h:DJ C D R Hf H' L all done ps ls plan K):DJ C D R Hf H L all done ps ls plan K:=by
  refine ⟨fun hpl fuel listed a w hinv=>h.run hpl fuel listed a w ⟨hinv.size,hinv.dc,hinv.sub,hinv.fuel,hinv.tm,hinv.df,hinv.sat.perm hp,hinv.get,fun i hi hn=>?_,fun w hw=>hinv.hf w (hw.perm hp.symm),hinv.lds,hinv.data,hinv.uniq,hinv.chron⟩⟩
  obtain ⟨o,d,v,h1,h2,h3,h4,h5⟩:=hinv.prom i hi hn
  refine ⟨o,d,v,h1,h2,h3,h4,?_⟩
  rcases h5 with ⟨k1,k2⟩ | k
  · refine .inl ⟨k1,?_⟩
    split at k2
    · rename_i c; rw [if_pos c]; exact k2
    · rename_i c; rw [if_neg c]; exact k2.perm hp.symm
  · exact .inr k
end Go.Eng
/- Room, and the ticks of contacts. -/
namespace Go.Proofs.YtphehihohghfoaaGreat
open Go.Eng Go.Step
set_option maxRecDepth 100000
set_option maxHeartbeats 4000000

set_option maxHeartbeats 16000000 in
theorem exRoom_spec {ρ τ σ υ:PH} {pq pc pb ph:Option Addr} {kq kc kb kh:Nat} {qs:List Int} {cs:List Ct} {bs:List Bk} {hs:List Hd} (hT:TbAt ρ τ σ υ pq pc pb ph kq kc kb kh qs cs bs hs) (bw bm:Nat) (u:Value) (d:Dm) (h:VOk qs cs bs hs d) (nn:Nat) (t:Int) (hnl:nn < qs.length) :
  Ans Tryz.prog (fv 103) [.pointer (some ⟨bw,0,none⟩),.agg #[int (nn:Int),int t]] [sng bw (.cells #[.slice pq qs.length kq,.slice pc cs.length kc,.slice pb bs.length kb,.slice ph hs.length kh,int d.s,int d.d,int d.v,int d.r,int d.e,u,.map (some bm)] 134 (0,0)),ρ,τ,σ,υ] (fun r=>r = int (roomT qs hs d nn t)):=by
 have hr:=hT.rh
 have hQ:=List.getElem?_eq_getElem hnl
 have hQb:=h.quo _ _ hQ
 have hok:=h.hd
 have hl:=h.nh
 have hR:roomT qs hs d nn t = if (nn:Int) = d.s ∨ (nn:Int) = d.d then 1099511627776 else qs[nn] - Step.stored hs nn t:=by
  unfold roomT;rw [Int.toNat_natCast,List.getD_eq_getElem?_getD,hQ,Option.getD_some]
 rw [hR]
 generalize qs[nn] = Q at hQ hQb
 have w0:rdc (sng bw (.cells #[.slice pq qs.length kq,.slice pc cs.length kc,.slice pb bs.length kb,.slice ph hs.length kh,int d.s,int d.d,int d.v,int d.r,int d.e,u,.map (some bm)] 134 (0,0))) bw 0 = some (.slice pq qs.length kq):=by rw [rdc_sng]; rfl
 have w1:rdc (sng bw (.cells #[.slice pq qs.length kq,.slice pc cs.length kc,.slice pb bs.length kb,.slice ph hs.length kh,int d.s,int d.d,int d.v,int d.r,int d.e,u,.map (some bm)] 134 (0,0))) bw 1 = some (.slice pc cs.length kc):=by rw [rdc_sng]; rfl
 have w2:rdc (sng bw (.cells #[.slice pq qs.length kq,.slice pc cs.length kc,.slice pb bs.length kb,.slice ph hs.length kh,int d.s,int d.d,int d.v,int d.r,int d.e,u,.map (some bm)] 134 (0,0))) bw 2 = some (.slice pb bs.length kb):=by rw [rdc_sng]; rfl
 have w3:rdc (sng bw (.cells #[.slice pq qs.length kq,.slice pc cs.length kc,.slice pb bs.length kb,.slice ph hs.length kh,int d.s,int d.d,int d.v,int d.r,int d.e,u,.map (some bm)] 134 (0,0))) bw 3 = some (.slice ph hs.length kh):=by rw [rdc_sng]; rfl
 have w4:rdc (sng bw (.cells #[.slice pq qs.length kq,.slice pc cs.length kc,.slice pb bs.length kb,.slice ph hs.length kh,int d.s,int d.d,int d.v,int d.r,int d.e,u,.map (some bm)] 134 (0,0))) bw 4 = some (int d.s):=by rw [rdc_sng]; rfl
 have w5:rdc (sng bw (.cells #[.slice pq qs.length kq,.slice pc cs.length kc,.slice pb bs.length kb,.slice ph hs.length kh,int d.s,int d.d,int d.v,int d.r,int d.e,u,.map (some bm)] 134 (0,0))) bw 5 = some (int d.d):=by rw [rdc_sng]; rfl
 have w6:rdc (sng bw (.cells #[.slice pq qs.length kq,.slice pc cs.length kc,.slice pb bs.length kb,.slice ph hs.length kh,int d.s,int d.d,int d.v,int d.r,int d.e,u,.map (some bm)] 134 (0,0))) bw 6 = some (int d.v):=by rw [rdc_sng]; rfl
 have w7:rdc (sng bw (.cells #[.slice pq qs.length kq,.slice pc cs.length kc,.slice pb bs.length kb,.slice ph hs.length kh,int d.s,int d.d,int d.v,int d.r,int d.e,u,.map (some bm)] 134 (0,0))) bw 7 = some (int d.r):=by rw [rdc_sng]; rfl
 have w8:rdc (sng bw (.cells #[.slice pq qs.length kq,.slice pc cs.length kc,.slice pb bs.length kb,.slice ph hs.length kh,int d.s,int d.d,int d.v,int d.r,int d.e,u,.map (some bm)] 134 (0,0))) bw 8 = some (int d.e):=by rw [rdc_sng]; rfl
 have w9:rdc (sng bw (.cells #[.slice pq qs.length kq,.slice pc cs.length kc,.slice pb bs.length kb,.slice ph hs.length kh,int d.s,int d.d,int d.v,int d.r,int d.e,u,.map (some bm)] 134 (0,0))) bw 9 = some (u):=by rw [rdc_sng]; rfl
 have w10:rdc (sng bw (.cells #[.slice pq qs.length kq,.slice pc cs.length kc,.slice pb bs.length kb,.slice ph hs.length kh,int d.s,int d.d,int d.v,int d.r,int d.e,u,.map (some bm)] 134 (0,0))) bw 10 = some (.map (some bm)):=by rw [rdc_sng]; rfl
 refine spec_in (cap:=[]) Tryz.func103 rfl rfl Tryz.ntmps103 rfl envZ (fun N β=>?_)
 refine AD ?_;refine AA ?_;refine BI (BK rfl) rfl rfl rfl ?_;rintro _ _ ⟨b3,rfl,rfl⟩;refine AS (ρ:=sng b3 _) takeZ ?_
 have cp:RdN (sng b3 (.cells #[int (nn:Int),int t] 130 (0,0))) b3 0 [int (nn:Int),int t]:=rdN_sng (vs:=[int (nn:Int),int t])
 have cp0:rdc (sng b3 (.cells #[int (nn:Int),int t] 130 (0,0))) b3 0 = some (int (nn:Int)):=by rw [rdc_sng]; rfl
 have cp1:rdc (sng b3 (.cells #[int (nn:Int),int t] 130 (0,0))) b3 1 = some (int t):=by rw [rdc_sng]; rfl
 by_cases s1:(nn:Int) = d.s
 ·rw [if_pos (.inl s1)]
  refine AC ?_;refine AE ?_;refine AD ?_;refine AD ?_
  refine A6 (.q 0 (.q 1 (.q 2 (.q 3 (.q 4 (.q 5 (.q 6 (.q 7 (.q 8 (.q 9 (.q 10 (.q 11 (.q 12 (.q 13 (.q 14 (.q 15 (.q 16 (.q 17 .nil)))))))))))))))))) [] rfl (by kernel_rfl) Sel.nil ?_
  refine A0 ?_;refine AR ?_;refine AJ ?_;refine BA ?_;refine A0 ?_;refine BY ?_;refine AR ?_;refine EW ?_;refine AJ ?_;refine AW rfl rfl rfl rfl rfl ?_;refine AW rfl rfl rfl rfl rfl ?_;refine AW rfl rfl rfl rfl rfl ?_;refine AW rfl rfl rfl rfl rfl ?_;refine AW rfl rfl rfl rfl rfl ?_;refine AW rfl rfl rfl rfl rfl ?_;refine AW rfl rfl rfl rfl rfl ?_;refine AW rfl rfl rfl rfl rfl ?_;refine BR ?_;refine A8 ?_;refine AO rfl ?_;refine AD ?_;refine AA ?_;refine AC ?_;refine AE ?_;exact AI (res1 rfl rfl) rsubZ selZ ⟨rfl,rfl⟩
 by_cases s2:(nn:Int) = d.d
 ·rw [if_pos (.inr s2)]
  refine AC ?_;refine AE ?_;refine AD ?_;refine AD ?_
  refine A6 (.q 0 (.q 1 (.q 2 (.q 3 (.q 4 (.q 5 (.q 6 (.q 7 (.q 8 (.q 9 (.q 10 (.q 11 (.q 12 (.q 13 (.q 14 (.q 15 (.q 16 (.q 17 .nil)))))))))))))))))) [] rfl (by kernel_rfl) Sel.nil ?_
  refine A0 ?_;refine AR ?_;refine AJ ?_;refine BA ?_;refine A0 ?_;refine BY ?_;refine AR ?_;refine DM ?_;refine AJ ?_;refine A0 ?_;refine AR ?_;refine AJ ?_;refine BA ?_;refine A0 ?_;refine BX ?_;refine AR ?_;refine EW ?_;refine BU ?_;refine A8 ?_;refine AO rfl ?_;refine AD ?_;refine AA ?_;refine AC ?_;refine AE ?_;exact AI (res1 rfl rfl) rsubZ selZ ⟨rfl,rfl⟩
 rw [if_neg (by omega)]
 obtain ⟨bq,oq,rfl,gq⟩:=hT.rq.int hQ
 refine AC ?_;refine AE ?_;refine AD ?_;refine AD ?_
 refine A6 (.q 0 (.q 1 (.q 2 (.q 3 (.q 4 (.q 5 (.q 6 (.q 7 (.q 8 (.q 9 (.q 10 (.q 11 (.q 12 (.q 13 (.q 14 (.q 15 (.q 16 (.q 17 .nil)))))))))))))))))) [] rfl (by kernel_rfl) Sel.nil ?_
 refine A0 ?_;refine AR ?_;refine AJ ?_;refine BA ?_;refine A0 ?_;refine BY ?_;refine AR ?_;refine DM ?_;refine AJ ?_;refine A0 ?_;refine AR ?_;refine AJ ?_;refine BA ?_;refine A0 ?_;refine BX ?_;refine AR ?_;refine DM ?_;refine BU ?_;refine A8 ?_;refine AN rfl ?_;refine AK ?_;refine AD ?_
 refine A6 (.q 0 (.q 1 (.q 2 (.q 3 (.q 4 (.q 5 (.q 6 (.q 7 (.q 8 (.q 9 (.q 10 .nil))))))))))) [] rfl (by kernel_rfl) Sel.nil ?_
 refine AJ ?_;refine BA ?_;refine A0 ?_;refine A0 ?_;refine A0 ?_;refine AR ?_;refine A0 ?_;refine AR ?_;refine CE ?_;refine AR ?_;refine BW ?_;refine A8 ?_;refine AD ?_;refine AD ?_;refine AA ?_;refine AB ?_;refine BZ ?_;refine AG ?_;refine AG ?_;refine AF ?_;refine AV ?_;refine AB ?_;refine AE ?_;refine AP ?_
 refine BB [0,3,40,41] (0:Nat) (fun k=>k ≤ hs.length) (fun k=>[(42,int k),(5,int (Q - Step.stored (hs.take k) nn t))]) (fun _=>[]) (fun k=>hs.length - k) pickZ (by omega) ?_ selZ ?_
 ·rw [List.take_zero]
  simp only [Step.stored,Int.sub_zero];exact covZ
 intro k hk
 by_cases hlt:k < hs.length
 ·have hx:=List.getElem?_eq_getElem hlt
  have hh:=(hok _ (List.getElem_mem hlt)).2.2.1
  obtain ⟨b7,o7,rfl,hrd,g0,g1,g2,g3,_⟩:=hdRow5 hr hx
  have hm:=stored_snoc nn t hs[k] (hs.take k)
  rw [← List.take_succ_eq_append_getElem hlt] at hm
  have hb:=stored_bd (n:=nn) (t:=t) (l:=hs.take k) (fun h hm=>hok h (List.mem_of_mem_take hm))
  rw [List.length_take,Nat.min_eq_left hk] at hb
  generalize hs[k] = x at hrd g0 g1 g2 g3 hm hh
  generalize Step.stored (hs.take k) nn t = s at hm hb
  by_cases c1:x.n = nn
  ·by_cases c2:x.a ≤ t
   ·by_cases c3:t < x.b
    ·rw [if_pos ⟨c1,c2,c3⟩] at hm
     refine AD ?_;refine AA ?_;refine BD ?_;refine AE ?_;refine AD ?_;refine AO rfl ?_;refine AK ?_;refine AD ?_;refine AP ?_;refine AD ?_;refine AA ?_;refine A3 ?_;refine AT ?_;refine A2 ?_; rintro _ _ ⟨b,rfl,rfl⟩;refine AX ?_; rintro _ _ ⟨rfl,rfl⟩;refine AE ?_;refine AD ?_;refine AA ?_;refine AG ?_;refine AF ?_;refine AG ?_;refine AF ?_;refine CJ ?_;refine AB ?_;refine AG ?_;refine AF ?_;refine AG ?_;refine AF ?_;refine CT ?_;refine AQ ?_;refine AB ?_;refine AG ?_;refine AF ?_;refine AG ?_;refine AF ?_;refine BD ?_;refine AQ ?_;refine AE ?_;refine AO rfl ?_;refine AA ?_;refine AB ?_;refine AG ?_;refine AF ?_;refine CY ?_;refine AC ?_;refine AE ?_;refine AZ ?_;refine AA ?_;refine A7 ?_;refine AB ?_;refine AE ?_
     refine AU (k + 1) (by omega) (by omega) ?_ selZ
     rw [hm,show Q - (s + x.s) = Q - s - x.s by omega]
     exact covZ
    ·rw [if_neg (by omega),Int.add_zero] at hm
     refine AD ?_;refine AA ?_;refine BD ?_;refine AE ?_;refine AD ?_;refine AO rfl ?_;refine AK ?_;refine AD ?_;refine AP ?_;refine AD ?_;refine AA ?_;refine A3 ?_;refine AT ?_;refine A2 ?_; rintro _ _ ⟨b,rfl,rfl⟩;refine AX ?_; rintro _ _ ⟨rfl,rfl⟩;refine AE ?_;refine AD ?_;refine AA ?_;refine AG ?_;refine AF ?_;refine AG ?_;refine AF ?_;refine CJ ?_;refine AB ?_;refine AG ?_;refine AF ?_;refine AG ?_;refine AF ?_;refine CT ?_;refine AQ ?_;refine AB ?_;refine AG ?_;refine AF ?_;refine AG ?_;refine AF ?_;refine AY ?_;refine AQ ?_;refine AE ?_;refine AN rfl ?_;refine AK ?_;refine AZ ?_;refine AA ?_;refine A7 ?_;refine AB ?_;refine AE ?_
     refine AU (k + 1) (by omega) (by omega) ?_ selZ
     rw [hm];exact covZ
   ·rw [if_neg (by omega),Int.add_zero] at hm
    refine AD ?_;refine AA ?_;refine BD ?_;refine AE ?_;refine AD ?_;refine AO rfl ?_;refine AK ?_;refine AD ?_;refine AP ?_;refine AD ?_;refine AA ?_;refine A3 ?_;refine AT ?_;refine A2 ?_; rintro _ _ ⟨b,rfl,rfl⟩;refine AX ?_; rintro _ _ ⟨rfl,rfl⟩;refine AE ?_;refine AD ?_;refine AA ?_;refine AG ?_;refine AF ?_;refine AG ?_;refine AF ?_;refine CJ ?_;refine AB ?_;refine AG ?_;refine AF ?_;refine AG ?_;refine AF ?_;refine CU ?_;refine AQ ?_;refine AB ?_;refine AH rfl rfl rfl ?_;refine AH rfl rfl rfl ?_;refine AH rfl rfl rfl ?_;refine AH rfl rfl rfl ?_;refine AH rfl rfl rfl ?_;refine AL ?_;refine AE ?_;refine AN rfl ?_;refine AK ?_;refine AZ ?_;refine AA ?_;refine A7 ?_;refine AB ?_;refine AE ?_
    refine AU (k + 1) (by omega) (by omega) ?_ selZ
    rw [hm];exact covZ
  ·rw [if_neg (by omega),Int.add_zero] at hm
   refine AD ?_;refine AA ?_;refine BD ?_;refine AE ?_;refine AD ?_;refine AO rfl ?_;refine AK ?_;refine AD ?_;refine AP ?_;refine AD ?_;refine AA ?_;refine A3 ?_;refine AT ?_;refine A2 ?_; rintro _ _ ⟨b,rfl,rfl⟩;refine AX ?_; rintro _ _ ⟨rfl,rfl⟩;refine AE ?_;refine AD ?_;refine AA ?_;refine AG ?_;refine AF ?_;refine AG ?_;refine AF ?_;refine B8 ?_;refine AB ?_;refine AH rfl rfl rfl ?_;refine AH rfl rfl rfl ?_;refine AH rfl rfl rfl ?_;refine AH rfl rfl rfl ?_;refine AH rfl rfl rfl ?_;refine AL ?_;refine AB ?_;refine AH rfl rfl rfl ?_;refine AH rfl rfl rfl ?_;refine AH rfl rfl rfl ?_;refine AH rfl rfl rfl ?_;refine AH rfl rfl rfl ?_;refine AL ?_;refine AE ?_;refine AN rfl ?_;refine AK ?_;refine AZ ?_;refine AA ?_;refine A7 ?_;refine AB ?_;refine AE ?_
   refine AU (k + 1) (by omega) (by omega) ?_ selZ
   rw [hm];exact covZ
 ·have hke:k = hs.length:=by omega
  subst hke;rw [List.take_length];refine AD ?_;refine AA ?_;refine AY ?_;refine AE ?_;refine AD ?_;refine AN rfl ?_;refine A5 rfl ?_;refine AD ?_;refine AA ?_;refine AB ?_;refine AC ?_;refine AE ?_;exact AI (res1 rfl rfl) rsubZ selZ ⟨rfl,rfl⟩
theorem ticks_spec (bw:Nat) (i:Nat) :
  Eng.Spec Tryz.prog (fv 104) [.pointer (some ⟨bw,0,none⟩),int (i:Int)] [] [] (fun r H'=>∃ c1 c2,r = .func (.func 135) #[] #[.pointer (some ⟨c1,0,none⟩),.pointer (some ⟨c2,0,none⟩)] ∧ H' = [sng c2 (.cells #[int (i:Int)] 3 (0,0)),sng c1 (.cells #[.pointer (some ⟨bw,0,none⟩)] 125 (0,0))]):=by
 refine spec_in (cap:=[]) Tryz.func104 rfl rfl Tryz.ntmps104 rfl envZ (fun N β=>?_)
 refine AD ?_;refine AA ?_;refine BI (DE rfl rfl) rfl rfl rfl ?_;rintro _ _ ⟨c1,rfl,rfl⟩;refine BI (DE rfl rfl) rfl rfl rfl ?_;rintro _ _ ⟨c2,rfl,rfl⟩;refine AC ?_;refine AE ?_;refine AD ?_;refine AA ?_;refine CF ?_;refine AC ?_;refine AE ?_;exact AI (res1 rfl rfl) rsubZ selZ ⟨c1,c2,rfl,rfl⟩
set_option maxHeartbeats 32000000 in
theorem ticks_iter {ρ τ σ υ:PH} {pq pc pb ph:Option Addr} {kq kc kb kh:Nat} {qs:List Int} {cs:List Ct} {bs:List Bk} {hs:List Hd} (hT:TbAt ρ τ σ υ pq pc pb ph kq kc kb kh qs cs bs hs) (bw bm c1 c2:Nat) (u:Value) (d:Dm) (h:VOk qs cs bs hs d) (h0:chkB qs cs bs = 0) (i:Nat) (x:Ct) (hx:cs[i]? = some x) :
  Iter Tryz.prog (.func (.func 135) #[] #[.pointer (some ⟨c1,0,none⟩),.pointer (some ⟨c2,0,none⟩)]) [sng c1 (.cells #[.pointer (some ⟨bw,0,none⟩)] 125 (0,0)),sng c2 (.cells #[int (i:Int)] 3 (0,0)),sng bw (.cells #[.slice pq qs.length kq,.slice pc cs.length kc,.slice pb bs.length kb,.slice ph hs.length kh,int d.s,int d.d,int d.v,int d.r,int d.e,u,.map (some bm)] 134 (0,0)),ρ,τ,σ,υ] ((tickL d.r d.e x.g (freeC cs bs i)).map Eng.encI):=by
 intro y S Own Inv Stop Ry hy hyl σ0 hI0
 obtain ⟨yl,rfl⟩:=hyl
 have hi:=(List.getElem?_eq_some_iff.1 hx).1
 have hdm:=h.dm
 unfold okDm at hdm
 have hct:=h.ct x (List.mem_of_getElem? hx)
 have hfree:=bkFree_spec hT i x hx h0
 have hfl:(freeC cs bs i).length ≤ 600:=by
  have hf:freeC cs bs i = gapsP x.e x.s (busyL bs i):=by unfold freeC; rw [hx]
  have h1:=gapsP_len x.e (busyL bs i) x.s
  have h2:=busyL_len bs i
  have h3:=h.nb
  rw [hf];omega
 have hfin:=(h.free hx).2.1
 obtain ⟨bq,oq,e4,hrd⟩:=ctRow hT.rc hx
 have w0:rdc (sng bw (.cells #[.slice pq qs.length kq,.slice pc cs.length kc,.slice pb bs.length kb,.slice ph hs.length kh,int d.s,int d.d,int d.v,int d.r,int d.e,u,.map (some bm)] 134 (0,0))) bw 0 = some (.slice pq qs.length kq):=by rw [rdc_sng]; rfl
 have w1:rdc (sng bw (.cells #[.slice pq qs.length kq,.slice pc cs.length kc,.slice pb bs.length kb,.slice ph hs.length kh,int d.s,int d.d,int d.v,int d.r,int d.e,u,.map (some bm)] 134 (0,0))) bw 1 = some (.slice pc cs.length kc):=by rw [rdc_sng]; rfl
 have w2:rdc (sng bw (.cells #[.slice pq qs.length kq,.slice pc cs.length kc,.slice pb bs.length kb,.slice ph hs.length kh,int d.s,int d.d,int d.v,int d.r,int d.e,u,.map (some bm)] 134 (0,0))) bw 2 = some (.slice pb bs.length kb):=by rw [rdc_sng]; rfl
 have w3:rdc (sng bw (.cells #[.slice pq qs.length kq,.slice pc cs.length kc,.slice pb bs.length kb,.slice ph hs.length kh,int d.s,int d.d,int d.v,int d.r,int d.e,u,.map (some bm)] 134 (0,0))) bw 3 = some (.slice ph hs.length kh):=by rw [rdc_sng]; rfl
 have w4:rdc (sng bw (.cells #[.slice pq qs.length kq,.slice pc cs.length kc,.slice pb bs.length kb,.slice ph hs.length kh,int d.s,int d.d,int d.v,int d.r,int d.e,u,.map (some bm)] 134 (0,0))) bw 4 = some (int d.s):=by rw [rdc_sng]; rfl
 have w5:rdc (sng bw (.cells #[.slice pq qs.length kq,.slice pc cs.length kc,.slice pb bs.length kb,.slice ph hs.length kh,int d.s,int d.d,int d.v,int d.r,int d.e,u,.map (some bm)] 134 (0,0))) bw 5 = some (int d.d):=by rw [rdc_sng]; rfl
 have w6:rdc (sng bw (.cells #[.slice pq qs.length kq,.slice pc cs.length kc,.slice pb bs.length kb,.slice ph hs.length kh,int d.s,int d.d,int d.v,int d.r,int d.e,u,.map (some bm)] 134 (0,0))) bw 6 = some (int d.v):=by rw [rdc_sng]; rfl
 have w7:rdc (sng bw (.cells #[.slice pq qs.length kq,.slice pc cs.length kc,.slice pb bs.length kb,.slice ph hs.length kh,int d.s,int d.d,int d.v,int d.r,int d.e,u,.map (some bm)] 134 (0,0))) bw 7 = some (int d.r):=by rw [rdc_sng]; rfl
 have w8:rdc (sng bw (.cells #[.slice pq qs.length kq,.slice pc cs.length kc,.slice pb bs.length kb,.slice ph hs.length kh,int d.s,int d.d,int d.v,int d.r,int d.e,u,.map (some bm)] 134 (0,0))) bw 8 = some (int d.e):=by rw [rdc_sng]; rfl
 have w9:rdc (sng bw (.cells #[.slice pq qs.length kq,.slice pc cs.length kc,.slice pb bs.length kb,.slice ph hs.length kh,int d.s,int d.d,int d.v,int d.r,int d.e,u,.map (some bm)] 134 (0,0))) bw 9 = some (u):=by rw [rdc_sng]; rfl
 have w10:rdc (sng bw (.cells #[.slice pq qs.length kq,.slice pc cs.length kc,.slice pb bs.length kb,.slice ph hs.length kh,int d.s,int d.d,int d.v,int d.r,int d.e,u,.map (some bm)] 134 (0,0))) bw 10 = some (.map (some bm)):=by rw [rdc_sng]; rfl
 have wp:RdP (sng bw (.cells #[.slice pq qs.length kq,.slice pc cs.length kc,.slice pb bs.length kb,.slice ph hs.length kh,int d.s,int d.d,int d.v,int d.r,int d.e,u,.map (some bm)] 134 (0,0))) bw 0 [.slice pq qs.length kq,.slice pc cs.length kc]:=rdP_sng (xs:=[.slice pq qs.length kq,.slice pc cs.length kc,.slice pb bs.length kb,.slice ph hs.length kh,int d.s,int d.d,int d.v,int d.r,int d.e,u,.map (some bm)]) rfl
 have v1:rdc (sng c1 (.cells #[.pointer (some ⟨bw,0,none⟩)] 125 (0,0))) c1 0 = some (.pointer (some ⟨bw,0,none⟩)):=by rw [rdc_sng]; rfl
 have v2:rdc (sng c2 (.cells #[int (i:Int)] 3 (0,0))) c2 0 = some (int (i:Int)):=by rw [rdc_sng]; rfl
 subst e4;simp only [List.cons_append,List.nil_append]
 refine spec_in (cap:=[.pointer (some ⟨c1,0,none⟩),.pointer (some ⟨c2,0,none⟩)]) Tryz.func135 rfl rfl Tryz.ntmps135 rfl envZ (fun N β=>?_)
 refine AD ?_
 refine A6 (.q 0 (.q 1 (.q 2 (.q 3 (.q 4 (.q 5 (.q 6 (.q 7 (.q 8 (.l 9 .e (.l 10 .b .nil))))))))))) [] rfl (by kernel_rfl) Sel.nil ?_
 refine AR ?_;refine BA ?_;refine A0 ?_;refine A0 ?_;refine A0 ?_;refine AR ?_;refine AR ?_;refine BC ?_;refine BL ?_;refine DI ?_; rintro _ _ ⟨b,rfl,rfl⟩
 focus ((refine CL ?_; refine' FJ rfl _ rfl rfl _ _; rotate_left; (focus (apply DC; exact rfl; exact rfl; exact takeZ; exact (by (repeat (first | exact (fun v hv=>absurd hv List.not_mem_nil) | (refine List.forall_mem_cons.2 ⟨?_,?_⟩; (focus (first | exact rfl | assumption))))); first | done | fail); exact rfl; exact rfl)); (focus (rintro _ _ ⟨_,rfl⟩ w hw; exact hw.sel Sel.nil)); rintro _ _ ⟨rfl,rfl⟩))
 refine A8 ?_
 revert b; intro b4
 refine AD ?_;refine AS (ρ:=sng b4 _) takeZ ?_
 have g5:rdc (sng b4 (.cells #[int x.f,int x.t,int x.s,int x.e,int x.r,int x.g,int x.l] 57 (0,0))) b4 5 = some (int x.g):=by rw [rdc_sng]; rfl
 refine A6 (.q 0 (.q 1 (.q 2 (.q 3 (.q 4 (.q 5 (.q 6 (.q 7 (.q 8 (.q 9 (.q 10 (.l 11 .e (.q 12 (.q 13 (.q 14 (.q 15 (.q 16 .nil))))))))))))))))) [] rfl (by kernel_rfl) Sel.nil ?_
 refine AR ?_;refine BA ?_;refine A0 ?_;refine A0 ?_;refine BL ?_;refine AR ?_;refine BA ?_;refine A0 ?_;refine A0 ?_;refine AR ?_;refine AR ?_;refine CL (DW rfl hfree rfl rfl rdZ rfl rfl ?_);rintro _ _ ⟨χ,⟨uf,rfl,hO⟩,rfl⟩
 have hSf:=hO.at
 obtain ⟨pf,kf,rfl⟩:=hO.form
 obtain ⟨_,_,ef,hrf⟩:=SlE.val (enc:=encS) encS_len (show SlE encS 2 χ _ (freeC cs bs i) from hSf)
 simp only [Value.slice.injEq] at ef
 obtain ⟨rfl,_,rfl⟩:=ef
 refine AJ ?_;refine DY ?_;refine DY ?_;refine BW ?_;refine BW ?_;refine A8 ?_;refine AD ?_;refine AA ?_;refine AB ?_;refine AV ?_;refine AB ?_;refine AE ?_;refine AP ?_;refine AS (ρ:=χ) takeZ ?_
 generalize freeC cs bs i = F at hy hfl hfin hrf hO hSf
 refine BB [0,1,2,4,34,35] (X:=Nat × S) (0,σ0) (fun z=>z.1 ≤ F.length ∧ Inv (tickL d.r d.e x.g (F.take z.1)).length z.2) (fun z=>[(36,int z.1)]) (fun z=>Own z.2) (fun z=>F.length - z.1) pickZ ⟨by dsimp only; omega,hI0⟩ covZ Sel.refl ?_
 rintro ⟨k,σ'⟩ ⟨hk,hI⟩
 dsimp only at hk hI ⊢
 by_cases hlt:k < F.length
 rotate_left
 ·have hke:k = F.length:=by omega
  subst hke;rw [List.take_length] at hI;refine AD ?_;refine AA ?_;refine AY ?_;refine AE ?_;refine AD ?_;refine AN rfl ?_;refine A5 rfl ?_
  refine CO (res0 rfl) (fun _ h=>List.mem_cons_of_mem _ (List.mem_cons_of_mem _ h)) Sel.refl ⟨σ',rfl,.inl ?_⟩
  rw [List.length_map];exact hI
 have hz:=List.getElem?_eq_getElem hlt
 have hlen:=tickL_len d.r d.e x.g F hz
 have hat:=fun t h1 h2=>tickL_at d.r d.e x.g F hz (t:=t) h1 h2
 have hin:=hfin _ (List.getElem_mem hlt)
 obtain ⟨b6,o6,rfl,hRd6,y0,y1⟩:=spRow hrf hz
 generalize F[k] = z at hz hlen hat hin hRd6 y0 y1
 refine AD ?_;refine AA ?_;refine BD ?_;refine AE ?_;refine AD ?_;refine AO rfl ?_;refine AK ?_;refine AD ?_;refine AP ?_;refine AD ?_;refine AA ?_;refine A3 ?_;refine AT ?_;refine A2 ?_; rintro _ _ ⟨b,rfl,rfl⟩;refine AX ?_; rintro _ _ ⟨rfl,rfl⟩;refine AE ?_;refine AD ?_
 revert b; intro b8
 refine A6 (.q 0 (.q 1 (.q 2 (.q 3 (.q 4 (.q 5 (.q 6 (.q 7 (.q 8 .nil))))))))) [] rfl (by kernel_rfl) Sel.nil ?_
 refine A0 ?_;refine AR ?_;refine AR ?_;refine BA ?_;refine A0 ?_;refine BX ?_;refine AR ?_;refine GO ?_;refine BW ?_;refine A8 ?_;refine AP ?_
 refine BB [0,1,2,4,8,34,35,36] (X:=Int × S) (max z.1 d.r,σ') (fun w=>max z.1 d.r ≤ w.1 ∧ (w.1 ≤ min z.2 (d.e - x.g) ∨ w.1 = max z.1 d.r) ∧ Inv ((tickL d.r d.e x.g (F.take k)).length + (w.1 - max z.1 d.r).toNat) w.2) (fun w=>[(9,int w.1)]) (fun w=>sng b8 (.cells #[int z.1,int z.2] 93 (0,0)) :: Own w.2) (fun w=>(1099511627776 - w.1).toNat) pickZ ⟨by dsimp only; omega,by dsimp only; omega,by dsimp only; rw [show (max z.1 d.r - max z.1 d.r).toNat = 0 by omega,Nat.add_zero]; exact hI⟩ covZ Sel.refl ?_
 rintro ⟨t,σ2⟩ ⟨ht1,ht2,hI2⟩
 dsimp only at ht1 ht2 hI2 ⊢
 by_cases hz2:t < z.2
 ·by_cases hg2:t + 1 + x.g ≤ d.e
  ·have hya:=hy _ σ2 (Eng.encI t) (by rw [List.getElem?_map,hat t ht1 (by omega)]; rfl) hI2
   refine AD ?_;refine AD ?_
   refine A6 (.q 0 (.q 1 (.q 2 (.q 3 (.q 4 (.q 5 (.q 6 (.q 7 (.q 8 (.q 9 (.q 10 (.q 11 (.q 12 (.q 13 (.q 14 (.q 15 (.q 16 .nil))))))))))))))))) [] rfl (by kernel_rfl) Sel.nil ?_
   refine AJ ?_;refine A0 ?_;refine AR ?_;refine D0 ?_;refine AJ ?_;refine AJ ?_;refine CW ?_;refine A0 ?_;refine AR ?_;refine CW ?_;refine AR ?_;refine BA ?_;refine A0 ?_;refine BX ?_;refine AR ?_;refine E8 ?_;refine BR ?_;refine A8 ?_;refine AO rfl ?_;refine AK ?_;refine AD ?_;refine AP ?_;refine AD ?_;refine AA ?_;refine AB ?_;refine AB ?_
   refine BG hya rfl rfl (Takes.skip Takes.all) (fun τ hτ=>.inl (by simp [hτ])) rfl rfl ?_
   rintro _ H' ⟨σ3,rfl,⟨rfl,hI3⟩ | ⟨rfl,hSt⟩⟩
   ·refine CS (H':=_ :: Own σ3) (List.perm_append_comm (l₂:=[_])) ?_
    refine BJ ?_;refine AE ?_;refine AN rfl ?_;refine AK ?_;refine AZ ?_;refine AA ?_;refine AB ?_;refine CC ?_;refine AC ?_;refine AE ?_
    refine AU (t + 1,σ3) ⟨by dsimp only; omega,by dsimp only; omega,?_⟩ (by dsimp only; omega) covZ Sel.refl
    dsimp only
    rw [show (t + 1 - max z.1 d.r).toNat = (t - max z.1 d.r).toNat + 1 by omega]
    exact hI3
   ·refine BJ ?_
    refine AE ?_;refine AO rfl ?_
    exact AI (res0 rfl) (fun _ h=>List.mem_cons_of_mem _ (List.mem_cons_of_mem _ h)) Sel.left ⟨σ3,rfl,.inr hSt⟩
  ·refine AD ?_
   refine AD ?_
   refine A6 (.q 0 (.q 1 (.q 2 (.q 3 (.q 4 (.q 5 (.q 6 (.q 7 (.q 8 (.q 9 (.q 10 (.q 11 (.q 12 (.q 13 (.q 14 (.q 15 (.q 16 .nil))))))))))))))))) [] rfl (by kernel_rfl) Sel.nil ?_
   refine AJ ?_;refine A0 ?_;refine AR ?_;refine D0 ?_;refine AJ ?_;refine AJ ?_;refine CW ?_;refine A0 ?_;refine AR ?_;refine CW ?_;refine AR ?_;refine BA ?_;refine A0 ?_;refine BX ?_;refine AR ?_;refine DS ?_;refine BR ?_;refine A8 ?_;refine AN rfl ?_;refine A5 rfl ?_;refine AZ ?_;refine AA ?_;refine A7 ?_;refine AB ?_;refine AE ?_
   refine AU (k + 1,σ2) ⟨by dsimp only; omega,?_⟩ (by dsimp only; omega) covZ (Sel.skip Sel.refl)
   dsimp only
   rw [hlen,show (min z.2 (d.e - x.g) - max z.1 d.r).toNat = (t - max z.1 d.r).toNat by omega]
   exact hI2
 ·refine AD ?_
  refine AD ?_
  refine A6 (.q 0 (.q 1 (.q 2 (.q 3 (.q 4 (.q 5 (.q 6 (.q 7 (.q 8 (.q 9 (.q 10 (.q 11 (.q 12 (.q 13 (.q 14 (.q 15 (.q 16 .nil))))))))))))))))) [] rfl (by kernel_rfl) Sel.nil ?_
  refine AJ ?_;refine A0 ?_;refine AR ?_;refine DB ?_;refine AJ ?_;refine AW rfl rfl rfl rfl rfl ?_;refine AW rfl rfl rfl rfl rfl ?_;refine AW rfl rfl rfl rfl rfl ?_;refine AW rfl rfl rfl rfl rfl ?_;refine AW rfl rfl rfl rfl rfl ?_;refine AW rfl rfl rfl rfl rfl ?_;refine AW rfl rfl rfl rfl rfl ?_;refine AW rfl rfl rfl rfl rfl ?_;refine AW rfl rfl rfl rfl rfl ?_;refine AW rfl rfl rfl rfl rfl ?_;refine AW rfl rfl rfl rfl rfl ?_;refine BU ?_;refine A8 ?_;refine AN rfl ?_;refine A5 rfl ?_;refine AZ ?_;refine AA ?_;refine A7 ?_;refine AB ?_;refine AE ?_
  refine AU (k + 1,σ2) ⟨by dsimp only; omega,?_⟩ (by dsimp only; omega) covZ (Sel.skip Sel.refl)
  dsimp only
  rw [hlen,show (min z.2 (d.e - x.g) - max z.1 d.r).toNat = (t - max z.1 d.r).toNat by omega]
  exact hI2
end Go.Proofs.YtphehihohghfoaaGreat
/- Places and arcs, one after the other; what a map holds; the end of a function behind loops over functions. No conditions. -/
namespace Go.Eng
variable {C:Cx} {R H:List PH} {L:Env} {dst:Option Tmp} {ty:TypeId} {pos:String} {aft:Array Edge} {g:Option (Nat × Bool)}
theorem C1 {x y:Operand} {t kt et:TypeId} {b:Nat} (n:Nat) (k:List Int) {l:List (List Int × Value)} {z v:Value} (h:evalE L x = some (.map (some b))) (hk:evalE L y = some (aggI k)) (ht:C.P.underlying t = some (.map kt et)) (hkt:KeyS C.P kt n) (hn:k.length = n) (hl:∀ x ∈ l,x.1.length = n) (hz:zeroP C.P et = some z) (hv:mgetS k l = some v) (hm:MapAtS C.N R H b l) :
    Quiet C R H L ⟨dst,.lookup t x y false,ty,pos,aft,g⟩ v:=by
  have:=F3 (C:=C) (R:=R) (H:=H) (L:=L) (dst:=dst) (ty:=ty) (pos:=pos) (aft:=aft) (g:=g) n k h hk ht hkt hn hl hz hm
  rwa [hv,Option.getD_some] at this
theorem GF {P:Program} {fn:Func} {N:Bs} {M:Nat} {R R0 H H1 H':List PH} {L:Env} {post:Value → List PH → Prop} {v:Value} {ms:List Nat} {μ:PH} (m:MkIn μ ms) (t:Take μ H H1)
    (hv:∀ a w,Frm M L a → Sat N R H1 w → (results fn a.tmps).run P w = .ok v w) (hR:∀ ρ ∈ R0,ρ ∈ R) (hH:Sel H1 H') (hp:post v H') :
    JK ⟨none,P,FnQ P fn N R0 post,N,M⟩ (ms.map mk) R H L []:=by
  refine ⟨fun a w hf hd hs=>?_⟩
  show MarksQ _ _ _ _ a.defers w
  rw [hd]
  exact m.run (hs.take t) (fun w' hs'=>⟨v,hv a w' hf hs',H',hp,(hs'.rsub hR).sel hH⟩)
end Go.Eng
namespace Go.Step
section
variable {qs:List Int} {cs:List Ct} {bs:List Bk} {hs:List Hd} {d:Dm}
theorem waitN_at {n:Int} {t:Int} (h1:d.r ≤ t) (h2:t < d.e):(waitN qs hs d n)[(t - d.r).toNat]? = some ⟨⟨vtx d n t,vtx d n (t + 1),roomT qs hs d n t⟩,-1,t⟩:=by
  unfold waitN
  rw [List.getElem?_map,rngI_get (by omega),show d.r + ((t - d.r).toNat:Int) = t by omega]
  rfl
theorem waitA_at {n:Nat} {t:Int} (h1:d.r ≤ t) (h2:t < d.e):∀ {m:Nat},n < m → (waitA qs hs d m)[n * (d.e - d.r).toNat + (t - d.r).toNat]? = some ⟨⟨vtx d n t,vtx d n (t + 1),roomT qs hs d n t⟩,-1,t⟩
  | 0,h=>by omega
  | m + 1,h=>by
    have hl:=waitA_len qs hs d m
    unfold waitA
    by_cases hn:n < m
    · have h3:(n + 1) * (d.e - d.r).toNat ≤ m * (d.e - d.r).toNat:=Nat.mul_le_mul_right _ hn
      rw [Nat.add_mul,Nat.one_mul] at h3
      rw [List.getElem?_append_left (by omega)]
      exact waitA_at h1 h2 hn
    · obtain rfl:n = m:=by omega
      rw [List.getElem?_append_right (by omega),hl,Nat.add_sub_cancel_left]
      exact waitN_at h1 h2
theorem conA_pre (cs:List Ct) (bs:List Bk) (d:Dm) (i:Nat):∀ m:Nat,i < m → ∃ rest,conA cs bs d m = conA cs bs d i ++ (conN cs bs d i ++ rest)
  | 0,h=>by omega
  | m + 1,h=>by
    by_cases hi:i < m
    · obtain ⟨rest,e⟩:=conA_pre cs bs d i m hi
      refine ⟨rest ++ conN cs bs d m,?_⟩
      show conA cs bs d m ++ _ = _
      rw [e]
      simp
    · obtain rfl:i = m:=by omega
      exact ⟨[],by show conA cs bs d i ++ _ = _; simp⟩
theorem arcs_wait {n:Nat} {t:Int} (hn:n < qs.length) (h1:d.r ≤ t) (h2:t < d.e):(arcsE qs cs bs hs d)[n * (d.e - d.r).toNat + (t - d.r).toNat]? = some ⟨⟨vtx d n t,vtx d n (t + 1),roomT qs hs d n t⟩,-1,t⟩:=by
  have hl:=waitA_len qs hs d qs.length
  have h3:(n + 1) * (d.e - d.r).toNat ≤ qs.length * (d.e - d.r).toNat:=Nat.mul_le_mul_right _ hn
  rw [Nat.add_mul,Nat.one_mul] at h3;unfold arcsE
  rw [List.getElem?_append_left (by omega)]
  exact waitA_at h1 h2 hn
theorem arcs_con {i:Nat} {c:Ct} (hc:cs[i]? = some c) {j:Nat} {t:Int} (ht:(tickL d.r d.e c.g (freeC cs bs i))[j]? = some t):(arcsE qs cs bs hs d)[(waitA qs hs d qs.length).length + (conA cs bs d i).length + j]? = some (conE d c i t):=by
  obtain ⟨rest,e⟩:=conA_pre cs bs d i cs.length (List.getElem?_eq_some_iff.1 hc).1
  have hN:conN cs bs d i = (tickL d.r d.e c.g (freeC cs bs i)).map (conE d c i):=by unfold conN; rw [hc]
  unfold arcsE
  rw [e,List.getElem?_append_right (by omega),show (waitA qs hs d qs.length).length + (conA cs bs d i).length + j - (waitA qs hs d qs.length).length = (conA cs bs d i).length + j by omega,List.getElem?_append_right (by omega),Nat.add_sub_cancel_left,List.getElem?_append_left (by
    rw [hN,List.length_map]
    exact (List.getElem?_eq_some_iff.1 ht).1),hN,List.getElem?_map,ht]
  rfl
theorem conA_next (cs:List Ct) (bs:List Bk) (d:Dm) {i:Nat} {c:Ct} (hc:cs[i]? = some c):(conA cs bs d (i + 1)).length = (conA cs bs d i).length + (tickL d.r d.e c.g (freeC cs bs i)).length:=by
  show (conA cs bs d i ++ conN cs bs d i).length = _
  unfold conN;rw [hc,List.length_append,List.length_map]
theorem place_of (h:d.r ≤ d.e) {k N:Nat} (hk:(k:Int) < N * wd d):∃ (n:Nat) (t:Int),n < N ∧ d.r ≤ t ∧ t ≤ d.e ∧ (k:Int) = vtx d n t ∧ k = n * (wd d).toNat + (t - d.r).toNat:=by
  obtain ⟨⟨a1,a2⟩,⟨b1,b2⟩,c⟩:=vtx_of (d:=d) (v:=(k:Int)) (N:=N) (by unfold wd; omega) (by omega) hk
  obtain ⟨n,hn⟩:=Int.eq_ofNat_of_zero_le a1
  have hw:(((wd d).toNat:Nat):Int) = wd d:=by unfold wd; omega
  rw [hn] at c
  generalize (k:Int) % wd d = m at b1 b2 c
  refine ⟨n,d.r + m,by omega,b1,b2,c.symm,?_⟩
  have e:((n * (wd d).toNat + (d.r + m - d.r).toNat:Nat):Int) = (k:Int):=by
    rw [Int.natCast_add,Int.natCast_mul,hw,← c];unfold vtx;omega
  omega
end
end Go.Step
/- Where the ways of a test meet behind it: the test's region and the test. No conditions. -/
namespace Go.Eng
variable {C:Cx} {D:List Deferred} {R H:List PH} {L:Env} {K:List It}
end Go.Eng
