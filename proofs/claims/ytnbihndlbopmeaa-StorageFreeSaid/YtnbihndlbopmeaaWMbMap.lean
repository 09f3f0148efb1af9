/- Maps from int to int: made, looked up, changed. No conditions. -/
import Derived.Test.YtnbihndlbopmeaaWMbData
import Derived.Test.YtnbihndlbopmeaaWMbEql
set_option linter.all false
namespace Go.Eng
variable {C : Cx} {D : List Deferred} {R H : List PH} {L : Env} {K : List It}
variable {dst : Option Tmp} {ty : TypeId} {pos : String} {aft : Array Edge} {g : Option (Nat × Bool)}
def ents : Nat → List (Int × Int) → List MapEntry
  | _, [] => []
  | i, kv :: m => ⟨int kv.1, int kv.2, i⟩ :: ents (i + 1) m
def mapO (m : List (Int × Int)) : Obj := .map (ents 0 m).toArray m.length
def midx (k : Int) : List (Int × Int) → Option (Nat × Int)
  | [] => none
  | (a, v) :: m => if k = a then some (0, v) else (midx k m).map (fun p => (p.1 + 1, p.2))
def mget (k : Int) (m : List (Int × Int)) : Option Int := (midx k m).map (·.2)
def mset (k v : Int) : List (Int × Int) → List (Int × Int)
  | [] => [(k, v)]
  | (a, w) :: m => if k = a then (a, v) :: m else (a, w) :: mset k v m
theorem findNow_ents (k : Int) : ∀ (m : List (Int × Int)) (i j : Nat), Instr.findNow (.int .i64) (int k) (ents i m) j = some ((midx k m).map (fun p => (j + p.1, int p.2)))
  | [], i, j => rfl
  | (a, v) :: m, i, j => by
    by_cases h : k = a
    · subst h
      simp [ents, Instr.findNow, Instr.sameNow, midx, int]
    · have ih := findNow_ents k m (i + 1) (j + 1)
      have hs : Instr.sameNow (.int .i64) (int k) (int a) = some false := by simp [Instr.sameNow, int, h]
      simp only [ents, Instr.findNow, hs, midx, if_neg h, ih, Option.map_map]
      congr 2
      funext p
      show (j + 1 + p.1, int p.2) = (j + (p.1 + 1), int p.2)
      rw [show j + 1 + p.1 = j + (p.1 + 1) by omega]
theorem ents_len : ∀ (m : List (Int × Int)) (i : Nat), (ents i m).length = m.length
  | [], _ => rfl
  | _ :: m, i => by simp [ents, ents_len m]
theorem mset_none {k v : Int} : ∀ {m : List (Int × Int)} (i : Nat), midx k m = none → ents i m ++ [⟨int k, int v, i + m.length⟩] = ents i (mset k v m) ∧ (mset k v m).length = m.length + 1
  | [], i, _ => ⟨rfl, rfl⟩
  | (a, w) :: m, i, h => by
    unfold midx at h
    split at h
    · exact absurd h (by simp)
    · rename_i hk
      have h' : midx k m = none := by simpa using h
      obtain ⟨e, l⟩ := mset_none (k := k) (v := v) (m := m) (i + 1) h'
      simp only [mset, if_neg hk, ents, List.cons_append, List.length_cons, l, and_true, ← e]
      congr 4
      omega
theorem mset_some {k v : Int} : ∀ {m : List (Int × Int)} (i n : Nat) (w : Int), midx k m = some (n, w) → (ents i m).modify n (fun e => { e with key := int k, val := int v }) = ents i (mset k v m) ∧ (mset k v m).length = m.length ∧ n < m.length ∧ ((ents i m)[n]?).map (·.key) = some (int k)
  | [], i, n, w, h => by simp [midx] at h
  | (a, u) :: m, i, n, w, h => by
    unfold midx at h
    split at h
    · rename_i hk
      subst hk
      simp at h
      obtain ⟨rfl, rfl⟩ := h
      simp [ents, mset]
    · rename_i hk
      cases hm : midx k m with
      | none => rw [hm] at h; simp at h
      | some p =>
        rw [hm] at h
        simp at h
        obtain ⟨rfl, rfl⟩ := h
        obtain ⟨e, l, l2, l3⟩ := mset_some (k := k) (v := v) (m := m) (i + 1) p.1 p.2 hm
        simp only [mset, if_neg hk, ents, List.length_cons, l, List.modify_succ_cons, e]
        refine ⟨trivial, trivial, by omega, ?_⟩
        simpa using l3
theorem l_makeMap {t : TypeId} : Loud C R H L ⟨dst, .makeMap t none, ty, pos, aft, g⟩ (fun v H' => ∃ b, v = .map (some b) ∧ H' = sng b (mapO []) :: H) := by
  refine ⟨fun a w hx hs next Q hn => ?_⟩
  refine wpIn_value (v := .map (some w.heap.size)) (w' := w.alloc (mapO [])) (by intro c; simp) ?_ (hn _ _ _ ⟨_, rfl, rfl⟩ (hs.alloc _))
  simp [execOp, Instr.makeMap, newObj]
  rfl
theorem run_checkKey {P : Program} {w : World} {kt : TypeId} {k : Int} (e : Bool) (n : Nat) (hkt : P.underlying kt = some (.int .i64)) : (Instr.checkKey e (n + 1) kt (int k)).run P w = .ok () w := by
  simp [Instr.checkKey, Go.underlying, Sem.run, hkt, int]
theorem run_findKey {P : Program} {w : World} {kt : TypeId} {k : Int} {l : List (Int × Int)} (hkt : P.underlying kt = some (.int .i64)) : (Instr.findKey kt (int k) (ents 0 l)).run P w = .ok ((midx k l).map (fun p => (p.1, int p.2))) w := by
  have hf := findNow_ents k l 0 0
  simp only [Nat.zero_add] at hf
  simp [Instr.findKey, Go.underlying, Sem.run, hkt, hf]
theorem run_lookup {P : Program} {w : World} {t kt et : TypeId} {b : Nat} {k : Int} {l : List (Int × Int)} {ok : Bool} (ht : P.underlying t = some (.map kt et)) (hkt : P.underlying kt = some (.int .i64)) (hz : zeroP P et = some (int 0)) (hg : w.heap[b]? = some (mapO l)) :
    (Instr.lookup t (.map (some b)) (int k) ok).run P w = .ok (if ok then .tuple #[int ((mget k l).getD 0), .bool (mget k l).isSome] else int ((mget k l).getD 0)) w := by
  have hf := run_findKey (P := P) (w := w) (k := k) (l := l) hkt
  have hc := fun e => run_checkKey (P := P) (w := w) (k := k) e 9999 hkt
  simp only [Nat.reduceAdd] at hc
  unfold mget
  cases hm : midx k l with
  | none =>
    rw [hm] at hf
    simp [Instr.lookup, Go.underlying, Sem.run, ht, getObj, hg, mapO, hc, hf, run_zeroValue hz]
    done
  | some p =>
    rw [hm] at hf
    simp [Instr.lookup, Go.underlying, Sem.run, ht, getObj, hg, mapO, hc, hf]
    done
/-- a map stands here -/
def MapAt (N : Bs) (R H : List PH) (b : Nat) (l : List (Int × Int)) : Prop := ∀ w, Sat N R H w → w.heap[b]? = some (mapO l)
theorem mapAt_own {N : Bs} {b : Nat} {l : List (Int × Int)} (m : Mem (sng b (mapO l)) H) : MapAt N R H b l := fun w hs => hs.h _ m.mem b _ (sng_self b _)
theorem mapAt_rd {N : Bs} {b : Nat} {l : List (Int × Int)} (m : Mem (sng b (mapO l)) R) : MapAt N R H b l := fun w hs => hs.r _ m.mem b _ (sng_self b _)
theorem q_lookup {x y : Operand} {t kt et : TypeId} {b : Nat} {k : Int} {l : List (Int × Int)} (h : evalE L x = some (.map (some b))) (hk : evalE L y = some (int k)) (ht : C.P.underlying t = some (.map kt et)) (hkt : C.P.underlying kt = some (.int .i64)) (hz : zeroP C.P et = some (int 0)) (hm : MapAt C.N R H b l) :
    Quiet C R H L ⟨dst, .lookup t x y false, ty, pos, aft, g⟩ (int ((mget k l).getD 0)) :=
  ⟨by intro c; simp, fun a w hx hs => by
    have e1 := hx x (by simp [Op.operands]) _ h
    have e2 := hx y (by simp [Op.operands]) _ hk
    simp [execOp, e1, e2, run_lookup ht hkt hz (hm w hs)]⟩
theorem q_lookup2 {x y : Operand} {t kt et : TypeId} {b : Nat} {k : Int} {l : List (Int × Int)} (h : evalE L x = some (.map (some b))) (hk : evalE L y = some (int k)) (ht : C.P.underlying t = some (.map kt et)) (hkt : C.P.underlying kt = some (.int .i64)) (hz : zeroP C.P et = some (int 0)) (hm : MapAt C.N R H b l) :
    Quiet C R H L ⟨dst, .lookup t x y true, ty, pos, aft, g⟩ (.tuple #[int ((mget k l).getD 0), .bool (mget k l).isSome]) :=
  ⟨by intro c; simp, fun a w hx hs => by
    have e1 := hx x (by simp [Op.operands]) _ h
    have e2 := hx y (by simp [Op.operands]) _ hk
    simp [execOp, e1, e2, run_lookup ht hkt hz (hm w hs)]⟩
theorem run_mapUpdate {P : Program} {w : World} {t kt et : TypeId} {b : Nat} {k v : Int} {l : List (Int × Int)} (ht : P.underlying t = some (.map kt et)) (hkt : P.underlying kt = some (.int .i64)) (hg : w.heap[b]? = some (mapO l)) :
    (Instr.mapUpdate t (.map (some b)) (int k) (int v)).run P w = .ok () { w with heap := w.heap.setIfInBounds b (mapO (mset k v l)) } := by
  have hf := run_findKey (P := P) (w := w) (k := k) (l := l) hkt
  have hc := fun e => run_checkKey (P := P) (w := w) (k := k) e 9999 hkt
  simp only [Nat.reduceAdd] at hc
  cases hm : midx k l with
  | none =>
    rw [hm] at hf
    obtain ⟨e, n⟩ := mset_none (k := k) (v := v) 0 hm
    have e2 : mapO (mset k v l) = .map ((ents 0 l).toArray.push ⟨int k, int v, l.length⟩) (l.length + 1) := by
      unfold mapO; rw [n, ← e]; simp
    rw [e2]
    simp [Instr.mapUpdate, Go.underlying, Sem.run, ht, getObj, hg, mapO, hc, hf, setObj]
    done
  | some p =>
    rw [hm] at hf
    obtain ⟨e, n, n2, n3⟩ := mset_some (k := k) (v := v) 0 p.1 p.2 hm
    have e2 : mapO (mset k v l) = .map ((ents 0 l).toArray.modify p.1 (fun e => { e with key := int k, val := int v })) l.length := by
      unfold mapO; rw [n, ← e]; simp
    rw [e2]
    have hsb : Instr.sameBits 10000 (int k) (int k) = true := by simp [Instr.sameBits, int]
    have hks : (Instr.keyThatStays (int k) (int k)).run P w = .ok (int k) w := by simp [Instr.keyThatStays, hsb]
    simp [Instr.mapUpdate, Go.underlying, Sem.run, ht, getObj, hg, mapO, hc, hf, setObj, n3, hks]
    done
theorem l_mapUpdate {x y z : Operand} {t kt et : TypeId} {b : Nat} {k v : Int} {l : List (Int × Int)} {H' : List PH} (h : evalE L x = some (.map (some b))) (hk : evalE L y = some (int k)) (hv : evalE L z = some (int v)) (ht : C.P.underlying t = some (.map kt et)) (hkt : C.P.underlying kt = some (.int .i64)) (hm : Take (sng b (mapO l)) H H') :
    Loud C R H L ⟨dst, .mapUpdate t x y z, ty, pos, aft, g⟩ (fun u H2 => u = undef ∧ H2 = sng b (mapO (mset k v l)) :: H') := by
  refine ⟨fun a w hx hs next Q hnx => ?_⟩
  have hg := hs.own hm
  have e1 := hx x (by simp [Op.operands]) _ h
  have e2 := hx y (by simp [Op.operands]) _ hk
  have e3 := hx z (by simp [Op.operands]) _ hv
  refine wpIn_skipv (w' := { w with heap := w.heap.setIfInBounds b (mapO (mset k v l)) }) (by intro c; simp) ?_ (hnx _ _ _ ⟨rfl, rfl⟩ (hs.turn hm ?_ ?_ ?_))
  · simp [execOp, e1, e2, e3, run_mapUpdate ht hkt hg]
  · simp
  · have : b < w.heap.size := by
      rw [Array.getElem?_eq_some_iff] at hg; exact hg.1
    simp [this]
  · intro k hk; simp [Array.getElem?_setIfInBounds, Ne.symm hk]
end Go.Eng
