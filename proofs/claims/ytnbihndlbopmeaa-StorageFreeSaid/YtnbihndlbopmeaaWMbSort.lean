/- The library's sort of numbers, as a contract of this engine. No conditions. -/
import Derived.Test.YtnbihndlbopmeaaWMbGrow
import Derived.Sort.OwnSortedInts
import Derived.Sort.EveryDepth
import Derived.Lib.SlicesCompact
import Derived.Lib.RowBridge
set_option linter.all false
namespace Go.Eng
open Go.Sort
theorem calls_v {P : Program} {f : FuncId} {fn : Func} {c : Code} {args : List Value} {w : World} {R : Value → World → Prop} (hf : P.funcs[f]? = some fn) (hb : fn.body = some c) (hname : (fn.name == "runtime.NumGoroutine") = false)
    (h : Calls P f args.toArray w (fun e w' => ∃ v, e = .returned v ∧ R v w')) : CallsV P (fv f) args w R := by
  unfold CallsV
  have hrun : ((do let d ← Deferred.ofValue (fv f) args.toArray; invoke d.target d.args : Sem Next).run P w) = .ok (.enter f args.toArray) w := by
    have hname' : ¬ fn.name = "runtime.NumGoroutine" := by simpa using hname
    simp [Deferred.ofValue, invoke, callFunc, program, Sem.run, bind, Sem.bind, pure, hf, hb, hname']
  rw [hrun]
  exact callsIn_wide.2 h
abbrev sortd (l : List Int) : List Int := l.mergeSort fun x y => decide (x ≤ y)
theorem flatI (l : List Int) : l.flatMap encI = l.map (Value.int .i64) := by induction l <;> simp_all [encI]
theorem sortI_of {P : Program} {f : FuncId} {fn : Func} {c : Code} (hf : P.funcs[f]? = some fn) (hb : fn.body = some c) (hname : (fn.name == "runtime.NumGoroutine") = false)
    (hany : ∀ (blk cap : Nat) (zs : List Int) (w : World), Holds (Value.int .i64) w blk 0 zs.toArray → blk < w.heap.size → zs.length < 4611686018427387904 →
      Calls P f #[.slice (some ⟨blk, 0, none⟩) zs.length cap] w (fun e w' => e = .returned (.tuple #[]) ∧ ∃ n os, w' = grow (putRow (Value.int .i64) (Sort.ahead w n) blk 0 (sortd zs).toArray) os))
    (hnone : ∀ (p : Option Addr) (cap : Nat) (w : World), Calls P f #[.slice p 0 cap] w (fun e w' => e = .returned (.tuple #[]) ∧ w' = w))
    {e : TypeId} {σ : PH} {v : Value} {l : List Int} (hO : OwnS e 1 v l.length (l.flatMap encI) σ) (hl : l.length < 4611686018427387904) :
    Spec P (fv f) [v] [] [σ] (fun r H' => r = .tuple #[] ∧ ∃ σ', OwnS e 1 v (sortd l).length ((sortd l).flatMap encI) σ' ∧ H' = [σ']) := by
  have hsl : (sortd l).length = l.length := List.length_mergeSort ..
  intro N w hs
  obtain ⟨β, hsat, hup⟩ := exists_base hs
  rcases hO.block with ⟨rfl, rfl, rfl⟩ | ⟨b, cap, cur, rfl, rfl, h1, h2, h3, h4⟩
  · refine calls_v hf hb hname (Calls.mono (hnone none 0 w) ?_)
    rintro _ _ ⟨rfl, rfl⟩
    exact ⟨_, rfl, [emp], ⟨rfl, emp, by simpa [sortd] using OwnS.nil e 1, rfl⟩, hup _ _ hsat⟩
  · have hg : w.heap[b]? = some (.cells cur e (0, 0)) := hs.own .here
    have hblt : b < w.heap.size := (Array.getElem?_eq_some_iff.1 hg).1
    rw [Nat.mul_one, flatI] at h4
    rw [Nat.mul_one] at h3
    have hH : Holds (Value.int .i64) w b 0 l.toArray := by
      intro j hj
      simp only [List.size_toArray] at hj
      have hj' : (cur.toList.take l.length)[j]? = some (Value.int .i64 l[j]) := by rw [h4, List.getElem?_map, List.getElem?_eq_getElem hj]; rfl
      rw [List.getElem?_take_of_lt hj, Array.getElem?_toList] at hj'
      refine ⟨?_, ?_⟩
      · rw [cell_of_row w b _ cur e (0, 0) hg, Nat.zero_add, hj']
        simp [hj]
      · simp [World.frozen?, hg]
    refine calls_v hf hb hname (Calls.mono (hany b cap l w hH hblt hl) ?_)
    rintro _ _ ⟨rfl, n, os, rfl⟩
    have hheap : (grow (putRow (Value.int .i64) (Sort.ahead w n) b 0 (sortd l).toArray) os).heap = (w.heap.modify b (onCells (putCells (Value.int .i64) 0 (sortd l).toArray))) ++ os := rfl
    refine ⟨_, rfl, [sng b (.cells (putCells (Value.int .i64) 0 (sortd l).toArray cur) e (0, 0))], ⟨rfl, _, ⟨by rw [flat_len encI_len], .inr ⟨b, cap, _, by rw [hsl], rfl, by omega, h2, ?_, ?_⟩⟩, rfl⟩, ?_⟩
    · simp [putCells, h3]
    · rw [flatI, Nat.mul_one]
      exact take_putCellsI cur (sortd l) (by rw [hsl, h3]; exact h1)
    · refine ⟨⟨?_, rfl, rfl, rfl⟩, fun k hk hno => ?_, fun ρ hρ => ?_, by simp, fun ρ hρ k hk => ?_⟩
      · rw [hheap]; simp
      · have hne : k ≠ b := fun e => by
          subst e
          have := hno (sng k (.cells cur e (0, 0))) (by simp)
          simp [sng_self] at this
        rw [hheap, Array.getElem?_append_left (by simpa using hk), Array.getElem?_modify, if_neg (Ne.symm hne)]
      · simp at hρ; subst hρ
        intro k o hk
        obtain ⟨rfl, rfl⟩ := sng_some hk
        rw [hheap, Array.getElem?_append_left (by simpa using hblt), Array.getElem?_modify, if_pos rfl, hg]
        rfl
      · simp at hρ; subst hρ
        left
        refine ⟨sng b (.cells cur e (0, 0)), by simp, ?_⟩
        cases hks : sng b (Obj.cells (putCells (Value.int .i64) 0 (sortd l).toArray cur) e (0, 0)) k with
        | none => exact absurd hks hk
        | some o =>
          obtain ⟨rfl, _⟩ := sng_some hks
          simp [sng_self]
end Go.Eng
namespace Go.Eng
open Go.Sort
theorem compactI_of {P : Program} {f : FuncId} {fn : Func} {c : Code} (hf : P.funcs[f]? = some fn) (hb : fn.body = some c) (hname : (fn.name == "runtime.NumGoroutine") = false)
    (hany : ∀ (blk cap : Nat) (zs : List Int) (w : World), Holds (Value.int .i64) w blk 0 zs.toArray → zs.length ≤ 9223372036854775807 → zs.length ≤ cap →
      Calls P f #[.slice (some ⟨blk, 0, none⟩) zs.length cap] w (fun e w' => e = .returned (.slice (some ⟨blk, 0, none⟩) (Lib.compact zs).length cap) ∧ ∃ q, w' = putRow (Value.int .i64) (Sort.ahead w q) blk 0 (Lib.compact zs ++ List.replicate (zs.length - (Lib.compact zs).length) 0).toArray))
    (hnone : ∀ (p : Option Addr) (cap : Nat) (w : World), Calls P f #[.slice p 0 cap] w (fun e w' => e = .returned (.slice p 0 cap) ∧ w' = w))
    {e : TypeId} {σ : PH} {v : Value} {l : List Int} (hO : OwnS e 1 v l.length (l.flatMap encI) σ) (hl : l.length ≤ 9223372036854775807) :
    Spec P (fv f) [v] [] [σ] (fun r H' => ∃ σ', OwnS e 1 r (Lib.compact l).length ((Lib.compact l).flatMap encI) σ' ∧ H' = [σ']) := by
  have hcl : (Lib.compact l).length ≤ l.length := Lib.compact_length_le l
  intro N w hs
  obtain ⟨β, hsat, hup⟩ := exists_base hs
  rcases hO.block with ⟨rfl, rfl, rfl⟩ | ⟨b, cap, cur, rfl, rfl, h1, h2, h3, h4⟩
  · refine calls_v hf hb hname (Calls.mono (hnone none 0 w) ?_)
    rintro _ _ ⟨rfl, rfl⟩
    exact ⟨_, rfl, [emp], ⟨emp, OwnS.nil e 1, rfl⟩, hup _ _ hsat⟩
  · have hg : w.heap[b]? = some (.cells cur e (0, 0)) := hs.own .here
    have hblt : b < w.heap.size := (Array.getElem?_eq_some_iff.1 hg).1
    rw [Nat.mul_one, flatI] at h4
    rw [Nat.mul_one] at h3
    have hH : Holds (Value.int .i64) w b 0 l.toArray := by
      intro j hj
      simp only [List.size_toArray] at hj
      have hj' : (cur.toList.take l.length)[j]? = some (Value.int .i64 l[j]) := by rw [h4, List.getElem?_map, List.getElem?_eq_getElem hj]; rfl
      rw [List.getElem?_take_of_lt hj, Array.getElem?_toList] at hj'
      refine ⟨?_, ?_⟩
      · rw [cell_of_row w b _ cur e (0, 0) hg, Nat.zero_add, hj']
        simp [hj]
      · simp [World.frozen?, hg]
    refine calls_v hf hb hname (Calls.mono (hany b cap l w hH hl h1) ?_)
    rintro _ _ ⟨rfl, n, rfl⟩
    generalize hnew : Lib.compact l ++ List.replicate (l.length - (Lib.compact l).length) 0 = new
    have hnl : new.length = l.length := by rw [← hnew]; simp; omega
    have hheap : (putRow (Value.int .i64) (Sort.ahead w n) b 0 new.toArray).heap = w.heap.modify b (onCells (putCells (Value.int .i64) 0 new.toArray)) := rfl
    refine ⟨_, rfl, [sng b (.cells (putCells (Value.int .i64) 0 new.toArray cur) e (0, 0))], ⟨_, ⟨by rw [flat_len encI_len], .inr ⟨b, cap, _, rfl, rfl, by omega, h2, ?_, ?_⟩⟩, rfl⟩, ?_⟩
    · simp [putCells, h3]
    · have ht := take_putCellsI cur new (by rw [hnl, h3]; exact h1)
      have := congrArg (List.take (Lib.compact l).length) ht
      rw [List.take_take, Nat.min_eq_left (by omega), ← List.map_take, ← hnew, List.take_left] at this
      rw [flatI, Nat.mul_one, ← this, hnew]
    · refine ⟨⟨?_, rfl, rfl, rfl⟩, fun k hk hno => ?_, fun ρ hρ => ?_, by simp, fun ρ hρ k hk => ?_⟩
      · rw [hheap]; simp
      · have hne : k ≠ b := fun e => by
          subst e
          have := hno (sng k (.cells cur e (0, 0))) (by simp)
          simp [sng_self] at this
        rw [hheap, Array.getElem?_modify, if_neg (Ne.symm hne)]
      · simp at hρ; subst hρ
        intro k o hk
        obtain ⟨rfl, rfl⟩ := sng_some hk
        rw [hheap, Array.getElem?_modify, if_pos rfl, hg]
        rfl
      · simp at hρ; subst hρ
        left
        refine ⟨sng b (.cells cur e (0, 0)), by simp, ?_⟩
        cases hks : sng b (Obj.cells (putCells (Value.int .i64) 0 new.toArray cur) e (0, 0)) k with
        | none => exact absurd hks hk
        | some o =>
          obtain ⟨rfl, _⟩ := sng_some hks
          simp [sng_self]
end Go.Eng
