/- Texts of this proof, one after the other; no conditions. -/
import Derived.ProofKit
import Derived.Deep.Slices
import Derived.Lib.SmallJoins
import Derived.Lib.SlicesCompact
import Derived.Lib.AppendZerosOnto
import Derived.Lib.Overlaps
import Derived.Test.YtcmggofkjcejgaaGreatDoorWB1
set_option linter.all false
/- From a function's contract to a given statement: what the arguments read as, what the call leaves as it was. No conditions. -/
namespace Go.Eng
open Go.ChangeShapes Go.WideShapes Go.RowKit
def heapPH (w : World) : PH := fun b => w.heap[b]?
theorem sat_heap (w : World) : Sat (Bs.of w) [heapPH w] [] w :=
  ⟨⟨Nat.le_refl _, rfl, rfl, rfl, Nat.le_refl _⟩, by intro ρ hρ; simp at hρ; subst hρ; exact fun b o h => h, by simp, List.Pairwise.nil, by simp⟩
theorem rdc_heap {w : World} {b o : Nat} {v : Value} (h : w.cell? ⟨b, o, none⟩ = some v) : rdc (heapPH w) b o = some v := by
  unfold World.cell? at h;unfold rdc heapPH
  cases e : w.heap[b]? with
  | none => simp [e] at h
  | some ob => cases ob <;> simp_all
theorem cell_spot {w : World} {a : Addr} {v : Value} (h : w.cell? a = some v) : a.spot = none := by
  unfold World.cell? at h
  split at h
  · split at h
    · simp at h
    · rename_i hs; simpa using hs
  · simp at h
theorem law_calls {P : Program} {f : FuncId} {fn : Func} {c : Code} {args : List Value} {W : World} (hf : P.funcs[f]? = some fn) (hb : fn.body = some c) (hname : (fn.name == "runtime.NumGoroutine") = false)
    (hs : Ans P (fv f) args [heapPH W] (fun v => v = .bool true)) : Calls P f args.toArray W (fun e W' => e = .returned (.bool true) ∧ Below W.heap.size W W') := by
  have h := hs (Bs.of W) W (sat_heap W)
  unfold CallsV at h
  have hrun : ((do let d ← Deferred.ofValue (fv f) args.toArray; invoke d.target d.args : Sem Next).run P W) = .ok (.enter f args.toArray) W := by
    have hname' : ¬ fn.name = "runtime.NumGoroutine" := by simpa using hname
    simp [Deferred.ofValue, invoke, callFunc, program, Sem.run, bind, Sem.bind, pure, hf, hb, hname']
  rw [hrun] at h;refine callsIn_wide.1 (CallsIn.mono h ?_);rintro e W' ⟨v, rfl, H', ⟨rfl, rfl⟩, hu⟩
  exact ⟨rfl, hu.size.2.1, hu.size.2.2.2.1, hu.size.2.2.1, hu.size.1, fun k hk => hu.keep k hk (by simp)⟩
def RdT (P : Program) (W : World) (t : TypeId) (cs : List Value) : Prop := ∃ (H : Type) (enc : TypeId × Value → H) (fuel : Nat) (x : DataW H × List MemPlace), DataW.trod enc P W 0 (fun _ => true) true fuel t cs = some x
section
variable {P : Program} {W : World} {t : TypeId} {cs : List Value}
theorem RdT.of {H : Type} {enc : TypeId × Value → H} {v : Value} {d : DataW H} {p : List MemPlace} (h : DataW.Trod enc P W 0 (fun _ => true) true t v d p) : RdT P W t v.cells.toList := by
  obtain ⟨fuel, hf⟩ := h
  exact ⟨H, enc, fuel, _, hf⟩
theorem RdT.num {k : IntKind} (ht : P.underlying t = some (.int k)) (h : RdT P W t cs) : ∃ n, cs = [.int k n] ∧ (Lit.int k n).wf = true := by
  obtain ⟨H, enc, fuel, x, h⟩ := h
  obtain ⟨n, h1, _, h2⟩ := DataW.trod_int ht h
  exact ⟨n, h1, h2⟩
theorem wf_i64 {n : Int} (h : (Lit.int .i64 n).wf = true) : In64 n := by
  simp only [Lit.wf, Bool.and_eq_true, decide_eq_true_eq] at h;exact ⟨h.1, h.2⟩
theorem RdT.i64 (ht : P.underlying t = some (.int .i64)) (h : RdT P W t cs) : ∃ n, cs = [int n] ∧ In64 n := by
  obtain ⟨n, h1, h2⟩ := h.num ht
  exact ⟨n, h1, wf_i64 h2⟩
theorem RdT.bool (ht : P.underlying t = some .bool) (h : RdT P W t cs) : ∃ b, cs = [.bool b] := by
  obtain ⟨H, enc, fuel, x, h⟩ := h
  cases fuel with
  | zero => simp [DataW.trod] at h
  | succ n =>
    unfold DataW.trod at h;rw [ht] at h
    split at h <;> simp_all
theorem RdT.str (ht : P.underlying t = some .string) (h : RdT P W t cs) : ∃ s, cs = [.string s] ∧ s.size ≤ maxLen := by
  obtain ⟨H, enc, fuel, x, h⟩ := h
  cases fuel with
  | zero => simp [DataW.trod] at h
  | succ n =>
    unfold DataW.trod at h;rw [ht] at h
    split at h <;> simp_all
theorem RdT.struct {fs : Array Field} (ht : P.underlying t = some (.struct fs)) (h : RdT P W t cs) : cs.length = P.cellsOf t ∧ ∀ (i : Nat) (f : Field), fs[i]? = some f → RdT P W f.type ((cs.drop f.offset).take (P.cellsOf f.type)) := by
  obtain ⟨H, enc, fuel, x, h⟩ := h
  obtain ⟨xs, n, _, _, hl, hlen, hf⟩ := DataW.trod_struct ht h
  refine ⟨hl, fun i f hi => ?_⟩
  have hif : i < xs.length := by rw [hlen]; exact (Array.getElem?_eq_some_iff.1 hi).1
  have := hf i f hi
  rw [List.getElem?_eq_getElem hif] at this;exact ⟨H, enc, n, _, this⟩
theorem RdT.fld1 {fs : Array Field} (ht : P.underlying t = some (.struct fs)) (h : RdT P W t cs) (i : Nat) {f : Field} (hi : fs[i]? = some f) {ty : TypeId} {o : Nat} {c : Value} (hty : f.type = ty) (ho : f.offset = o) (hc : P.cellsOf ty = 1) (hcs : cs[o]? = some c) : RdT P W ty [c] := by
  have := (h.struct ht).2 i f hi
  rw [hty, ho, hc] at this
  obtain ⟨hlt, he⟩ := List.getElem?_eq_some_iff.1 hcs
  rw [List.drop_eq_getElem_cons hlt, he] at this
  simpa using this
theorem choose_list {α : Type} (q : Nat → α → Prop) : ∀ n, (∀ i, i < n → ∃ a, q i a) → ∃ l : List α, l.length = n ∧ ∀ i a, l[i]? = some a → q i a
  | 0, _ => ⟨[], rfl, by simp⟩
  | n + 1, h => by
    obtain ⟨l, hl, hq⟩ := choose_list q n (fun i hi => h i (by omega))
    obtain ⟨a, ha⟩ := h n (by omega)
    refine ⟨l ++ [a], by simp [hl], fun i b hb => ?_⟩
    by_cases e : i < n
    · rw [List.getElem?_append_left (by omega)] at hb; exact hq i b hb
    · rw [List.getElem?_append_right (by omega)] at hb
      have hi : i - l.length = 0 := by
        have := (List.getElem?_eq_some_iff.1 hb).1
        simp at this; omega
      rw [hi] at hb
      simp at hb
      subst hb
      have : i = n := by omega
      subst this; exact ha
theorem RdT.slice {e : TypeId} {s : Nat} (ht : P.underlying t = some (.slice e)) (hs : P.cellsOf e = s) (h0 : 0 < s) (h : RdT P W t cs) :
    ∃ v p c, cs = [v] ∧ ∃ els : List (List Value), v = .slice p els.length c ∧ els.length ≤ maxLen ∧ ∀ i x, els[i]? = some x → x.length = s ∧ RdT P W e x ∧ ∃ b o, p = some ⟨b, o, none⟩ ∧ RdN (heapPH W) b (o + i * s) x := by
  obtain ⟨H, enc, fuel, x, h⟩ := h
  rcases Deep.open_slice ht h with ⟨rfl, _⟩ | ⟨a, len, cap, m, n, D, Pl, rfl, _, hlc, hcm, hm, _, hx⟩
  · exact ⟨_, none, 0, rfl, [], rfl, by simp, by simp⟩
  · have hm' : m = cap := by rw [hm]; simp
    obtain ⟨els, hl, hq⟩ := choose_list (fun i cs' => W.cells? 0 (a.add (i * P.cellsOf e)) (P.cellsOf e) = some cs' ∧ DataW.trod enc P W 0 (fun _ => true) true n e cs' = some (D i, Pl i)) len (fun i hi => hx i (by omega))
    refine ⟨_, some a, cap, rfl, els, by rw [hl], by omega, fun i y hy => ?_⟩
    obtain ⟨q1, q2⟩ := hq i y hy
    obtain ⟨_, k1, k2⟩ := World.cells?_some q1
    rw [hs] at k1 k2
    have hsp : a.spot = none := by
      have hi : i < els.length := (List.getElem?_eq_some_iff.1 hy).1
      obtain ⟨r1, _⟩ := hq 0 els[0] (List.getElem?_eq_getElem (by omega))
      obtain ⟨_, g1, g2⟩ := World.cells?_some r1
      rw [hs] at g1 g2
      have hv0 : els[0][0]? = some (els[0][0]'(by omega)) := List.getElem?_eq_getElem (by omega)
      have := cell_spot ((g2 0 h0).trans hv0)
      simpa [Addr.add] using this
    obtain ⟨b, o, sp⟩ := a
    simp only at hsp;subst hsp
    have hadd : ∀ m : Nat, (⟨b, o, none⟩ : Addr).add m = ⟨b, o + m, none⟩ := fun m => by
      unfold Addr.add
      split
      · rename_i e; rw [e]; rfl
      · rfl
    have hadd2 : ∀ m k : Nat, (⟨b, o + m, none⟩ : Addr).add k = ⟨b, o + m + k, none⟩ := fun m k => by
      unfold Addr.add
      split
      · rename_i e; rw [e]; rfl
      · rfl
    refine ⟨k1, ⟨H, enc, n, _, q2⟩, b, o, rfl, fun j v hv => ?_⟩
    have hj : j < s := by
      have := (List.getElem?_eq_some_iff.1 hv).1
      omega
    have := (k2 j hj).trans hv
    rw [hadd, hadd2] at this;exact rdc_heap this
theorem RdT.sliceE {α : Type} {enc : α → List Value} {Q : α → Prop} {e : TypeId} {s : Nat} (ht : P.underlying t = some (.slice e)) (hs : P.cellsOf e = s) (h0 : 0 < s) (hel : ∀ x, RdT P W e x → ∃ a, x = enc a ∧ Q a) (h : RdT P W t cs) :
    ∃ v, cs = [v] ∧ ∃ l : List α, SlE enc s (heapPH W) v l ∧ (∀ a ∈ l, Q a) ∧ l.length ≤ maxLen := by
  obtain ⟨v, p, c, rfl, els, rfl, hle, hx⟩ := h.slice ht hs h0
  obtain ⟨l, hl, hq⟩ := choose_list (fun i (a : α) => ∀ x, els[i]? = some x → x = enc a ∧ Q a) els.length (fun i hi => by
    obtain ⟨a, h1, h2⟩ := hel els[i] (hx i _ (List.getElem?_eq_getElem hi)).2.1
    exact ⟨a, fun x hx => by rw [List.getElem?_eq_getElem hi] at hx; obtain rfl := Option.some.inj hx; exact ⟨h1, h2⟩⟩)
  have hlen : ∀ i a, l[i]? = some a → (enc a).length = s ∧ Q a ∧ ∃ b o, p = some ⟨b, o, none⟩ ∧ RdN (heapPH W) b (o + i * s) (enc a) := fun i a ha => by
    have hi : i < els.length := by rw [← hl]; exact (List.getElem?_eq_some_iff.1 ha).1
    obtain ⟨e1, e2⟩ := hq i a ha _ (List.getElem?_eq_getElem hi)
    obtain ⟨k1, _, k3⟩ := hx i _ (List.getElem?_eq_getElem hi)
    rw [e1] at k1 k3;exact ⟨k1, e2, k3⟩
  refine ⟨_, rfl, l, ⟨?_, ?_⟩, fun a ha => ?_, by omega⟩
  · clear hq hx hle
    have : ∀ (l : List α), (∀ a ∈ l, (enc a).length = s) → (l.flatMap enc).length = l.length * s := by
      intro l
      induction l with
      | nil => simp
      | cons a l ih =>
        intro hall
        rw [List.flatMap_cons, List.length_append, ih (fun b hb => hall b (by simp [hb])), hall a (by simp), List.length_cons, Nat.add_mul]; omega
    exact this l (fun a ha => by
      obtain ⟨i, hi, e⟩ := List.getElem_of_mem ha
      exact (hlen i a (by rw [List.getElem?_eq_getElem hi, e])).1)
  · rcases Nat.eq_zero_or_pos l.length with hz | hz
    · left; refine ⟨hz, p, c, by rw [← hl, hz]⟩
    · right
      obtain ⟨_, _, b, o, rfl, _⟩ := hlen 0 l[0] (List.getElem?_eq_getElem hz)
      refine ⟨b, o, c, by rw [hl], fun j u hu => ?_⟩
      have hfl : ∀ (l' : List α) (k : Nat), (∀ i a, l'[i]? = some a → (enc a).length = s ∧ RdN (heapPH W) b (o + (k + i) * s) (enc a)) → ∀ j u, (l'.flatMap enc)[j]? = some u → rdc (heapPH W) b (o + k * s + j) = some u := by
        intro l'
        induction l' with
        | nil => intro k _ j u hu; simp at hu
        | cons a l' ih =>
          intro k hall j u hu
          have h1 := hall 0 a rfl
          rw [List.flatMap_cons] at hu
          by_cases hj : j < (enc a).length
          · rw [List.getElem?_append_left hj] at hu
            have := h1.2 j u hu
            rwa [Nat.add_zero] at this
          · rw [List.getElem?_append_right (by omega)] at hu
            have := ih (k + 1) (fun i b' hb => by
              have := hall (i + 1) b' (by simpa using hb)
              rwa [show k + (i + 1) = k + 1 + i from by omega] at this) (j - (enc a).length) u hu
            rw [h1.1] at this hj
            rwa [show o + (k + 1) * s + (j - s) = o + k * s + j from by rw [Nat.add_mul]; omega] at this
      have := hfl l 0 (fun i a ha => by
        obtain ⟨k1, _, b', o', e, k3⟩ := hlen i a ha
        simp only [Option.some.injEq, Addr.mk.injEq, and_true] at e
        obtain ⟨rfl, rfl⟩ := e
        rw [Nat.zero_add]; exact ⟨k1, k3⟩) j u hu
      rwa [Nat.zero_mul, Nat.add_zero] at this
  · obtain ⟨i, hi, e⟩ := List.getElem_of_mem ha
    exact (hlen i a (by rw [List.getElem?_eq_getElem hi, e])).2.1
theorem RdT.ints {e : TypeId} (ht : P.underlying t = some (.slice e)) (he : P.underlying e = some (.int .i64)) (hs : P.cellsOf e = 1) (h : RdT P W t cs) :
    ∃ v, cs = [v] ∧ ∃ l : List Int, IntsAt (heapPH W) v l ∧ (∀ a ∈ l, In64 a) ∧ l.length ≤ maxLen :=
  h.sliceE ht hs (by omega) (fun x hx => hx.i64 he)
end
theorem okWide_agg {P : Program} {w : World} {r : Reach} {base : Nat} {t : TypeId} {v : Value} {fs : Array Field} (ht : P.underlying t = some (.struct fs)) (h : Value.okWide P w r base t v) : ∃ cs, v = .agg cs := by
  simp only [Value.okWide, ht] at h
  obtain ⟨cs, h1, _⟩ := h
  exact ⟨cs, h1⟩
end Go.Eng
namespace Go.Eng
variable {C:Cx} {D:List Deferred} {R H:List PH} {L:Env} {K:List It}
structure RdP (ρ:PH) (b o:Nat) (vs:List Value):Prop where
  rd:RdN ρ b o vs
theorem cellsP {N:Bs} {σ:PH} {b o:Nat} {vs:List Value} (h:RdP σ b o vs) (m:Mem σ R):Cells N R H b o vs:=cellsR h.rd m
theorem rdP_sng {b k:Nat} {xs vs:List Value} {t:TypeId} {fr:Nat × Nat} (h:(xs.drop k).take vs.length=vs):RdP (sng b (.cells xs.toArray t fr)) b k vs:=⟨fun j v hv=>by
  rw [rdc_sng];rw [← h] at hv
  have hlt:=(List.getElem?_eq_some_iff.1 hv).1
  rw [List.length_take] at hlt
  rw [List.getElem?_take_of_lt (by omega),List.getElem?_drop] at hv
  simpa using hv⟩
end Go.Eng
namespace Go.Eng
variable {C:Cx} {D:List Deferred} {R H Hf:List PH} {L:Env} {K:List It} {ps ls:List Nat}
variable {all:Array Oper} {o:Oper} {d i:Nat} {v:Value} {done:List Nat}
structure GWz (C:Cx) (L:Env) (all:Array Oper) (o:Oper) (d:Nat):Prop where
  a:wantE all L o=some true
  b:o.dst=some d
  c:Nat.blt d C.M=true
theorem rsubZ {R0 R:List PH} (h:∀ ρ∈R0,ρ∈R:=by (repeat (first|exact rs_nil|(refine rs_cons ?_ ?_; (focus ((repeat (first|exact .here|apply Mem.there|apply Take.there)); first|done|fail)))|exact fun ρ hρ=>hρ|(intro ρ hρ; repeat (first|exact hρ|refine List.mem_cons_of_mem _ ?_)))); first|done|fail):∀ ρ∈R0,ρ∈R:=h
theorem envZ {k:Nat} {vs cap:List Value} {L:Env} (h:EnvA k vs cap L:=by (repeat (first|exact EnvA.nil EnvI.nil|apply EnvA.cons|apply EnvA.nil|exact EnvI.nil|apply EnvI.cons)); first|done|fail):EnvA k vs cap L:=h
theorem takesZ {H T H':List PH} (h:Takes H T H':=by (repeat (first|exact Takes.nil|(apply Takes.cons; exact (by (repeat (first|exact .here|apply Take.there)); first|done|fail)))); first|done|fail):Takes H T H':=h
theorem putiZ {ps:List Nat} {vs:List Value} {L L':Env} (h:PutI ps vs L L':=by (repeat (first|exact PutI.nil|apply PutI.cons)); first|done|fail):PutI ps vs L L':=h
theorem oneZ {vs:List Value} {p:Value→Prop} (h:∀ v∈vs,p v:=by (repeat (first|exact (fun v hv=>absurd hv List.not_mem_nil)|(refine List.forall_mem_cons.2 ⟨?_,?_⟩; (focus (first|exact rfl|assumption))))); first|done|fail):∀ v∈vs,p v:=h
theorem selZ {H H':List PH} (h:Sel H H':=by (repeat (first|exact Sel.nil|(apply Sel.cons; (focus ((repeat (first|exact .here|apply Mem.there|apply Take.there)); first|done|fail))))); first|done|fail):Sel H H':=h
theorem covZ {L L':Env} (h:Cover L L':=by (repeat (first|exact trivial|refine And.intro rfl ?_)); first|done|fail):Cover L L':=h
theorem pickZ {L L':Env} {ks:List Nat} (h:Pick L ks L':=by (repeat (first|exact Pick.nil|apply Pick.cons rfl)); first|done|fail):Pick L ks L':=h
theorem rdZ {R1 R H:List PH} (h:RdOK R1 R H:=by (repeat (first|exact RdOK.nil|(refine RdOK.consR ?_ ?_; (focus ((repeat (first|exact .here|apply Mem.there|apply Take.there)); first|done|fail)))|(refine RdOK.consH ?_ ?_; (focus ((repeat (first|exact .here|apply Mem.there|apply Take.there)); first|done|fail)))|exact (fun τ hτ=>.inl (by simp [hτ])))); first|done|fail):RdOK R1 R H:=h
theorem memZ {ρ:PH} {H:List PH} (h:Mem ρ H:=by (repeat (first|exact .here|apply Mem.there)); first|done|fail):Mem ρ H:=h
theorem takeZ {ρ:PH} {H H':List PH} (h:Take ρ H H':=by (repeat (first|exact .here|apply Take.there)); first|done|fail):Take ρ H H':=h
theorem AD {rest:List Oper} (h:JK C D R H ((d,v)::L) (.ops all rest::K)) (hq:Quiet C R H L o v:=by (apply EG; exact rfl)) (g:GWz C L all o d:=by exact ⟨rfl,rfl,rfl⟩):JK C D R H L (.ops all (o::rest)::K):=BK hq g.a g.b g.c h
theorem AS {rest:Pl} (h:DJ C D R Hf H ((d,v)::L) all (i::done) ps ls rest K) (ho:all[i]?=some o:=by exact rfl) (hq:Quiet C R H L o v:=by (apply EG; exact rfl)) (g:GWz C L all o d:=by exact ⟨rfl,rfl,rfl⟩) (hin:(ps.all (done.contains ·))=true:=by exact rfl):DJ C D R Hf H L all done ps ls (.q i rest) K:=CA ho hq g.a g.b g.c hin h
theorem EQ {rest:Pl} (h:DJ C D R Hf H ((d,v)::L) all (i::done) (i::ps) ls rest K) (ho:all[i]?=some o:=by exact rfl) (hq:Quiet C R Hf L o v:=by (apply EG; exact rfl)) (g:GWz C L all o d:=by exact ⟨rfl,rfl,rfl⟩):DJ C D R Hf H L all done ps ls (.p i rest) K:=FO ho hq g.a g.b g.c h
theorem AB {rest:List Oper} (h:JK C D R H ((d,v)::L) (.ops all rest::K)) (hq:Quiet C R H L o v:=by (apply DX; exact rfl)) (g:GWz C L all o d:=by exact ⟨rfl,rfl,rfl⟩):JK C D R H L (.ops all (o::rest)::K):=BK hq g.a g.b g.c h
theorem AY {rest:Pl} (h:DJ C D R Hf H ((d,v)::L) all (i::done) ps ls rest K) (ho:all[i]?=some o:=by exact rfl) (hq:Quiet C R H L o v:=by (apply DX; exact rfl)) (g:GWz C L all o d:=by exact ⟨rfl,rfl,rfl⟩) (hin:(ps.all (done.contains ·))=true:=by exact rfl):DJ C D R Hf H L all done ps ls (.q i rest) K:=CA ho hq g.a g.b g.c hin h
theorem AL {rest:List Oper} (h:JK C D R H ((d,v)::L) (.ops all rest::K)) (hq:Quiet C R H L o v:=by (apply CY; exact rfl; exact rfl)) (g:GWz C L all o d:=by exact ⟨rfl,rfl,rfl⟩):JK C D R H L (.ops all (o::rest)::K):=BK hq g.a g.b g.c h
theorem A6 {rest:Pl} (h:DJ C D R Hf H ((d,v)::L) all (i::done) ps ls rest K) (ho:all[i]?=some o:=by exact rfl) (hq:Quiet C R H L o v:=by (apply CY; exact rfl; exact rfl)) (g:GWz C L all o d:=by exact ⟨rfl,rfl,rfl⟩) (hin:(ps.all (done.contains ·))=true:=by exact rfl):DJ C D R Hf H L all done ps ls (.q i rest) K:=CA ho hq g.a g.b g.c hin h
theorem BD {rest:Pl} (h:DJ C D R Hf H ((d,v)::L) all (i::done) (i::ps) ls rest K) (ho:all[i]?=some o:=by exact rfl) (hq:Quiet C R Hf L o v:=by (apply CY; exact rfl; exact rfl)) (g:GWz C L all o d:=by exact ⟨rfl,rfl,rfl⟩):DJ C D R Hf H L all done ps ls (.p i rest) K:=FO ho hq g.a g.b g.c h
theorem AF {rest:List Oper} (h:JK C D R H ((d,v)::L) (.ops all rest::K)) (hq:Quiet C R H L o v:=by (apply EH; exact rfl; exact rfl; (first|exact cell_own (by (repeat (first|exact .here|apply Mem.there)); first|done|fail) rfl|exact cellR (by assumption) (by (repeat (first|exact .here|apply Mem.there)); first|done|fail)|exact cellH (by assumption) (by (repeat (first|exact .here|apply Mem.there)); first|done|fail)|exact cell_ints (by (repeat (first|exact .here|apply Mem.there)); first|done|fail) (by omega)|exact cell_bools (by assumption) (by (repeat (first|exact .here|apply Mem.there)); first|done|fail)|exact cell_intsR (by (repeat (first|exact .here|apply Mem.there)); first|done|fail) (by omega)|exact cell_boolsR (by assumption) (by (repeat (first|exact .here|apply Mem.there)); first|done|fail)))) (g:GWz C L all o d:=by exact ⟨rfl,rfl,rfl⟩):JK C D R H L (.ops all (o::rest)::K):=BK hq g.a g.b g.c h
theorem AU {rest:Pl} (h:DJ C D R Hf H ((d,v)::L) all (i::done) ps ls rest K) (ho:all[i]?=some o:=by exact rfl) (hq:Quiet C R H L o v:=by (apply EH; exact rfl; exact rfl; (first|exact cell_own (by (repeat (first|exact .here|apply Mem.there)); first|done|fail) rfl|exact cellR (by assumption) (by (repeat (first|exact .here|apply Mem.there)); first|done|fail)|exact cellH (by assumption) (by (repeat (first|exact .here|apply Mem.there)); first|done|fail)|exact cell_ints (by (repeat (first|exact .here|apply Mem.there)); first|done|fail) (by omega)|exact cell_bools (by assumption) (by (repeat (first|exact .here|apply Mem.there)); first|done|fail)|exact cell_intsR (by (repeat (first|exact .here|apply Mem.there)); first|done|fail) (by omega)|exact cell_boolsR (by assumption) (by (repeat (first|exact .here|apply Mem.there)); first|done|fail)))) (g:GWz C L all o d:=by exact ⟨rfl,rfl,rfl⟩) (hin:(ps.all (done.contains ·))=true:=by exact rfl):DJ C D R Hf H L all done ps ls (.q i rest) K:=CA ho hq g.a g.b g.c hin h
theorem FU {rest:Pl} (h:DJ C D R Hf H ((d,v)::L) all (i::done) (i::ps) ls rest K) (ho:all[i]?=some o:=by exact rfl) (hq:Quiet C R Hf L o v:=by (apply EH; exact rfl; exact rfl; (first|exact cell_own (by (repeat (first|exact .here|apply Mem.there)); first|done|fail) rfl|exact cellR (by assumption) (by (repeat (first|exact .here|apply Mem.there)); first|done|fail)|exact cellH (by assumption) (by (repeat (first|exact .here|apply Mem.there)); first|done|fail)|exact cell_ints (by (repeat (first|exact .here|apply Mem.there)); first|done|fail) (by omega)|exact cell_bools (by assumption) (by (repeat (first|exact .here|apply Mem.there)); first|done|fail)|exact cell_intsR (by (repeat (first|exact .here|apply Mem.there)); first|done|fail) (by omega)|exact cell_boolsR (by assumption) (by (repeat (first|exact .here|apply Mem.there)); first|done|fail)))) (g:GWz C L all o d:=by exact ⟨rfl,rfl,rfl⟩):DJ C D R Hf H L all done ps ls (.p i rest) K:=FO ho hq g.a g.b g.c h
theorem AG {rest:List Oper} (h:JK C D R H ((d,v)::L) (.ops all rest::K)) (hq:Quiet C R H L o v:=by (apply EJ; exact rfl; exact rfl)) (g:GWz C L all o d:=by exact ⟨rfl,rfl,rfl⟩):JK C D R H L (.ops all (o::rest)::K):=BK hq g.a g.b g.c h
theorem AX {rest:Pl} (h:DJ C D R Hf H ((d,v)::L) all (i::done) ps ls rest K) (ho:all[i]?=some o:=by exact rfl) (hq:Quiet C R H L o v:=by (apply EJ; exact rfl; exact rfl)) (g:GWz C L all o d:=by exact ⟨rfl,rfl,rfl⟩) (hin:(ps.all (done.contains ·))=true:=by exact rfl):DJ C D R Hf H L all done ps ls (.q i rest) K:=CA ho hq g.a g.b g.c hin h
theorem FV {rest:Pl} (h:DJ C D R Hf H ((d,v)::L) all (i::done) (i::ps) ls rest K) (ho:all[i]?=some o:=by exact rfl) (hq:Quiet C R Hf L o v:=by (apply EJ; exact rfl; exact rfl)) (g:GWz C L all o d:=by exact ⟨rfl,rfl,rfl⟩):DJ C D R Hf H L all done ps ls (.p i rest) K:=FO ho hq g.a g.b g.c h
theorem FW {rest:List Oper} (h:JK C D R H ((d,v)::L) (.ops all rest::K)) (hq:Quiet C R H L o v:=by (apply E9; exact rfl; exact rfl)) (g:GWz C L all o d:=by exact ⟨rfl,rfl,rfl⟩):JK C D R H L (.ops all (o::rest)::K):=BK hq g.a g.b g.c h
theorem DR {rest:Pl} (h:DJ C D R Hf H ((d,v)::L) all (i::done) ps ls rest K) (ho:all[i]?=some o:=by exact rfl) (hq:Quiet C R H L o v:=by (apply E9; exact rfl; exact rfl)) (g:GWz C L all o d:=by exact ⟨rfl,rfl,rfl⟩) (hin:(ps.all (done.contains ·))=true:=by exact rfl):DJ C D R Hf H L all done ps ls (.q i rest) K:=CA ho hq g.a g.b g.c hin h
theorem CE {rest:List Oper} (h:JK C D R H ((d,v)::L) (.ops all rest::K)) (hq:Quiet C R H L o v:=by (apply EI; exact rfl; exact rfl)) (g:GWz C L all o d:=by exact ⟨rfl,rfl,rfl⟩):JK C D R H L (.ops all (o::rest)::K):=BK hq g.a g.b g.c h
theorem DI {rest:Pl} (h:DJ C D R Hf H ((d,v)::L) all (i::done) ps ls rest K) (ho:all[i]?=some o:=by exact rfl) (hq:Quiet C R H L o v:=by (apply EI; exact rfl; exact rfl)) (g:GWz C L all o d:=by exact ⟨rfl,rfl,rfl⟩) (hin:(ps.all (done.contains ·))=true:=by exact rfl):DJ C D R Hf H L all done ps ls (.q i rest) K:=CA ho hq g.a g.b g.c hin h
theorem zp_fld {rest:Pl} (h:DJ C D R Hf H ((d,v)::L) all (i::done) (i::ps) ls rest K) (ho:all[i]?=some o:=by exact rfl) (hq:Quiet C R Hf L o v:=by (apply EI; exact rfl; exact rfl)) (g:GWz C L all o d:=by exact ⟨rfl,rfl,rfl⟩):DJ C D R Hf H L all done ps ls (.p i rest) K:=FO ho hq g.a g.b g.c h
theorem DA {rest:List Oper} (h:JK C D R H ((d,v)::L) (.ops all rest::K)) (hq:Quiet C R H L o v:=by (apply q_idx0; exact rfl; exact rfl; exact rfl; exact rfl; omega)) (g:GWz C L all o d:=by exact ⟨rfl,rfl,rfl⟩):JK C D R H L (.ops all (o::rest)::K):=BK hq g.a g.b g.c h
theorem ER {rest:List Oper} (h:JK C D R H ((d,v)::L) (.ops all rest::K)) (hq:Quiet C R H L o v:=by (apply E7; exact rfl; exact rfl; exact rfl; exact rfl; omega)) (g:GWz C L all o d:=by exact ⟨rfl,rfl,rfl⟩):JK C D R H L (.ops all (o::rest)::K):=BK hq g.a g.b g.c h
theorem B6 {rest:List Oper} (h:JK C D R H ((d,v)::L) (.ops all rest::K)) (hq:Quiet C R H L o v:=by (apply E8; exact rfl; exact rfl; exact rfl; exact rfl; omega)) (g:GWz C L all o d:=by exact ⟨rfl,rfl,rfl⟩):JK C D R H L (.ops all (o::rest)::K):=BK hq g.a g.b g.c h
theorem CI {rest:Pl} (h:DJ C D R Hf H ((d,v)::L) all (i::done) ps ls rest K) (ho:all[i]?=some o:=by exact rfl) (hq:Quiet C R H L o v:=by (apply E8; exact rfl; exact rfl; exact rfl; exact rfl; omega)) (g:GWz C L all o d:=by exact ⟨rfl,rfl,rfl⟩) (hin:(ps.all (done.contains ·))=true:=by exact rfl):DJ C D R Hf H L all done ps ls (.q i rest) K:=CA ho hq g.a g.b g.c hin h
theorem FX {rest:List Oper} (h:JK C D R H ((d,v)::L) (.ops all rest::K)) (hq:Quiet C R H L o v:=by (apply FA; exact rfl; exact rfl; exact rfl; exact rfl; omega)) (g:GWz C L all o d:=by exact ⟨rfl,rfl,rfl⟩):JK C D R H L (.ops all (o::rest)::K):=BK hq g.a g.b g.c h
theorem DB {rest:Pl} (h:DJ C D R Hf H ((d,v)::L) all (i::done) ps ls rest K) (ho:all[i]?=some o:=by exact rfl) (hq:Quiet C R H L o v:=by (apply FA; exact rfl; exact rfl; exact rfl; exact rfl; omega)) (g:GWz C L all o d:=by exact ⟨rfl,rfl,rfl⟩) (hin:(ps.all (done.contains ·))=true:=by exact rfl):DJ C D R Hf H L all done ps ls (.q i rest) K:=CA ho hq g.a g.b g.c hin h
theorem AQ {rest:List Oper} (h:JK C D R H ((d,v)::L) (.ops all rest::K)) (hq:Quiet C R H L o v:=by (apply DY; exact rfl; exact rfl)) (g:GWz C L all o d:=by exact ⟨rfl,rfl,rfl⟩):JK C D R H L (.ops all (o::rest)::K):=BK hq g.a g.b g.c h
theorem BX {rest:Pl} (h:DJ C D R Hf H ((d,v)::L) all (i::done) ps ls rest K) (ho:all[i]?=some o:=by exact rfl) (hq:Quiet C R H L o v:=by (apply DY; exact rfl; exact rfl)) (g:GWz C L all o d:=by exact ⟨rfl,rfl,rfl⟩) (hin:(ps.all (done.contains ·))=true:=by exact rfl):DJ C D R Hf H L all done ps ls (.q i rest) K:=CA ho hq g.a g.b g.c hin h
theorem AN {rest:List Oper} (h:JK C D R H ((d,v)::L) (.ops all rest::K)) (hq:Quiet C R H L o v:=by (apply DZ; exact rfl; exact rfl)) (g:GWz C L all o d:=by exact ⟨rfl,rfl,rfl⟩):JK C D R H L (.ops all (o::rest)::K):=BK hq g.a g.b g.c h
theorem BY {rest:Pl} (h:DJ C D R Hf H ((d,v)::L) all (i::done) ps ls rest K) (ho:all[i]?=some o:=by exact rfl) (hq:Quiet C R H L o v:=by (apply DZ; exact rfl; exact rfl)) (g:GWz C L all o d:=by exact ⟨rfl,rfl,rfl⟩) (hin:(ps.all (done.contains ·))=true:=by exact rfl):DJ C D R Hf H L all done ps ls (.q i rest) K:=CA ho hq g.a g.b g.c hin h
theorem BE {rest:List Oper} (h:JK C D R H ((d,v)::L) (.ops all rest::K)) (hq:Quiet C R H L o v:=by (apply q_len; exact rfl; exact rfl)) (g:GWz C L all o d:=by exact ⟨rfl,rfl,rfl⟩):JK C D R H L (.ops all (o::rest)::K):=BK hq g.a g.b g.c h
theorem CL {rest:Pl} (h:DJ C D R Hf H ((d,v)::L) all (i::done) ps ls rest K) (ho:all[i]?=some o:=by exact rfl) (hq:Quiet C R H L o v:=by (apply q_len; exact rfl; exact rfl)) (g:GWz C L all o d:=by exact ⟨rfl,rfl,rfl⟩) (hin:(ps.all (done.contains ·))=true:=by exact rfl):DJ C D R Hf H L all done ps ls (.q i rest) K:=CA ho hq g.a g.b g.c hin h
theorem A4 {rest:List Oper} (h:JK C D R H ((d,v)::L) (.ops all rest::K)) (hq:Quiet C R H L o v:=by (apply q_not; exact rfl)) (g:GWz C L all o d:=by exact ⟨rfl,rfl,rfl⟩):JK C D R H L (.ops all (o::rest)::K):=BK hq g.a g.b g.c h
theorem CQ {rest:Pl} (h:DJ C D R Hf H ((d,v)::L) all (i::done) ps ls rest K) (ho:all[i]?=some o:=by exact rfl) (hq:Quiet C R H L o v:=by (apply q_not; exact rfl)) (g:GWz C L all o d:=by exact ⟨rfl,rfl,rfl⟩) (hin:(ps.all (done.contains ·))=true:=by exact rfl):DJ C D R Hf H L all done ps ls (.q i rest) K:=CA ho hq g.a g.b g.c hin h
theorem BJ {rest:List Oper} (h:JK C D R H ((d,v)::L) (.ops all rest::K)) (hq:Quiet C R H L o v:=by (apply C4; exact rfl)) (g:GWz C L all o d:=by exact ⟨rfl,rfl,rfl⟩):JK C D R H L (.ops all (o::rest)::K):=BK hq g.a g.b g.c h
theorem A8 {rest:Pl} (h:DJ C D R Hf H ((d,v)::L) all (i::done) ps ls rest K) (ho:all[i]?=some o:=by exact rfl) (hq:Quiet C R H L o v:=by (apply C4; exact rfl)) (g:GWz C L all o d:=by exact ⟨rfl,rfl,rfl⟩) (hin:(ps.all (done.contains ·))=true:=by exact rfl):DJ C D R Hf H L all done ps ls (.q i rest) K:=CA ho hq g.a g.b g.c hin h
theorem BU {rest:List Oper} (h:JK C D R H ((d,v)::L) (.ops all rest::K)) (hq:Quiet C R H L o v:=by (apply q_inc; exact rfl; exact rfl; omega)) (g:GWz C L all o d:=by exact ⟨rfl,rfl,rfl⟩):JK C D R H L (.ops all (o::rest)::K):=BK hq g.a g.b g.c h
theorem BZ {rest:List Oper} (h:JK C D R H ((d,v)::L) (.ops all rest::K)) (hq:Quiet C R H L o v:=by (apply q_lt; exact rfl; exact rfl; omega)) (g:GWz C L all o d:=by exact ⟨rfl,rfl,rfl⟩):JK C D R H L (.ops all (o::rest)::K):=BK hq g.a g.b g.c h
theorem zd_lt {rest:Pl} (h:DJ C D R Hf H ((d,v)::L) all (i::done) ps ls rest K) (ho:all[i]?=some o:=by exact rfl) (hq:Quiet C R H L o v:=by (apply q_lt; exact rfl; exact rfl; omega)) (g:GWz C L all o d:=by exact ⟨rfl,rfl,rfl⟩) (hin:(ps.all (done.contains ·))=true:=by exact rfl):DJ C D R Hf H L all done ps ls (.q i rest) K:=CA ho hq g.a g.b g.c hin h
theorem BP {rest:List Oper} (h:JK C D R H ((d,v)::L) (.ops all rest::K)) (hq:Quiet C R H L o v:=by (apply q_ltF; exact rfl; exact rfl; omega)) (g:GWz C L all o d:=by exact ⟨rfl,rfl,rfl⟩):JK C D R H L (.ops all (o::rest)::K):=BK hq g.a g.b g.c h
theorem ES {rest:Pl} (h:DJ C D R Hf H ((d,v)::L) all (i::done) ps ls rest K) (ho:all[i]?=some o:=by exact rfl) (hq:Quiet C R H L o v:=by (apply q_ltF; exact rfl; exact rfl; omega)) (g:GWz C L all o d:=by exact ⟨rfl,rfl,rfl⟩) (hin:(ps.all (done.contains ·))=true:=by exact rfl):DJ C D R Hf H L all done ps ls (.q i rest) K:=CA ho hq g.a g.b g.c hin h
theorem B7 {rest:List Oper} (h:JK C D R H ((d,v)::L) (.ops all rest::K)) (hq:Quiet C R H L o v:=by (apply q_eq; exact rfl; exact rfl; omega)) (g:GWz C L all o d:=by exact ⟨rfl,rfl,rfl⟩):JK C D R H L (.ops all (o::rest)::K):=BK hq g.a g.b g.c h
theorem ET {rest:Pl} (h:DJ C D R Hf H ((d,v)::L) all (i::done) ps ls rest K) (ho:all[i]?=some o:=by exact rfl) (hq:Quiet C R H L o v:=by (apply q_eq; exact rfl; exact rfl; omega)) (g:GWz C L all o d:=by exact ⟨rfl,rfl,rfl⟩) (hin:(ps.all (done.contains ·))=true:=by exact rfl):DJ C D R Hf H L all done ps ls (.q i rest) K:=CA ho hq g.a g.b g.c hin h
theorem CK {rest:List Oper} (h:JK C D R H ((d,v)::L) (.ops all rest::K)) (hq:Quiet C R H L o v:=by (apply q_eqF; exact rfl; exact rfl; omega)) (g:GWz C L all o d:=by exact ⟨rfl,rfl,rfl⟩):JK C D R H L (.ops all (o::rest)::K):=BK hq g.a g.b g.c h
theorem EU {rest:Pl} (h:DJ C D R Hf H ((d,v)::L) all (i::done) ps ls rest K) (ho:all[i]?=some o:=by exact rfl) (hq:Quiet C R H L o v:=by (apply q_eqF; exact rfl; exact rfl; omega)) (g:GWz C L all o d:=by exact ⟨rfl,rfl,rfl⟩) (hin:(ps.all (done.contains ·))=true:=by exact rfl):DJ C D R Hf H L all done ps ls (.q i rest) K:=CA ho hq g.a g.b g.c hin h
theorem DS {rest:List Oper} (h:JK C D R H ((d,v)::L) (.ops all rest::K)) (hq:Quiet C R H L o v:=by (apply q_ne; exact rfl; exact rfl; omega)) (g:GWz C L all o d:=by exact ⟨rfl,rfl,rfl⟩):JK C D R H L (.ops all (o::rest)::K):=BK hq g.a g.b g.c h
theorem BA {rest:List Oper} (h:JK C D R H ((d,v)::L) (.ops all rest::K)) (hq:Quiet C R H L o v:=by (apply q_neF; exact rfl; exact rfl; omega)) (g:GWz C L all o d:=by exact ⟨rfl,rfl,rfl⟩):JK C D R H L (.ops all (o::rest)::K):=BK hq g.a g.b g.c h
theorem FC {rest:Pl} (h:DJ C D R Hf H ((d,v)::L) all (i::done) ps ls rest K) (ho:all[i]?=some o:=by exact rfl) (hq:Quiet C R H L o v:=by (apply q_neF; exact rfl; exact rfl; omega)) (g:GWz C L all o d:=by exact ⟨rfl,rfl,rfl⟩) (hin:(ps.all (done.contains ·))=true:=by exact rfl):DJ C D R Hf H L all done ps ls (.q i rest) K:=CA ho hq g.a g.b g.c hin h
theorem DT {rest:List Oper} (h:JK C D R H ((d,v)::L) (.ops all rest::K)) (hq:Quiet C R H L o v:=by (apply q_gt; exact rfl; exact rfl; omega)) (g:GWz C L all o d:=by exact ⟨rfl,rfl,rfl⟩):JK C D R H L (.ops all (o::rest)::K):=BK hq g.a g.b g.c h
theorem E4 {rest:Pl} (h:DJ C D R Hf H ((d,v)::L) all (i::done) ps ls rest K) (ho:all[i]?=some o:=by exact rfl) (hq:Quiet C R H L o v:=by (apply q_gt; exact rfl; exact rfl; omega)) (g:GWz C L all o d:=by exact ⟨rfl,rfl,rfl⟩) (hin:(ps.all (done.contains ·))=true:=by exact rfl):DJ C D R Hf H L all done ps ls (.q i rest) K:=CA ho hq g.a g.b g.c hin h
theorem BV {rest:List Oper} (h:JK C D R H ((d,v)::L) (.ops all rest::K)) (hq:Quiet C R H L o v:=by (apply q_gtF; exact rfl; exact rfl; omega)) (g:GWz C L all o d:=by exact ⟨rfl,rfl,rfl⟩):JK C D R H L (.ops all (o::rest)::K):=BK hq g.a g.b g.c h
theorem DL {rest:Pl} (h:DJ C D R Hf H ((d,v)::L) all (i::done) ps ls rest K) (ho:all[i]?=some o:=by exact rfl) (hq:Quiet C R H L o v:=by (apply q_gtF; exact rfl; exact rfl; omega)) (g:GWz C L all o d:=by exact ⟨rfl,rfl,rfl⟩) (hin:(ps.all (done.contains ·))=true:=by exact rfl):DJ C D R Hf H L all done ps ls (.q i rest) K:=CA ho hq g.a g.b g.c hin h
theorem EB {rest:List Oper} (h:JK C D R H ((d,v)::L) (.ops all rest::K)) (hq:Quiet C R H L o v:=by (apply q_le; exact rfl; exact rfl; omega)) (g:GWz C L all o d:=by exact ⟨rfl,rfl,rfl⟩):JK C D R H L (.ops all (o::rest)::K):=BK hq g.a g.b g.c h
theorem zd_le {rest:Pl} (h:DJ C D R Hf H ((d,v)::L) all (i::done) ps ls rest K) (ho:all[i]?=some o:=by exact rfl) (hq:Quiet C R H L o v:=by (apply q_le; exact rfl; exact rfl; omega)) (g:GWz C L all o d:=by exact ⟨rfl,rfl,rfl⟩) (hin:(ps.all (done.contains ·))=true:=by exact rfl):DJ C D R Hf H L all done ps ls (.q i rest) K:=CA ho hq g.a g.b g.c hin h
theorem FD {rest:List Oper} (h:JK C D R H ((d,v)::L) (.ops all rest::K)) (hq:Quiet C R H L o v:=by (apply q_leF; exact rfl; exact rfl; omega)) (g:GWz C L all o d:=by exact ⟨rfl,rfl,rfl⟩):JK C D R H L (.ops all (o::rest)::K):=BK hq g.a g.b g.c h
theorem zd_leF {rest:Pl} (h:DJ C D R Hf H ((d,v)::L) all (i::done) ps ls rest K) (ho:all[i]?=some o:=by exact rfl) (hq:Quiet C R H L o v:=by (apply q_leF; exact rfl; exact rfl; omega)) (g:GWz C L all o d:=by exact ⟨rfl,rfl,rfl⟩) (hin:(ps.all (done.contains ·))=true:=by exact rfl):DJ C D R Hf H L all done ps ls (.q i rest) K:=CA ho hq g.a g.b g.c hin h
theorem C3 {rest:List Oper} (h:JK C D R H ((d,v)::L) (.ops all rest::K)) (hq:Quiet C R H L o v:=by (apply q_ge; exact rfl; exact rfl; omega)) (g:GWz C L all o d:=by exact ⟨rfl,rfl,rfl⟩):JK C D R H L (.ops all (o::rest)::K):=BK hq g.a g.b g.c h
theorem D5 {rest:List Oper} (h:JK C D R H ((d,v)::L) (.ops all rest::K)) (hq:Quiet C R H L o v:=by (apply q_geF; exact rfl; exact rfl; omega)) (g:GWz C L all o d:=by exact ⟨rfl,rfl,rfl⟩):JK C D R H L (.ops all (o::rest)::K):=BK hq g.a g.b g.c h
theorem BR {rest:List Oper} (h:JK C D R H ((d,v)::L) (.ops all rest::K)) (hq:Quiet C R H L o v:=by (apply DH; exact rfl; exact rfl; omega; omega)) (g:GWz C L all o d:=by exact ⟨rfl,rfl,rfl⟩):JK C D R H L (.ops all (o::rest)::K):=BK hq g.a g.b g.c h
theorem CO {rest:Pl} (h:DJ C D R Hf H ((d,v)::L) all (i::done) ps ls rest K) (ho:all[i]?=some o:=by exact rfl) (hq:Quiet C R H L o v:=by (apply DH; exact rfl; exact rfl; omega; omega)) (g:GWz C L all o d:=by exact ⟨rfl,rfl,rfl⟩) (hin:(ps.all (done.contains ·))=true:=by exact rfl):DJ C D R Hf H L all done ps ls (.q i rest) K:=CA ho hq g.a g.b g.c hin h
theorem CH {rest:List Oper} (h:JK C D R H ((d,v)::L) (.ops all rest::K)) (hq:Quiet C R H L o v:=by (apply FJ; exact rfl; exact rfl; exact ⟨by omega,by omega⟩)) (g:GWz C L all o d:=by exact ⟨rfl,rfl,rfl⟩):JK C D R H L (.ops all (o::rest)::K):=BK hq g.a g.b g.c h
theorem EV {rest:Pl} (h:DJ C D R Hf H ((d,v)::L) all (i::done) ps ls rest K) (ho:all[i]?=some o:=by exact rfl) (hq:Quiet C R H L o v:=by (apply FJ; exact rfl; exact rfl; exact ⟨by omega,by omega⟩)) (g:GWz C L all o d:=by exact ⟨rfl,rfl,rfl⟩) (hin:(ps.all (done.contains ·))=true:=by exact rfl):DJ C D R Hf H L all done ps ls (.q i rest) K:=CA ho hq g.a g.b g.c hin h
theorem D6 {rest:List Oper} (h:JK C D R H ((d,v)::L) (.ops all rest::K)) (hq:Quiet C R H L o v:=by (apply FL; exact rfl; exact rfl; exact ⟨by omega,by omega⟩)) (g:GWz C L all o d:=by exact ⟨rfl,rfl,rfl⟩):JK C D R H L (.ops all (o::rest)::K):=BK hq g.a g.b g.c h
theorem FE {rest:Pl} (h:DJ C D R Hf H ((d,v)::L) all (i::done) ps ls rest K) (ho:all[i]?=some o:=by exact rfl) (hq:Quiet C R H L o v:=by (apply FL; exact rfl; exact rfl; exact ⟨by omega,by omega⟩)) (g:GWz C L all o d:=by exact ⟨rfl,rfl,rfl⟩) (hin:(ps.all (done.contains ·))=true:=by exact rfl):DJ C D R Hf H L all done ps ls (.q i rest) K:=CA ho hq g.a g.b g.c hin h
theorem D7 {rest:List Oper} (h:JK C D R H ((d,v)::L) (.ops all rest::K)) (hq:Quiet C R H L o v:=by (apply q_mul; exact rfl; exact rfl; exact ⟨by omega,by omega⟩)) (g:GWz C L all o d:=by exact ⟨rfl,rfl,rfl⟩):JK C D R H L (.ops all (o::rest)::K):=BK hq g.a g.b g.c h
theorem zd_mul {rest:Pl} (h:DJ C D R Hf H ((d,v)::L) all (i::done) ps ls rest K) (ho:all[i]?=some o:=by exact rfl) (hq:Quiet C R H L o v:=by (apply q_mul; exact rfl; exact rfl; exact ⟨by omega,by omega⟩)) (g:GWz C L all o d:=by exact ⟨rfl,rfl,rfl⟩) (hin:(ps.all (done.contains ·))=true:=by exact rfl):DJ C D R Hf H L all done ps ls (.q i rest) K:=CA ho hq g.a g.b g.c hin h
theorem FF {rest:List Oper} (h:JK C D R H ((d,v)::L) (.ops all rest::K)) (hq:Quiet C R H L o v:=by (apply q_quo; exact rfl; exact rfl; omega; omega; omega)) (g:GWz C L all o d:=by exact ⟨rfl,rfl,rfl⟩):JK C D R H L (.ops all (o::rest)::K):=BK hq g.a g.b g.c h
theorem AR {rest:List Oper} (h:JK C D R H ((d,v)::L) (.ops all rest::K)) (hq:Quiet C R H L o v:=by (apply DP; exact rfl; exact rfl; (first|(exact cells_own (by (repeat (first|exact .here|apply Mem.there)); first|done|fail); exact rfl)|(exact cellsR (by assumption) (by (repeat (first|exact .here|apply Mem.there)); first|done|fail); exact rfl)|(exact cellsH (by assumption) (by (repeat (first|exact .here|apply Mem.there)); first|done|fail); exact rfl)|(exact cellsP (by assumption) (by (repeat (first|exact .here|apply Mem.there)); first|done|fail); exact rfl)))) (g:GWz C L all o d:=by exact ⟨rfl,rfl,rfl⟩):JK C D R H L (.ops all (o::rest)::K):=BK hq g.a g.b g.c h
theorem BO {rest:Pl} (h:DJ C D R Hf H ((d,v)::L) all (i::done) ps ls rest K) (ho:all[i]?=some o:=by exact rfl) (hq:Quiet C R H L o v:=by (apply DP; exact rfl; exact rfl; (first|(exact cells_own (by (repeat (first|exact .here|apply Mem.there)); first|done|fail); exact rfl)|(exact cellsR (by assumption) (by (repeat (first|exact .here|apply Mem.there)); first|done|fail); exact rfl)|(exact cellsH (by assumption) (by (repeat (first|exact .here|apply Mem.there)); first|done|fail); exact rfl)|(exact cellsP (by assumption) (by (repeat (first|exact .here|apply Mem.there)); first|done|fail); exact rfl)))) (g:GWz C L all o d:=by exact ⟨rfl,rfl,rfl⟩) (hin:(ps.all (done.contains ·))=true:=by exact rfl):DJ C D R Hf H L all done ps ls (.q i rest) K:=CA ho hq g.a g.b g.c hin h
theorem E5 {rest:Pl} (h:DJ C D R Hf H ((d,v)::L) all (i::done) (i::ps) ls rest K) (ho:all[i]?=some o:=by exact rfl) (hq:Quiet C R Hf L o v:=by (apply DP; exact rfl; exact rfl; (first|(exact cells_own (by (repeat (first|exact .here|apply Mem.there)); first|done|fail); exact rfl)|(exact cellsR (by assumption) (by (repeat (first|exact .here|apply Mem.there)); first|done|fail); exact rfl)|(exact cellsH (by assumption) (by (repeat (first|exact .here|apply Mem.there)); first|done|fail); exact rfl)|(exact cellsP (by assumption) (by (repeat (first|exact .here|apply Mem.there)); first|done|fail); exact rfl)))) (g:GWz C L all o d:=by exact ⟨rfl,rfl,rfl⟩):DJ C D R Hf H L all done ps ls (.p i rest) K:=FO ho hq g.a g.b g.c h
theorem FG {rest:List Oper} (h:JK C D R H ((d,v)::L) (.ops all rest::K)) (hq:Quiet C R H L o v:=by (apply q_min; exact rfl; exact rfl)) (g:GWz C L all o d:=by exact ⟨rfl,rfl,rfl⟩):JK C D R H L (.ops all (o::rest)::K):=BK hq g.a g.b g.c h
theorem zd_min {rest:Pl} (h:DJ C D R Hf H ((d,v)::L) all (i::done) ps ls rest K) (ho:all[i]?=some o:=by exact rfl) (hq:Quiet C R H L o v:=by (apply q_min; exact rfl; exact rfl)) (g:GWz C L all o d:=by exact ⟨rfl,rfl,rfl⟩) (hin:(ps.all (done.contains ·))=true:=by exact rfl):DJ C D R Hf H L all done ps ls (.q i rest) K:=CA ho hq g.a g.b g.c hin h
theorem FH {rest:List Oper} (h:JK C D R H ((d,v)::L) (.ops all rest::K)) (hq:Quiet C R H L o v:=by (apply q_max; exact rfl; exact rfl)) (g:GWz C L all o d:=by exact ⟨rfl,rfl,rfl⟩):JK C D R H L (.ops all (o::rest)::K):=BK hq g.a g.b g.c h
theorem zd_max {rest:Pl} (h:DJ C D R Hf H ((d,v)::L) all (i::done) ps ls rest K) (ho:all[i]?=some o:=by exact rfl) (hq:Quiet C R H L o v:=by (apply q_max; exact rfl; exact rfl)) (g:GWz C L all o d:=by exact ⟨rfl,rfl,rfl⟩) (hin:(ps.all (done.contains ·))=true:=by exact rfl):DJ C D R Hf H L all done ps ls (.q i rest) K:=CA ho hq g.a g.b g.c hin h
theorem BN {rest:List Oper} (h:JK C D R H ((d,v)::L) (.ops all rest::K)) (hq:Quiet C R H L o v:=by (apply D9; exact rfl; exact rfl)) (g:GWz C L all o d:=by exact ⟨rfl,rfl,rfl⟩):JK C D R H L (.ops all (o::rest)::K):=BK hq g.a g.b g.c h
theorem DM {rest:List Oper} (h:JK C D R H ((d,v)::L) (.ops all rest::K)) (hq:Quiet C R H L o v:=by (apply E3; exact rfl; exact rfl; exact rfl)) (g:GWz C L all o d:=by exact ⟨rfl,rfl,rfl⟩):JK C D R H L (.ops all (o::rest)::K):=BK hq g.a g.b g.c h
theorem E6 {rest:Pl} (h:DJ C D R Hf H ((d,v)::L) all (i::done) ps ls rest K) (ho:all[i]?=some o:=by exact rfl) (hq:Quiet C R H L o v:=by (apply FQ; exact rfl; exact rfl; exact rfl; exact rfl; omega)) (g:GWz C L all o d:=by exact ⟨rfl,rfl,rfl⟩) (hin:(ps.all (done.contains ·))=true:=by exact rfl):DJ C D R Hf H L all done ps ls (.q i rest) K:=CA ho hq g.a g.b g.c hin h
theorem CB {rest:List Oper} (h:JK C D R H ((d,v)::L) (.ops all rest::K)) (hq:Quiet C R H L o v:=by (apply EN; exact rfl; exact rfl; exact (by (repeat (first|exact Bld.nil|apply Bld.put rfl rfl rfl|apply Bld.keep rfl)); first|done|fail))) (g:GWz C L all o d:=by exact ⟨rfl,rfl,rfl⟩):JK C D R H L (.ops all (o::rest)::K):=BK hq g.a g.b g.c h
theorem DC {rest:Pl} (h:DJ C D R Hf H ((d,v)::L) all (i::done) ps ls rest K) (ho:all[i]?=some o:=by exact rfl) (hq:Quiet C R H L o v:=by (apply EN; exact rfl; exact rfl; exact (by (repeat (first|exact Bld.nil|apply Bld.put rfl rfl rfl|apply Bld.keep rfl)); first|done|fail))) (g:GWz C L all o d:=by exact ⟨rfl,rfl,rfl⟩) (hin:(ps.all (done.contains ·))=true:=by exact rfl):DJ C D R Hf H L all done ps ls (.q i rest) K:=CA ho hq g.a g.b g.c hin h
theorem A3 {rest:List Oper} {post:Value→List PH→Prop} (h:∀ u H',post u H'→JK C D R H' ((d,u)::L) (.ops all rest::K)) (hl:Loud C R H L o post:=by (apply C5; exact rfl)) (g:GWz C L all o d:=by exact ⟨rfl,rfl,rfl⟩):JK C D R H L (.ops all (o::rest)::K):=BG hl g.a g.b g.c h
theorem CR {rest:Pl} {post:Value→List PH→Prop} (h:∀ v H',post v H'→DJ C D R Hf H' ((d,v)::L) all (i::done) ps (i::ls) rest K) (ho:all[i]?=some o:=by exact rfl) (hl:Loud C R H L o post:=by (apply C5; exact rfl)) (g:GWz C L all o d:=by exact ⟨rfl,rfl,rfl⟩) (hsub:∀ v H',post v H'→∀ w,Sat C.N R H' w→Sat C.N R H w:=by (rintro _ _ ⟨b,rfl,rfl⟩ w hw; exact hw.tail)):ActOK C D R Hf H L all done ps ls i .e rest K:=a_e ho hl g.a g.b g.c hsub h
theorem C1 {rest:Pl} {post:Value→List PH→Prop} (h:∀ v H',post v H'→DJ C D R Hf H' ((d,v)::L) all (i::done) ps (i::ls) rest K) (ho:all[i]?=some o:=by exact rfl) (hl:Loud C R H L o post:=by (apply C5; exact rfl)) (g:GWz C L all o d:=by exact ⟨rfl,rfl,rfl⟩) (hsub:∀ v H',post v H'→∀ w,Sat C.N R H' w→Sat C.N R H w:=by (rintro _ _ ⟨b,rfl,rfl⟩ w hw; exact hw.tail)):DJ C D R Hf H L all done ps ls (.l i .e rest) K:=B9 (a_e ho hl g.a g.b g.c hsub h)
theorem CM {rest:List Oper} {post:Value→List PH→Prop} (h:∀ u H',post u H'→JK C D R H' ((d,u)::L) (.ops all rest::K)) (hl:Loud C R H L o post:=by (apply E2; exact rfl; exact rfl)) (g:GWz C L all o d:=by exact ⟨rfl,rfl,rfl⟩):JK C D R H L (.ops all (o::rest)::K):=BG hl g.a g.b g.c h
theorem B0 {rest:List Oper} {post:Value→List PH→Prop} (h:∀ u H',post u H'→JK C D R H' ((d,u)::L) (.ops all rest::K)) (hl:Loud C R H L o post:=by (apply B8; exact rfl; exact rfl; exact rfl; exact rfl; exact rfl; exact (by (repeat (first|exact (fun v hv=>absurd hv List.not_mem_nil)|(refine List.forall_mem_cons.2 ⟨?_,?_⟩; (focus (first|exact rfl|assumption))))); first|done|fail); exact (by (repeat (first|exact Flat.nil|apply Flat.one rfl|apply Flat.agg2|apply Flat.agg3|apply Flat.agg1|apply Flat.agg4|apply Flat.agg5)); first|done|fail); exact rfl)) (g:GWz C L all o d:=by exact ⟨rfl,rfl,rfl⟩):JK C D R H L (.ops all (o::rest)::K):=BG hl g.a g.b g.c h
theorem CU {rest:List Oper} {post:Value→List PH→Prop} (h:∀ u H',post u H'→JK C D R H' ((d,u)::L) (.ops all rest::K)) (hl:Loud C R H L o post:=by (apply BH; exact rfl)) (g:GWz C L all o d:=by exact ⟨rfl,rfl,rfl⟩):JK C D R H L (.ops all (o::rest)::K):=BG hl g.a g.b g.c h
theorem FY {rest:Pl} {post:Value→List PH→Prop} (h:∀ v H',post v H'→DJ C D R Hf H' ((d,v)::L) all (i::done) ps (i::ls) rest K) (ho:all[i]?=some o:=by exact rfl) (hl:Loud C R H L o post:=by (apply BH; exact rfl)) (g:GWz C L all o d:=by exact ⟨rfl,rfl,rfl⟩) (hsub:∀ v H',post v H'→∀ w,Sat C.N R H' w→Sat C.N R H w:=by (rintro _ _ ⟨b,rfl,rfl⟩ w hw; exact hw.tail)):ActOK C D R Hf H L all done ps ls i .e rest K:=a_e ho hl g.a g.b g.c hsub h
theorem FZ {rest:Pl} {post:Value→List PH→Prop} (h:∀ v H',post v H'→DJ C D R Hf H' ((d,v)::L) all (i::done) ps (i::ls) rest K) (ho:all[i]?=some o:=by exact rfl) (hl:Loud C R H L o post:=by (apply BH; exact rfl)) (g:GWz C L all o d:=by exact ⟨rfl,rfl,rfl⟩) (hsub:∀ v H',post v H'→∀ w,Sat C.N R H' w→Sat C.N R H w:=by (rintro _ _ ⟨b,rfl,rfl⟩ w hw; exact hw.tail)):DJ C D R Hf H L all done ps ls (.l i .e rest) K:=B9 (a_e ho hl g.a g.b g.c hsub h)
theorem DD {rest:List Oper} {post:Value→List PH→Prop} (h:∀ u H',post u H'→JK C D R H' ((d,u)::L) (.ops all rest::K)) (hl:Loud C R H L o post:=by (apply CZ; exact rfl; exact rfl)) (g:GWz C L all o d:=by exact ⟨rfl,rfl,rfl⟩):JK C D R H L (.ops all (o::rest)::K):=BG hl g.a g.b g.c h
theorem AV {all:Array Oper} {o:Oper} {rest:List Oper} {post:Value→List PH→Prop} (h:∀ u H',post u H'→JK C D R H' L (.ops all rest::K)) (hl:Loud C R H L o post:=by (apply BL; exact rfl; exact rfl; exact (by (repeat (first|exact .here|apply Take.there)); first|done|fail); exact (by (repeat (first|exact (fun v hv=>absurd hv List.not_mem_nil)|(refine List.forall_mem_cons.2 ⟨?_,?_⟩; (focus (first|exact rfl|assumption))))); first|done|fail); exact rfl; exact rfl)) (hg:wantE all L o=some true:=by exact rfl) (hd:o.dst=none:=by exact rfl):JK C D R H L (.ops all (o::rest)::K):=B4 hl hg hd h
theorem BF {all:Array Oper} {o:Oper} {rest:List Oper} {post:Value→List PH→Prop} (h:∀ u H',post u H'→JK C D R H' L (.ops all rest::K)) (hl:Loud C R H L o post:=by (apply D3; exact rfl; exact rfl; (first|exact rfl|assumption); exact rfl; exact (by (repeat (first|exact .here|apply Take.there)); first|done|fail); (focus (repeat (first|exact SetL.here|apply SetL.there)); done))) (hg:wantE all L o=some true:=by exact rfl) (hd:o.dst=none:=by exact rfl):JK C D R H L (.ops all (o::rest)::K):=B4 hl hg hd h
theorem CF {all:Array Oper} {done:List Nat} {i:Nat} {rest:Pl} {o:Oper} {post:Value→List PH→Prop} (h:∀ v H',post v H'→DJ C D R Hf H' L all (i::done) ps (i::ls) rest K) (ho:all[i]?=some o:=by exact rfl) (hl:Loud C R H L o post:=by (apply D3; exact rfl; exact rfl; (first|exact rfl|assumption); exact rfl; exact (by (repeat (first|exact .here|apply Take.there)); first|done|fail); (focus (repeat (first|exact SetL.here|apply SetL.there)); done))) (hg:wantE all L o=some true:=by exact rfl) (hd:o.dst=none:=by exact rfl) (hsub:∀ v H',post v H'→∀ w,Sat C.N R H' w→Sat C.N R Hf w:=by (rintro _ _ ⟨_,rfl⟩ w hw; exact hw.sel (by (repeat (first|exact Sel.nil|(apply Sel.cons; (focus ((repeat (first|exact .here|apply Mem.there|apply Take.there)); first|done|fail))))); first|done|fail))):DJ C D R Hf H L all done ps ls (.l i .b rest) K:=B9 (DG ho hl hg hd hsub h)
theorem A5 {P:Program} {fn:Func} {N:Bs} {M t:Nat} {R R0 H H':List PH} {L:Env} {K:List It} {post:Value→List PH→Prop} {v:Value} (hp:post v H') (hr:fn.results = #[.tmp t]:=by exact rfl) (hv:look L t=some v:=by exact rfl) (hR:∀ ρ∈R0,ρ∈R:=by exact rsubZ) (hH:Sel H H':=by exact selZ):JK ⟨none,P,FnQ P fn N R0 post,N,M⟩ [] R H L (.code .ret::K):=AM (res1 hr hv) hR hH hp
abbrev P0Z:Pl:=.q 0 (.q 1 (.q 2 (.q 3 (.q 4 (.q 5 (.q 6 (.q 7 (.q 8 (.q 9 (.q 10 (.q 11 (.q 12 .nil))))))))))))
abbrev P1Z:Pl:=.q 0 (.q 1 (.q 2 (.q 3 (.q 4 (.q 5 (.q 6 (.q 7 (.q 8 (.q 9 (.q 10 .nil))))))))))
abbrev P2Z:Pl:=.q 0 (.q 1 (.q 2 (.q 3 (.q 4 (.q 5 (.q 6 (.q 7 (.q 8 (.q 9 (.q 10 (.q 11 (.q 12 (.q 13 (.q 14 (.q 15 (.q 16 (.q 17 (.q 18 (.q 19 (.q 20 (.q 21 (.q 22 (.q 23 (.q 24 (.q 25 .nil)))))))))))))))))))))))))
theorem rdB (b:Nat) (t:TypeId) (vs:List Value):RdN (sng b (.cells vs.toArray t (0,0))) b 0 vs:=fun j v hv=>by
 rw [rdc_sng,Nat.zero_add]
 simpa using hv
theorem rdQ {ρ:PH} {b:Nat} {xs ys:List Value} (h:RdN ρ b 0 (xs ++ ys)):RdP ρ b 0 xs:=⟨fun j v hv=>h j v (by
 rw [List.getElem?_append_left (List.getElem?_eq_some_iff.1 hv).1]
 exact hv)⟩
theorem rdC {ρ:PH} {b:Nat} {vs:List Value} {v:Value} (h:RdN ρ b 0 vs) (i:Nat) (e:vs[i]?=some v:=by rfl):rdc ρ b i=some v:=by
 have:=h i v e
 rwa [Nat.zero_add] at this
structure Wg (G:Prop):Prop where
  p:G
theorem Aa {J G:Prop} (g:G) (h:Wg G→J:=by intro g;refine AC ?_;refine AA ?_;exact g.1):J:=h ⟨g⟩
theorem Aaa {J G:Prop} (g:G) (h:Wg G→J:=by intro g;refine AB ?_;refine AE ?_;exact g.1):J:=h ⟨g⟩
theorem Aab {J G:Prop} (g:G) (h:Wg G→J:=by intro g;refine AJ rfl rfl rfl ?_;refine AJ rfl rfl rfl ?_;exact g.1):J:=h ⟨g⟩
theorem Aac {J G:Prop} (g:G) (h:Wg G→J:=by intro g;refine AG ?_;refine AF ?_;exact g.1):J:=h ⟨g⟩
theorem Aad {J G:Prop} (g:G) (h:Wg G→J:=by intro g;refine AW rfl rfl rfl rfl rfl ?_;refine AW rfl rfl rfl rfl rfl ?_;exact g.1):J:=h ⟨g⟩
theorem Aae {J G:Prop} (g:G) (h:Wg G→J:=by intro g;refine AI rfl ?_;refine AK ?_;exact g.1):J:=h ⟨g⟩
theorem Aaf {J G:Prop} (g:G) (h:Wg G→J:=by intro g;refine Aa ?_;refine AD ?_;exact g.1):J:=h ⟨g⟩
theorem Aag {J G:Prop} (g:G) (h:Wg G→J:=by intro g;refine AE ?_;refine Aae ?_;exact g.1):J:=h ⟨g⟩
theorem Aah {J G:Prop} (g:G) (h:Wg G→J:=by intro g;refine Aaa ?_;refine AC ?_;exact g.1):J:=h ⟨g⟩
theorem Aai {J G:Prop} (g:G) (h:Wg G→J:=by intro g;refine AX ?_;refine AU ?_;exact g.1):J:=h ⟨g⟩
theorem Aaj {J G:Prop} (g:G) (h:Wg G→J:=by intro g;refine Aa ?_;refine Aac ?_;exact g.1):J:=h ⟨g⟩
theorem Aak {J G:Prop} (g:G) (h:Wg G→J:=by intro g;refine AD ?_;refine AD ?_;exact g.1):J:=h ⟨g⟩
theorem Aal {J G:Prop} (g:G) (h:Wg G→J:=by intro g;refine AD ?_;refine Aac ?_;exact g.1):J:=h ⟨g⟩
theorem Aam {J G:Prop} (g:G) (h:Wg G→J:=by intro g;refine AE ?_;refine AC ?_;exact g.1):J:=h ⟨g⟩
theorem Aan {J G:Prop} (g:G) (h:Wg G→J:=by intro g;refine AE ?_;refine A2 rfl ?_;exact g.1):J:=h ⟨g⟩
theorem Aao {J G:Prop} (g:G) (h:Wg G→J:=by intro g;refine Aag ?_;refine AC ?_;exact g.1):J:=h ⟨g⟩
theorem Aap {J G:Prop} (g:G) (h:Wg G→J:=by intro g;refine AB ?_;refine Aaa ?_;exact g.1):J:=h ⟨g⟩
theorem Aaq {J G:Prop} (g:G) (h:Wg G→J:=by intro g;refine Aa ?_;refine AR ?_;exact g.1):J:=h ⟨g⟩
theorem Aar {J G:Prop} (g:G) (h:Wg G→J:=by intro g;refine Aa ?_;refine Aaa ?_;exact g.1):J:=h ⟨g⟩
theorem Aas {J G:Prop} (g:G) (h:Wg G→J:=by intro g;refine Aah ?_;refine Aaf ?_;exact g.1):J:=h ⟨g⟩
theorem Aat {J G:Prop} (g:G) (h:Wg G→J:=by intro g;refine AD ?_;refine Aab ?_;exact g.1):J:=h ⟨g⟩
theorem Aau {J G:Prop} (g:G) (h:Wg G→J:=by intro g;refine AD ?_;refine AE ?_;exact g.1):J:=h ⟨g⟩
theorem Aav {J G:Prop} (g:G) (h:Wg G→J:=by intro g;refine AL ?_;refine AL ?_;exact g.1):J:=h ⟨g⟩
theorem Aaw {J G:Prop} (g:G) (h:Wg G→J:=by intro g;refine AY ?_;refine A7 ?_;exact g.1):J:=h ⟨g⟩
theorem Aax {J G:Prop} (g:G) (h:Wg G→J:=by intro g;refine AQ ?_;refine Aaa ?_;exact g.1):J:=h ⟨g⟩
theorem Aay {J G:Prop} (g:G) (h:Wg G→J:=by intro g;refine AD ?_;refine Aav ?_;exact g.1):J:=h ⟨g⟩
theorem Aaz {J G:Prop} (g:G) (h:Wg G→J:=by intro g;refine AI rfl ?_;refine BS rfl ?_;exact g.1):J:=h ⟨g⟩
theorem Aa0 {J G:Prop} (g:G) (h:Wg G→J:=by intro g;refine Aak ?_;refine AD ?_;exact g.1):J:=h ⟨g⟩
theorem Aa1 {J G:Prop} (g:G) (h:Wg G→J:=by intro g;refine BC ?_;refine AA ?_;exact g.1):J:=h ⟨g⟩
theorem Aa2 {J G:Prop} (g:G) (h:Wg G→J:=by intro g;refine Aaf ?_;refine AD ?_;exact g.1):J:=h ⟨g⟩
theorem Aa3 {J G:Prop} (g:G) (h:Wg G→J:=by intro g;refine BU ?_;refine Aau ?_;exact g.1):J:=h ⟨g⟩
theorem Aa4 {J G:Prop} (g:G) (h:Wg G→J:=by intro g;refine Aa1 ?_;refine Aa3 ?_;exact g.1):J:=h ⟨g⟩
theorem Aa5 {J G:Prop} (g:G) (h:Wg G→J:=by intro g;refine Aad ?_;refine Aad ?_;exact g.1):J:=h ⟨g⟩
theorem Aa6 {J G:Prop} (g:G) (h:Wg G→J:=by intro g;refine A4 ?_;refine Aag ?_;exact g.1):J:=h ⟨g⟩
theorem Aa7 {J G:Prop} (g:G) (h:Wg G→J:=by intro g;refine AN ?_;refine Aao ?_;exact g.1):J:=h ⟨g⟩
theorem Aa9 {J G:Prop} (g:G) (h:Wg G→J:=by intro g;refine AS ?_;refine A8 ?_;refine Aai ?_;exact g.1):J:=h ⟨g⟩
theorem Aba {J G:Prop} (g:G) (h:Wg G→J:=by intro g;refine Aaa ?_;refine Aaj ?_;exact g.1):J:=h ⟨g⟩
theorem Abb {J G:Prop} (g:G) (h:Wg G→J:=by intro g;refine AC ?_;refine Aaf ?_;exact g.1):J:=h ⟨g⟩
theorem Abc {J G:Prop} (g:G) (h:Wg G→J:=by intro g;refine Aat ?_;refine Aab ?_;exact g.1):J:=h ⟨g⟩
theorem Abd {J G:Prop} (g:G) (h:Wg G→J:=by intro g;refine AS ?_;refine Aai ?_;exact g.1):J:=h ⟨g⟩
theorem Abe {J G:Prop} (g:G) (h:Wg G→J:=by intro g;refine Aat ?_;refine AJ rfl rfl rfl ?_;exact g.1):J:=h ⟨g⟩
theorem Abf {J G:Prop} (g:G) (h:Wg G→J:=by intro g;refine AZ ?_;refine Aa ?_;exact g.1):J:=h ⟨g⟩
theorem Abg {J G:Prop} (g:G) (h:Wg G→J:=by intro g;refine Aal ?_;refine Aac ?_;exact g.1):J:=h ⟨g⟩
theorem Abk {J G:Prop} (g:G) (h:Wg G→J:=by intro g;refine Aa ?_;refine BZ ?_;refine Aam ?_;refine A2 rfl ?_;refine AK ?_;refine AC ?_;exact g.1):J:=h ⟨g⟩
theorem Abl {J G:Prop} (g:G) (h:Wg G→J:=by intro g;refine BA ?_;refine Aag ?_;exact g.1):J:=h ⟨g⟩
theorem Abm {J G:Prop} (g:G) (h:Wg G→J:=by intro g;refine AQ ?_;refine Aan ?_;exact g.1):J:=h ⟨g⟩
theorem Abo {J G:Prop} (g:G) (h:Wg G→J:=by intro g;refine Aah ?_;refine Aaj ?_;exact g.1):J:=h ⟨g⟩
theorem Abp {J G:Prop} (g:G) (h:Wg G→J:=by intro g;refine A6 ?_;refine BD ?_;exact g.1):J:=h ⟨g⟩
theorem Abr {J G:Prop} (g:G) (h:Wg G→J:=by intro g;refine BE ?_;refine Aau ?_;refine AZ ?_;exact g.1):J:=h ⟨g⟩
theorem Abs {J G:Prop} (g:G) (h:Wg G→J:=by intro g;refine A7 ?_;refine Aae ?_;exact g.1):J:=h ⟨g⟩
theorem Abt {J G:Prop} (g:G) (h:Wg G→J:=by intro g;refine BP ?_;refine Aam ?_;refine Aaz ?_;exact g.1):J:=h ⟨g⟩
theorem Abu {J G:Prop} (g:G) (h:Wg G→J:=by intro g;refine AY ?_;refine Aaw ?_;exact g.1):J:=h ⟨g⟩
theorem Abv {J G:Prop} (g:G) (h:Wg G→J:=by intro g;refine Aaa ?_;refine Aaf ?_;exact g.1):J:=h ⟨g⟩
theorem Abw {J G:Prop} (g:G) (h:Wg G→J:=by intro g;refine Aaa ?_;refine AI rfl ?_;exact g.1):J:=h ⟨g⟩
theorem Abx {J G:Prop} (g:G) (h:Wg G→J:=by intro g;refine AS ?_;refine AS ?_;exact g.1):J:=h ⟨g⟩
theorem Aby {J G:Prop} (g:G) (h:Wg G→J:=by intro g;refine CE ?_;refine AF ?_;exact g.1):J:=h ⟨g⟩
theorem Abz {J G:Prop} (g:G) (h:Wg G→J:=by intro g;refine Aa ?_;refine Aas ?_;exact g.1):J:=h ⟨g⟩
theorem Ab0 {J G:Prop} (g:G) (h:Wg G→J:=by intro g;refine Aa ?_;refine Abt ?_;exact g.1):J:=h ⟨g⟩
theorem Ab1 {J G:Prop} (g:G) (h:Wg G→J:=by intro g;refine BA ?_;refine Aao ?_;exact g.1):J:=h ⟨g⟩
theorem Ab2 {J G:Prop} (g:G) (h:Wg G→J:=by intro g;refine AN ?_;refine Aag ?_;exact g.1):J:=h ⟨g⟩
theorem Ab3 {J G:Prop} (g:G) (h:Wg G→J:=by intro g;refine AG ?_;refine Aby ?_;exact g.1):J:=h ⟨g⟩
theorem Ab4 {J G:Prop} (g:G) (h:Wg G→J:=by intro g;refine Abk ?_;refine Abf ?_;exact g.1):J:=h ⟨g⟩
theorem Ab5 {J G:Prop} (g:G) (h:Wg G→J:=by intro g;refine Aa ?_;refine AF ?_;exact g.1):J:=h ⟨g⟩
theorem Ab6 {J G:Prop} (g:G) (h:Wg G→J:=by intro g;refine AB ?_;refine Aah ?_;exact g.1):J:=h ⟨g⟩
theorem Ab7 {J G:Prop} (g:G) (h:Wg G→J:=by intro g;refine Aa4 ?_;refine BQ ?_;exact g.1):J:=h ⟨g⟩
theorem Ab8 {J G:Prop} (g:G) (h:Wg G→J:=by intro g;refine Aa9 ?_;refine Aa9 ?_;exact g.1):J:=h ⟨g⟩
theorem Ab9 {J G:Prop} (g:G) (h:Wg G→J:=by intro g;refine Aay ?_;refine Aap ?_;exact g.1):J:=h ⟨g⟩
theorem Ac {J G:Prop} (g:G) (h:Wg G→J:=by intro g;refine B6 ?_;refine AR ?_;exact g.1):J:=h ⟨g⟩
theorem Aca {J G:Prop} (g:G) (h:Wg G→J:=by intro g;refine AB ?_;refine Aas ?_;exact g.1):J:=h ⟨g⟩
theorem Acb {J G:Prop} (g:G) (h:Wg G→J:=by intro g;refine Aa5 ?_;refine Aa5 ?_;exact g.1):J:=h ⟨g⟩
end Go.Eng
namespace Go.Eng
variable {C:Cx} {D:List Deferred} {R H:List PH} {L:Env} {K:List It}
variable {dst:Option Tmp} {ty:TypeId} {pos:String} {aft:Array Edge} {g:Option (Nat × Bool)}
def ents:Nat→List (Int × Int)→List MapEntry
  | _,[]=>[]
  | i,kv::m=>⟨int kv.1,int kv.2,i⟩::ents (i+1) m
def mapO (m:List (Int × Int)):Obj:=.map (ents 0 m).toArray m.length
def midx (k:Int):List (Int × Int)→Option (Nat × Int)
  | []=>none
  | (a,v)::m=>if k=a then some (0,v) else (midx k m).map (fun p=>(p.1+1,p.2))
def mget (k:Int) (m:List (Int × Int)):Option Int:=(midx k m).map (·.2)
def mset (k v:Int):List (Int × Int)→List (Int × Int)
  | []=>[(k,v)]
  | (a,w)::m=>if k=a then (a,v)::m else (a,w)::mset k v m
theorem EP {t:TypeId}:Loud C R H L ⟨dst,.makeMap t none,ty,pos,aft,g⟩ (fun v H'=>∃ b,v=.map (some b)∧H'=sng b (mapO [])::H):=by
  refine ⟨fun a w hx hs next Q hn=>?_⟩
  refine wpIn_value (v:=.map (some w.heap.size)) (w':=w.alloc (mapO [])) (by intro c; simp) ?_ (hn _ _ _ ⟨_,rfl,rfl⟩ (hs.alloc _))
  simp [execOp,Instr.makeMap,newObj]
  rfl
theorem run_checkKey {P:Program} {w:World} {kt:TypeId} {k:Int} (e:Bool) (n:Nat) (hkt:P.underlying kt=some (.int .i64)):(Instr.checkKey e (n+1) kt (int k)).run P w=.ok () w:=by
  simp [Instr.checkKey,Go.underlying,Sem.run,hkt,int]
end Go.Eng
namespace Go.Step
structure Lv where
  a:Int
  v:Int
  deriving DecidableEq,Inhabited
def badL (l:Lv):Prop:=l.a<0∨1099511627776<l.a∨l.v < -1125899906842624∨1125899906842624<l.v
instance (l:Lv):Decidable (badL l):=by unfold badL; infer_instance
def chkL (pa pv:Int):List Lv→Int
  | []=>0
  | l::f=>if badL l then 2 else if l.a≤pa∨l.v=pv then 9 else chkL l.a l.v f
def chkS (f:List Lv):Int:=if 1000<f.length then 4 else chkL (-1) 0 f
def Asc (pa:Int):List Lv→Prop
  | []=>True
  | l::f=>pa<l.a∧l.a≤1099511627776∧(-1125899906842624≤l.v∧l.v≤1125899906842624)∧Asc l.a f
theorem chkL_asc:∀ (f:List Lv) (pa pv:Int),chkL pa pv f=0→Asc pa f
  | [],_,_,_=>trivial
  | l::f,pa,pv,h=>by
    simp only [chkL] at h
    split at h
    · simp at h
    · rename_i h1
      split at h
      · simp at h
      · rename_i h2
        unfold badL at h1
        exact ⟨by omega,by omega,⟨by omega,by omega⟩,chkL_asc f l.a l.v h⟩
theorem chkS_ok {f:List Lv} (h:chkS f=0):f.length≤1000∧Asc (-1) f:=by
  unfold chkS at h
  split at h
  · simp at h
  · exact ⟨by omega,chkL_asc f _ _ h⟩
theorem Asc.mono:∀ {f:List Lv} {p q:Int},Asc p f→q≤p→Asc q f
  | [],_,_,_,_=>trivial
  | _::_,_,_,h,hq=>⟨by have:=h.1; omega,h.2.1,h.2.2.1,h.2.2.2⟩
theorem Asc.gt:∀ {f:List Lv} {p:Int},Asc p f→∀ l∈f,p<l.a∧l.a≤1099511627776 ∧ -1125899906842624≤l.v∧l.v≤1125899906842624
  | [],_,_,l,hl=>by simp at hl
  | m::f,p,h,l,hl=>by
    simp at hl
    rcases hl with rfl|hl
    · exact ⟨h.1,h.2.1,h.2.2.1⟩
    · have h9:=h.2.2.2.gt l hl
      have:=h.1
      exact ⟨by omega,h9.2⟩
def vat (cur:Int):List Lv→Int→Int
  | [],_=>cur
  | l::f,t=>if l.a≤t then vat l.v f t else cur
def val (f:List Lv) (t:Int):Int:=vat 0 f t
theorem vat_late:∀ (f:List Lv) (cur t:Int),(∀ l,f.head?=some l→t<l.a)→vat cur f t=cur
  | [],_,_,_=>rfl
  | l::f,cur,t,h=>by
    simp only [vat]
    rw [if_neg (by have:=h l rfl; omega)]
theorem vat_mem:∀ (f:List Lv) (cur t:Int),vat cur f t=cur∨∃ l∈f,vat cur f t=l.v
  | [],_,_=>.inl rfl
  | l::f,cur,t=>by
    simp only [vat]
    split
    · rcases vat_mem f l.v t with h|⟨m,hm,h⟩
      · exact .inr ⟨l,by simp,h⟩
      · exact .inr ⟨m,by simp [hm],h⟩
    · exact .inl rfl
end Go.Step
namespace Go.Step
end Go.Step
namespace Go.Step
theorem Asc.idx:∀ {f:List Lv} {p:Int},Asc p f→∀ (i j:Nat) (x y:Lv),f[i]?=some x→f[j]?=some y→i<j→x.a<y.a
  | [],_,_,i,j,x,y,h,_,_=>by simp at h
  | l::f,p,hA,0,j+1,x,y,h1,h2,_=>by
    simp at h1; subst h1
    exact (hA.2.2.2.gt y (List.mem_of_getElem? (by simpa using h2))).1
  | l::f,p,hA,i+1,j+1,x,y,h1,h2,hij=>hA.2.2.2.idx i j x y (by simpa using h1) (by simpa using h2) (by omega)
  | l::f,p,hA,i,0,x,y,h1,h2,hij=>by omega
end Go.Step
namespace Go.Step
def AscT (pa:Int):List Lv→Prop
  | []=>True
  | l::f=>pa<l.a∧l.a≤1099511627776∧AscT l.a f
theorem Asc.t:∀ {f:List Lv} {p:Int},Asc p f→AscT p f
  | [],_,_=>trivial
  | _::_,_,h=>⟨h.1,h.2.1,h.2.2.2.t⟩
theorem AscT.gt:∀ {f:List Lv} {p:Int},AscT p f→∀ l∈f,p<l.a∧l.a≤1099511627776
  | [],_,_,l,hl=>by simp at hl
  | m::f,p,h,l,hl=>by
    simp at hl
    rcases hl with rfl|hl
    · exact ⟨h.1,h.2.1⟩
    · have h9:=h.2.2.gt l hl
      have:=h.1
      exact ⟨by omega,h9.2⟩
theorem AscT.idx:∀ {f:List Lv} {p:Int},AscT p f→∀ (i j:Nat) (x y:Lv),f[i]?=some x→f[j]?=some y→i<j→x.a<y.a
  | [],_,_,i,j,x,y,h,_,_=>by simp at h
  | l::f,p,hA,0,j+1,x,y,h1,h2,_=>by
    simp at h1; subst h1
    exact (hA.2.2.gt y (List.mem_of_getElem? (by simpa using h2))).1
  | l::f,p,hA,i+1,j+1,x,y,h1,h2,hij=>hA.2.2.idx i j x y (by simpa using h1) (by simpa using h2) (by omega)
  | l::f,p,hA,i,0,x,y,h1,h2,hij=>by omega
end Go.Step
namespace Go.Step
open Go.Lib
abbrev SA (l:List Int):Prop:=l.Pairwise (· < ·)
theorem SA.unique:∀ {l m:List Int},SA l→SA m→(∀ x,x∈l↔x∈m)→l=m
  | [],[],_,_,_=>rfl
  | [],y::m,_,_,h=>by have:=(h y).2 (by simp); simp at this
  | x::l,[],_,_,h=>by have:=(h x).1 (by simp); simp at this
  | x::l,y::m,h1,h2,h=>by
    have p1:=List.pairwise_cons.1 h1
    have p2:=List.pairwise_cons.1 h2
    have hxy:x=y:=by
      have a:=(h x).1 (by simp)
      have b:=(h y).2 (by simp)
      simp at a b
      rcases a with a|a
      · exact a
      · rcases b with b|b
        · exact b.symm
        · have:=p2.1 x a; have:=p1.1 y b; omega
    subst hxy
    rw [SA.unique p1.2 p2.2 (fun z=>?_)]
    constructor
    · intro hz
      have:=(h z).1 (by simp [hz])
      simp at this
      rcases this with rfl|this
      · have:=p1.1 z hz; omega
      · exact this
    · intro hz
      have:=(h z).2 (by simp [hz])
      simp at this
      rcases this with rfl|this
      · have:=p2.1 z hz; omega
      · exact this
theorem compact_up {d:Array Int} (hs:∀ i j,i≤j→j<d.size→d[i]! ≤ d[j]!):∀ m,m≤d.size→SA (compactUpTo d m)∧(∀ x,x∈compactUpTo d m↔∃ j,j<m∧d[j]! = x)
  | 0,_=>by simp [compactUpTo]
  | m+1,hm=>by
    obtain ⟨h1,h2⟩:=compact_up hs m (by omega)
    rw [compactUpTo_succ]
    by_cases hk:keeps d m=true
    · rw [if_pos hk]
      have hlt:∀ x∈compactUpTo d m,x<d[m]!:=by
        intro x hx
        obtain ⟨j,hj,rfl⟩:=(h2 x).1 hx
        simp only [keeps,decide_eq_true_eq] at hk
        have a:=hs j (m-1) (by omega) (by omega)
        have b:=hs (m-1) m (by omega) (by omega)
        rcases hk with hk|hk
        · omega
        · have:d[m-1]! ≠ d[m]!:=fun e=>hk e.symm
          omega
      refine ⟨List.pairwise_append.2 ⟨h1,by simp,fun x hx y hy=>by simp at hy; subst hy; exact hlt x hx⟩,fun x=>?_⟩
      rw [List.mem_append,h2]
      constructor
      · rintro (⟨j,hj,e⟩|hx)
        · exact ⟨j,by omega,e⟩
        · simp at hx; exact ⟨m,by omega,hx.symm⟩
      · rintro ⟨j,hj,e⟩
        by_cases hjm:j=m
        · subst hjm; right; simp [e]
        · left; exact ⟨j,by omega,e⟩
    · rw [if_neg hk,List.append_nil]
      simp only [keeps,decide_eq_true_eq,not_or] at hk
      refine ⟨h1,fun x=>?_⟩
      rw [h2]
      constructor
      · rintro ⟨j,hj,e⟩; exact ⟨j,by omega,e⟩
      · rintro ⟨j,hj,e⟩
        by_cases hjm:j=m
        · subst hjm
          exact ⟨j-1,by omega,by have:=Classical.not_not.1 hk.2; omega⟩
        · exact ⟨j,by omega,e⟩
theorem compact_sa {l:List Int} (h:l.Pairwise (· ≤ ·)):SA (compact l)∧∀ x,x∈compact l↔x∈l:=by
  have hs:∀ i j,i≤j→j<l.toArray.size→l.toArray[i]! ≤ l.toArray[j]!:=by
    intro i j hij hj
    simp only [List.size_toArray] at hj
    rw [getElem!_pos l.toArray i (by simp; omega),getElem!_pos l.toArray j (by simpa using hj)]
    simp only [List.getElem_toArray]
    rcases Nat.lt_or_ge i j with h1|h1
    · exact List.pairwise_iff_getElem.1 h i j (by omega) hj h1
    · have:i=j:=by omega
      subst this; exact Int.le_refl _
  obtain ⟨h1,h2⟩:=compact_up hs l.length (by simp)
  refine ⟨h1,fun x=>?_⟩
  show x∈compactUpTo l.toArray l.length↔_
  rw [h2,List.mem_iff_getElem]
  constructor
  · rintro ⟨j,hj,e⟩
    refine ⟨j,hj,?_⟩
    rw [getElem!_pos l.toArray j (by simpa using hj)] at e
    simpa using e
  · rintro ⟨j,hj,e⟩
    refine ⟨j,hj,?_⟩
    rw [getElem!_pos l.toArray j (by simpa using hj)]
    simpa using e
def tms (f g:List Lv):List Int:=compact (((f ++ g).map (·.a)).mergeSort fun x y=>decide (x≤y))
theorem tms_sa (f g:List Lv):SA (tms f g)∧∀ x,x∈tms f g↔∃ l∈f ++ g,l.a=x:=by
  have hp:(((f ++ g).map (·.a)).mergeSort fun x y=>decide (x≤y)).Pairwise (· ≤ ·):=by
    have:=List.pairwise_mergeSort (le:=fun x y:Int=>decide (x≤y)) (by intro a b c h1 h2; simp at *; omega) (by intro a b; simp; omega) ((f ++ g).map (·.a))
    exact this.imp (fun h=>by simpa using h)
  obtain ⟨h1,h2⟩:=compact_sa hp
  refine ⟨h1,fun x=>?_⟩
  unfold tms;rw [h2,List.mem_mergeSort,List.mem_map]
def comb (F:Int→Int) (last:Int):List Int→List Lv
  | []=>[]
  | t::ts=>if F t≠last then ⟨t,F t⟩::comb F (F t) ts else comb F (F t) ts
theorem comb_len (F:Int→Int):∀ (ts:List Int) (last:Int),(comb F last ts).length≤ts.length
  | [],_=>by simp [comb]
  | t::ts,last=>by
    have:=comb_len F ts (F t)
    simp only [comb]
    split <;> simp <;> omega
def okV (v:Int):Prop:=-1125899906842624≤v∧v≤1125899906842624
theorem comb_chk {F:Int→Int}:∀ {ts:List Int} {pa pv:Int},SA ts→(∀ t∈ts,pa<t∧0≤t∧t≤1099511627776∧okV (F t))→chkL pa pv (comb F pv ts)=0
  | [],_,_,_,_=>rfl
  | t::ts,pa,pv,hs,h=>by
    have p:=List.pairwise_cons.1 hs
    have ht:=h t (by simp)
    have hr:∀ q:Int,q≤t→∀ u∈ts,q<u∧0≤u∧u≤1099511627776∧okV (F u):=fun q hq u hu=>by
      have:=p.1 u hu
      have:=h u (by simp [hu])
      exact ⟨by omega,this.2⟩
    simp only [comb];unfold okV at ht
    split
    · rename_i hne
      simp only [chkL]
      rw [if_neg (by unfold badL; dsimp only; omega),if_neg (by omega)]
      exact comb_chk p.2 (hr t (Int.le_refl _))
    · rename_i he
      have he:F t=pv:=Classical.not_not.1 he
      rw [he]
      exact comb_chk p.2 (hr pa (by omega))
def tv (F:Int→Int) (cur:Int):List Int→Int→Int
  | [],_=>cur
  | x::xs,t=>if x≤t then tv F (F x) xs t else cur
theorem comb_gt {F:Int→Int}:∀ {ts:List Int} {last p:Int},(∀ x∈ts,p<x)→∀ l∈comb F last ts,p<l.a
  | [],_,_,_,l,hl=>by simp [comb] at hl
  | t::ts,last,p,h,l,hl=>by
    simp only [comb] at hl
    split at hl
    · simp at hl
      rcases hl with rfl|hl
      · exact h t (by simp)
      · exact comb_gt (fun x hx=>h x (by simp [hx])) l hl
    · exact comb_gt (fun x hx=>h x (by simp [hx])) l hl
theorem vat_comb {F:Int→Int} {t:Int}:∀ {ts:List Int} {cur:Int},SA ts→vat cur (comb F cur ts) t=tv F cur ts t
  | [],_,_=>rfl
  | x::xs,cur,hs=>by
    have p:=List.pairwise_cons.1 hs
    simp only [tv]
    by_cases hx:x≤t
    · rw [if_pos hx]
      simp only [comb]
      split
      · simp only [vat]; rw [if_pos hx]; exact vat_comb p.2
      · rename_i he
        have he:F x=cur:=Classical.not_not.1 he
        rw [← he]; exact vat_comb p.2
    · rw [if_neg hx]
      refine vat_late _ _ _ (fun l hl=>?_)
      have hm:l∈comb F cur (x::xs):=List.mem_of_mem_head? (by simpa using hl)
      have:=comb_gt (p:=x-1) (fun y hy=>by
        simp at hy
        rcases hy with rfl|hy
        · omega
        · have:=p.1 y hy; omega) l hm
      omega
theorem tv_eq {F:Int→Int}:∀ {ts:List Int} {p t:Int},SA ts→(∀ x∈ts,p<x)→p≤t→(∀ a b:Int,p≤a→a≤b→(∀ y∈ts,¬ (a<y∧y≤b))→F b=F a)→tv F (F p) ts t=F t
  | [],p,t,_,_,ht,H=>(H p t (Int.le_refl _) ht (by simp)).symm
  | x::xs,p,t,hs,hp,ht,H=>by
    have q:=List.pairwise_cons.1 hs
    have hpx:=hp x (by simp)
    simp only [tv]
    by_cases hx:x≤t
    · rw [if_pos hx]
      refine tv_eq q.2 q.1 hx (fun a b h1 h2 h3=>H a b (by omega) h2 (fun y hy=>?_))
      simp at hy
      rcases hy with rfl|hy
      · omega
      · exact h3 y hy
    · rw [if_neg hx]
      refine (H p t (Int.le_refl _) ht (fun y hy=>?_)).symm
      simp at hy
      rcases hy with rfl|hy
      · omega
      · have:=q.1 y hy; omega
theorem vat_same:∀ {f:List Lv} {p cur a b:Int},AscT p f→a≤b→(∀ l∈f,¬ (a<l.a∧l.a≤b))→vat cur f b=vat cur f a
  | [],_,_,_,_,_,_,_=>rfl
  | l::f,p,cur,a,b,h,hab,hn=>by
    simp only [vat]
    have hl:=hn l (by simp)
    by_cases h1:l.a≤a
    · rw [if_pos h1,if_pos (by omega)]
      exact vat_same h.2.2 hab (fun m hm=>hn m (by simp [hm]))
    · rw [if_neg h1,if_neg (by omega)]
theorem val_earlyT {f:List Lv} {p x:Int} (h:AscT p f) (hx:x≤p):val f x=0:=vat_late f 0 x (fun l hl=>by
  have:=(h.gt l (List.mem_of_mem_head? (by simpa using hl))).1
  omega)
theorem comb_val {f g:List Lv} (hf:AscT (-1) f) (hg:AscT (-1) g) {op:Int→Int→Int} (h0:op 0 0=0) {t:Int} (ht:-1≤t):val (comb (fun t=>op (val f t) (val g t)) 0 (tms f g)) t=op (val f t) (val g t):=by
  obtain ⟨h1,h2⟩:=tms_sa f g
  have e0:op (val f (-1)) (val g (-1))=0:=by rw [val_earlyT hf (Int.le_refl _),val_earlyT hg (Int.le_refl _),h0]
  have hp:∀ x∈tms f g,-1<x:=fun x hx=>by
    obtain ⟨l,hl,rfl⟩:=(h2 x).1 hx
    rcases List.mem_append.1 hl with hl|hl
    · exact (hf.gt l hl).1
    · exact (hg.gt l hl).1
  show vat 0 _ t=_
  rw [vat_comb h1]
  have:=tv_eq (F:=fun t=>op (val f t) (val g t)) (p:=-1) (t:=t) h1 hp ht (fun a b ha hab hn=>by
    have e1:val f b=val f a:=vat_same hf hab (fun l hl hx=>hn l.a ((h2 l.a).2 ⟨l,by simp [hl],rfl⟩) hx)
    have e2:val g b=val g a:=vat_same hg hab (fun l hl hx=>hn l.a ((h2 l.a).2 ⟨l,by simp [hl],rfl⟩) hx)
    simp only [e1,e2])
  simp only [e0] at this;exact this
theorem tms_rng {f g:List Lv} (hf:AscT (-1) f) (hg:AscT (-1) g):∀ x∈tms f g,0≤x∧x≤1099511627776:=fun x hx=>by
  obtain ⟨l,hl,rfl⟩:=((tms_sa f g).2 x).1 hx
  rcases List.mem_append.1 hl with hl|hl
  · have:=hf.gt l hl; omega
  · have:=hg.gt l hl; omega
theorem chkL_unique:∀ {f g:List Lv} {pa pv:Int},chkL pa pv f=0→chkL pa pv g=0→(∀ t:Int,pa<t→t≤1099511627776→vat pv f t=vat pv g t)→f=g
  | [],[],_,_,_,_,_=>rfl
  | [],m::g,pa,pv,_,h2,H=>by
    exfalso
    have hA:=chkL_asc _ _ _ h2
    have:=H m.a hA.1 hA.2.1
    simp only [vat] at this
    rw [if_pos (Int.le_refl _),vat_late g m.v m.a (fun l hl=>(hA.2.2.2.gt l (List.mem_of_mem_head? (by simpa using hl))).1)] at this
    simp only [chkL] at h2
    split at h2
    · simp at h2
    · rw [if_pos (.inr this.symm)] at h2; simp at h2
  | l::f,[],pa,pv,h1,_,H=>by
    exfalso
    have hA:=chkL_asc _ _ _ h1
    have:=H l.a hA.1 hA.2.1
    simp only [vat] at this
    rw [if_pos (Int.le_refl _),vat_late f l.v l.a (fun m hm=>(hA.2.2.2.gt m (List.mem_of_mem_head? (by simpa using hm))).1)] at this
    simp only [chkL] at h1
    split at h1
    · simp at h1
    · rw [if_pos (.inr this)] at h1; simp at h1
  | l::f,m::g,pa,pv,h1,h2,H=>by
    have hA:=chkL_asc _ _ _ h1
    have hB:=chkL_asc _ _ _ h2
    have e1:=H l.a hA.1 hA.2.1
    have e2:=H m.a hB.1 hB.2.1
    have q1:vat l.v f l.a=l.v:=vat_late f l.v l.a (fun x hx=>(hA.2.2.2.gt x (List.mem_of_mem_head? (by simpa using hx))).1)
    have q2:vat m.v g m.a=m.v:=vat_late g m.v m.a (fun x hx=>(hB.2.2.2.gt x (List.mem_of_mem_head? (by simpa using hx))).1)
    simp only [vat] at e1 e2;rw [if_pos (Int.le_refl _),q1] at e1;rw [if_pos (Int.le_refl (m.a)),q2] at e2;simp only [chkL] at h1 h2
    split at h1
    · simp at h1
    · split at h1
      · simp at h1
      · rename_i hl
        split at h2
        · simp at h2
        · split at h2
          · simp at h2
          · rename_i hm
            have ha:l.a=m.a:=by
              rcases Int.lt_trichotomy l.a m.a with h|h|h
              · rw [if_neg (by omega)] at e1
                exact absurd e1 (by omega)
              · exact h
              · rw [if_neg (by omega)] at e2
                exact absurd e2.symm (by omega)
            rw [if_pos (by omega),ha,q2] at e1
            obtain ⟨la,lv⟩:=l
            obtain ⟨ma,mv⟩:=m
            simp only at ha e1;subst ha e1
            congr 1
            refine chkL_unique h1 h2 (fun t ht htm=>?_)
            have:=H t (by have:=hA.1; simp only at this ht; omega) htm
            simp only [vat] at this
            rw [if_pos (by simp only at ht; omega),if_pos (by simp only at ht; omega)] at this
            exact this
def CombP (F:Int→Int) (ts:List Int) (out:List Lv) (e:Int):Prop:=
  ((∃ t∈ts,¬ okV (F t))∧out=[]∧e=5)∨((∀ t∈ts,okV (F t))∧1000<(comb F 0 ts).length∧out=[]∧e=4)∨((∀ t∈ts,okV (F t))∧(comb F 0 ts).length≤1000∧out=comb F 0 ts∧e=0)
theorem CombP.unique {F:Int→Int} {ts:List Int} {o o':List Lv} {e e':Int} (h:CombP F ts o e) (h':CombP F ts o' e'):o=o'∧e=e':=by
  rcases h with ⟨⟨t,ht,a⟩,b,c⟩|⟨a,b,c,d⟩|⟨a,b,c,d⟩ <;> rcases h' with ⟨⟨t',ht',a'⟩,b',c'⟩|⟨a',b',c',d'⟩|⟨a',b',c',d'⟩
  · exact ⟨by rw [b,b'],by rw [c,c']⟩
  · exact absurd (a' t ht) a
  · exact absurd (a' t ht) a
  · exact absurd (a t' ht') a'
  · exact ⟨by rw [c,c'],by rw [d,d']⟩
  · omega
  · exact absurd (a t' ht') a'
  · omega
  · exact ⟨by rw [c,c'],by rw [d,d']⟩
theorem CombP.ok {f g:List Lv} (hf:AscT (-1) f) (hg:AscT (-1) g) {op:Int→Int→Int} (h0:op 0 0=0) {out:List Lv} (h:CombP (fun t=>op (val f t) (val g t)) (tms f g) out 0):chkS out=0∧∀ t:Int,-1≤t→val out t=op (val f t) (val g t):=by
  rcases h with ⟨_,_,h⟩|⟨_,_,_,h⟩|⟨h1,h2,rfl,_⟩
  · simp at h
  · simp at h
  · refine ⟨?_,fun t ht=>comb_val hf hg h0 ht⟩
    unfold chkS
    rw [if_neg (by omega)]
    exact comb_chk (tms_sa f g).1 (fun t ht=>by
      have:=tms_rng hf hg t ht
      exact ⟨by omega,this.1,this.2,h1 t ht⟩)
def SumR (f g out:List Lv) (e:Int):Prop:=
  ((chkS f≠0∨chkS g≠0)∧out=[]∧e=1)∨(chkS f=0∧chkS g=0∧CombP (fun t=>val f t+val g t) (tms f g) out e)
theorem SumR.unique {f g o o':List Lv} {e e':Int} (h:SumR f g o e) (h':SumR f g o' e'):o=o'∧e=e':=by
  rcases h with ⟨a,b,c⟩|⟨a,b,c⟩ <;> rcases h' with ⟨a',b',c'⟩|⟨a',b',c'⟩
  · exact ⟨by rw [b,b'],by rw [c,c']⟩
  · rcases a with a|a
    · exact absurd a' a
    · exact absurd b' a
  · rcases a' with a'|a'
    · exact absurd a a'
    · exact absurd b a'
  · exact c.unique c'
def bump (fr to d:Int):List Lv:=[⟨fr,d⟩,⟨to,0⟩]
theorem bump_asc {fr to d:Int} (h:0≤fr∧fr<to∧to≤1099511627776):AscT (-1) (bump fr to d):=⟨by dsimp only; omega,by dsimp only; omega,by dsimp only; omega,by dsimp only; omega,trivial⟩
theorem bump_val (fr to d t:Int) (h:fr<to):val (bump fr to d) t=if fr≤t∧t<to then d else 0:=by
  simp only [val,bump,vat]
  by_cases h1:fr≤t
  · rw [if_pos h1]
    by_cases h2:to≤t
    · rw [if_pos h2,if_neg (by omega)]
    · rw [if_neg h2,if_pos (by omega)]
  · rw [if_neg h1,if_neg (by omega)]
def AddR (f:List Lv) (fr to d:Int) (out:List Lv) (e:Int):Prop:=
  (chkS f≠0∧out=[]∧e=1)∨(chkS f=0∧(¬ (0≤fr∧fr≤to∧to≤1099511627776)∨d < -2251799813685248∨2251799813685248<d)∧out=[]∧e=2) ∨
  (chkS f=0∧(0≤fr∧fr≤to∧to≤1099511627776)∧(-2251799813685248≤d∧d≤2251799813685248)∧fr=to∧out=f∧e=0) ∨
  (chkS f=0∧(0≤fr∧fr<to∧to≤1099511627776)∧(-2251799813685248≤d∧d≤2251799813685248)∧CombP (fun t=>val f t+val (bump fr to d) t) (tms f (bump fr to d)) out e)
theorem AddR.unique {f o o':List Lv} {fr to d e e':Int} (h:AddR f fr to d o e) (h':AddR f fr to d o' e'):o=o'∧e=e':=by
  rcases h with ⟨a,b,c⟩|⟨a,b,c,x⟩|⟨a,b,c,x,y,z⟩|⟨a,b,c,x⟩ <;> rcases h' with ⟨a',b',c'⟩|⟨a',b',c',x'⟩|⟨a',b',c',x',y',z'⟩|⟨a',b',c',x'⟩
  all_goals first
    | exact absurd a' a
    | exact absurd a a'
    | exact ⟨by rw [b,b'],by rw [c,c']⟩
    | exact ⟨by rw [c,c'],by rw [x,x']⟩
    | exact ⟨by rw [y,y'],by rw [z,z']⟩
    | exact x.unique x'
    | omega
    | (clear x'; omega)
    | (clear x; omega)
theorem AddR.ok {f out:List Lv} {fr to d:Int} (h:AddR f fr to d out 0):chkS f=0∧chkS out=0∧∀ t:Int,-1≤t→val out t=val f t+if fr≤t∧t<to then d else 0:=by
  rcases h with ⟨_,_,h⟩|⟨_,_,_,h⟩|⟨a,b,c,x,rfl,_⟩|⟨a,b,c,x⟩
  · simp at h
  · simp at h
  · exact ⟨a,a,fun t ht=>by rw [if_neg (by omega)]; omega⟩
  · obtain ⟨h1,h2⟩:=CombP.ok (op:=(· + ·)) (chkS_ok a).2.t (bump_asc b) rfl x
    refine ⟨a,h1,fun t ht=>?_⟩
    rw [h2 t ht,bump_val fr to d t b.2.1]
theorem chkS_unique {f g:List Lv} (hf:chkS f=0) (hg:chkS g=0) (h:∀ t:Int,-1≤t→val f t=val g t):f=g:=by
  have hf1:=(chkS_ok hf).1
  have hg1:=(chkS_ok hg).1
  unfold chkS at hf hg
  rw [if_neg (by omega)] at hf hg
  exact chkL_unique hf hg (fun t ht _=>h t (by omega))
end Go.Step
namespace Go.Step
structure Ct where
  f:Int
  t:Int
  s:Int
  e:Int
  r:Int
  g:Int
  l:Int
def okCt (c:Ct):Prop:=(0≤c.f∧c.f≤15)∧(0≤c.t∧c.t≤15)∧(1≤c.r∧c.r≤1000)∧(1≤c.g∧c.g≤1048576)∧(0≤c.l∧c.l≤16)
instance (c:Ct):Decidable (okCt c):=inferInstanceAs (Decidable (_∧_))
def chkCt (c:Ct):Int:=if ¬ okCt c then 2 else if c.f=c.t then 1 else if c.s<0∨c.e≤c.s∨1099511627776-2*c.g<c.e then 2 else 0
theorem chkCt_se {c:Ct} (h:chkCt c=0):0≤c.s∧c.s<c.e∧c.e≤1099511627776:=by
  unfold chkCt at h
  split at h
  · omega
  · rename_i hk
    split at h
    · omega
    · split at h
      · omega
      · unfold okCt at hk
        omega
def firstE (e:Nat→Int):Nat→Int
  | 0=>0
  | n+1=>if firstE e n≠0 then firstE e n else e n
theorem firstE_ok {e:Nat→Int} {k:Nat} (h:firstE e k=0) (h2:e k=0):firstE e (k+1)=0:=by simp [firstE,h,h2]
theorem firstE_hit {e:Nat→Int} {k:Nat} (h:firstE e k=0) (h2:e k≠0):∀ n,k<n→firstE e n=e k
  | 0,hn=>by omega
  | n+1,hn=>by
    by_cases hk:k=n
    · subst hk; simp [firstE,h]
    · have ih:=firstE_hit h h2 n (by omega)
      simp [firstE,ih,h2]
theorem firstE_zero {e:Nat→Int}:∀ {n:Nat},firstE e n=0→∀ k,k<n→e k=0
  | 0,_,k,hk=>by omega
  | n+1,h,k,hk=>by
    unfold firstE at h
    split at h
    · contradiction
    · rename_i hc
      have hc':firstE e n=0:=Decidable.not_not.1 hc
      by_cases e':k=n
      · subst e'; exact h
      · exact firstE_zero hc' k (by omega)
theorem firstE_all {e:Nat→Int}:∀ {n:Nat},(∀ k,k<n→e k=0)→firstE e n=0
  | 0,_=>rfl
  | n+1,h=>firstE_ok (firstE_all (fun k hk=>h k (by omega))) (h n (by omega))
end Go.Step
namespace Go.Step
structure Hd where
  n:Int
  a:Int
  b:Int
  s:Int
  k:Int
deriving DecidableEq
def okHd (nq:Nat) (h:Hd):Prop:=(0≤h.n∧h.n<nq)∧(0≤h.a∧h.a<h.b∧h.b≤1099511627776)∧(1≤h.s∧h.s≤65536)∧(0≤h.k∧h.k≤1152921504606846976)
instance (nq:Nat) (h:Hd):Decidable (okHd nq h):=inferInstanceAs (Decidable (_∧_))
def delta (l:List Hd) (n t:Int):Int:=match l with
  | []=>0
  | h::l=>(if h.n=n then (if h.a=t then h.s else 0)-(if h.b=t then h.s else 0) else 0)+delta l n t
def tmH (l:List Hd) (n:Int):List Int:=l.flatMap (fun h=>if h.n=n then [h.a,h.b] else [])
theorem mem_tmH {l:List Hd} {n x:Int}:x∈tmH l n↔∃ h∈l,h.n=n∧(x=h.a∨x=h.b):=by
  unfold tmH;rw [List.mem_flatMap]
  constructor
  · rintro ⟨h,hm,hx⟩
    by_cases hn:h.n=n
    · rw [if_pos hn] at hx
      exact ⟨h,hm,hn,by simpa using hx⟩
    · rw [if_neg hn] at hx; simp at hx
  · rintro ⟨h,hm,hn,hx⟩
    exact ⟨h,hm,by rw [if_pos hn]; simpa using hx⟩
def hts (l:List Hd) (n:Int):List Int:=Lib.compact ((tmH l n).mergeSort fun x y=>decide (x≤y))
end Go.Step
namespace Go.Step
open Go.Eng
theorem mget_mset (k v x:Int):∀ m:List (Int × Int),mget x (mset k v m)=if x=k then some v else mget x m
  | []=>by
    unfold mget mset midx
    by_cases h:x=k
    · simp [h]
    · simp [h,midx]
  | (a,w)::m=>by
    have ih:=mget_mset k v x m
    unfold mget at ih ⊢
    by_cases hk:k=a
    · subst hk
      simp only [mset,if_true,midx]
      by_cases h:x=k <;> simp [h]
    · simp only [mset,if_neg hk,midx]
      by_cases h:x=a
      · subst h
        simp [Ne.symm hk]
      · simp only [if_neg h,Option.map_map]
        have e:((fun p:Nat × Int=>p.2) ∘ fun p:Nat × Int=>(p.1+1,p.2))=fun p=>p.2:=rfl
        rw [e];exact ih
def noteT (m:List (Int × Int)) (T:List Int) (t:Int):List Int:=if mget t m=none then T ++ [t] else T
structure InvD (D:Int→Int) (T:List Int) (m:List (Int × Int)):Prop where
  get:∀ t,mget t m=if t∈T then some (D t) else none
  out:∀ t,t∉T→D t=0
  nd:T.Pairwise (· ≠ ·)
theorem InvD.zero:InvD (fun _=>0) [] []:=⟨fun t=>rfl,fun _ _=>rfl,List.Pairwise.nil⟩
theorem InvD.val {D:Int→Int} {T:List Int} {m:List (Int × Int)} (h:InvD D T m) (t:Int):(mget t m).getD 0=D t:=by
  rw [h.get t]
  split
  · rfl
  · rename_i hn; rw [h.out t hn]; rfl
theorem InvD.step {D:Int→Int} {T:List Int} {m:List (Int × Int)} (h:InvD D T m) (t d:Int):InvD (fun x=>D x+if x=t then d else 0) (noteT m T t) (mset t ((mget t m).getD 0+d) m)∧(∀ x,x∈noteT m T t↔x∈T∨x=t)∧(noteT m T t).length≤T.length+1:=by
  have hm:∀ x,x∈noteT m T t↔x∈T∨x=t:=fun x=>by
    unfold noteT;rw [h.get t]
    by_cases ht:t∈T
    · rw [if_pos ht,if_neg (by simp)]
      constructor
      · exact .inl
      · rintro (h|rfl) <;> assumption
    · rw [if_neg ht,if_pos rfl]; simp
  refine ⟨⟨fun x=>?_,fun x hx=>?_,?_⟩,hm,?_⟩
  · rw [mget_mset,h.val,h.get x]
    by_cases hx:x=t
    · subst hx
      rw [if_pos rfl,if_pos ((hm x).2 (.inr rfl))]; simp
    · rw [if_neg hx]
      by_cases hT:x∈T
      · rw [if_pos hT,if_pos ((hm x).2 (.inl hT))]; simp [hx]
      · rw [if_neg hT,if_neg (fun hh=>by rcases (hm x).1 hh with h|h <;> contradiction)]
  · have hx1:x∉T:=fun hh=>hx ((hm x).2 (.inl hh))
    have hx2:x≠t:=fun hh=>hx ((hm x).2 (.inr hh))
    rw [h.out x hx1,if_neg hx2]; rfl
  · unfold noteT
    rw [h.get t]
    by_cases ht:t∈T
    · rw [if_pos ht,if_neg (by simp)]; exact h.nd
    · rw [if_neg ht,if_pos rfl]
      refine List.pairwise_append.2 ⟨h.nd,by simp,fun a ha b hb=>?_⟩
      simp at hb; subst hb
      intro e; subst e; exact ht ha
  · unfold noteT
    split <;> simp
theorem delta_snoc (n x:Int) (h:Hd):∀ l:List Hd,delta (l ++ [h]) n x=delta l n x+if h.n=n then (if h.a=x then h.s else 0)-(if h.b=x then h.s else 0) else 0
  | []=>by simp [delta]
  | g::l=>by
    have ih:=delta_snoc n x h l
    simp only [List.cons_append,delta,ih];omega
theorem tmH_snoc (n x:Int) (h:Hd) (l:List Hd):x∈tmH (l ++ [h]) n↔x∈tmH l n∨(h.n=n∧(x=h.a∨x=h.b)):=by
  rw [mem_tmH,mem_tmH]
  constructor
  · rintro ⟨g,hg,k⟩
    rcases List.mem_append.1 hg with hg|hg
    · exact .inl ⟨g,hg,k⟩
    · simp at hg; subst hg; exact .inr k
  · rintro (⟨g,hg,k⟩|k)
    · exact ⟨g,by simp [hg],k⟩
    · exact ⟨h,by simp,k⟩
structure InvL (l:List Hd) (n:Int) (T:List Int) (m:List (Int × Int)):Prop where
  d:InvD (delta l n) T m
  mem:∀ x,x∈T↔x∈tmH l n
  len:T.length≤2*l.length
theorem InvL.zero (n:Int):InvL [] n [] []:=⟨InvD.zero,fun x=>by simp [tmH],by simp⟩
theorem InvL.skip {l:List Hd} {n:Int} {T:List Int} {m:List (Int × Int)} {h:Hd} (H:InvL l n T m) (hn:h.n≠n):InvL (l ++ [h]) n T m:=by
  refine ⟨?_,fun x=>?_,by have:=H.len; simp; omega⟩
  · have e:delta (l ++ [h]) n=delta l n:=by funext x; rw [delta_snoc,if_neg hn]; omega
    rw [e]; exact H.d
  · rw [tmH_snoc,H.mem x]; simp [hn]
structure InvN (l:List Hd) (n t nx:Int):Prop where
  no:nx<0→nx = -1∧∀ x∈tmH l n,x≤t
  yes:0≤nx→nx∈tmH l n∧t<nx∧∀ x∈tmH l n,t<x→nx≤x
theorem InvN.zero (n t:Int):InvN [] n t (-1):=⟨fun _=>⟨rfl,fun x hx=>by simp [tmH] at hx⟩,fun h=>by omega⟩
theorem InvN.skip {l:List Hd} {n t nx:Int} {h:Hd} (H:InvN l n t nx) (hn:h.n≠n):InvN (l ++ [h]) n t nx:=by
  refine ⟨fun k=>⟨(H.no k).1,fun x hx=>?_⟩,fun k=>⟨(tmH_snoc _ _ _ _).2 (.inl (H.yes k).1),(H.yes k).2.1,fun x hx=>?_⟩⟩
  · rcases (tmH_snoc _ _ _ _).1 hx with hx|hx
    · exact (H.no k).2 x hx
    · exact absurd hx.1 hn
  · rcases (tmH_snoc _ _ _ _).1 hx with hx|hx
    · exact (H.yes k).2.2 x hx
    · exact absurd hx.1 hn
end Go.Step
namespace Go.Step
end Go.Step
namespace Go.Step
def frA (Q s:Int) (st:Int × List (Int × Int)) (t v:Int):Int × List (Int × Int):=
  if Q-v<s then (-1,if 0≤st.1∧st.1<t then st.2 ++ [(st.1,t)] else st.2) else (if st.1<0 then t else st.1,st.2)
def frL (Q s:Int) (st:Int × List (Int × Int)) (x:Lv):Int × List (Int × Int):=if x.a<1099511627776 then frA Q s st x.a x.v else st
def finA (st:Int × List (Int × Int)):List (Int × Int):=if 0≤st.1∧st.1<1099511627776 then st.2 ++ [(st.1,1099511627776)] else st.2
def frB (Q s:Int) (st:(Int × Bool) × List (Int × Int)) (x:Lv):(Int × Bool) × List (Int × Int):=
  ((if s≤Q-x.v∧st.1.2=false then x.a else st.1.1,decide (s≤Q-x.v)),if st.1.2=true∧Q-x.v<s∧st.1.1<x.a then st.2 ++ [(st.1.1,x.a)] else st.2)
def finB (st:(Int × Bool) × List (Int × Int)):List (Int × Int):=if st.1.2=true∧st.1.1<1099511627776 then st.2 ++ [(st.1.1,1099511627776)] else st.2
structure RlF (A:Int × List (Int × Int)) (B:(Int × Bool) × List (Int × Int)):Prop where
  o:A.2=B.2
  p:0≤B.1.1
  f:A.1=if B.1.2=true then B.1.1 else -1
theorem RlF.step {Q s:Int} {A:Int × List (Int × Int)} {B:(Int × Bool) × List (Int × Int)} (h:RlF A B) {x:Lv} (h0:0≤x.a):RlF (frA Q s A x.a x.v) (frB Q s B x):=by
  obtain ⟨a1,a2⟩:=A
  obtain ⟨⟨b1,b2⟩,b3⟩:=B
  obtain ⟨h1,h2,h3⟩:=h
  dsimp only at h1 h2 h3
  subst h1;unfold frA frB
  dsimp only
  by_cases hr:Q-x.v<s
  · rw [if_pos hr]
    have hd:decide (s≤Q-x.v)=false:=decide_eq_false (by omega)
    cases b2 with
    | true =>
      simp only [if_true] at h3;subst h3;refine ⟨?_,?_,?_⟩
      · dsimp only
        by_cases hl:a1<x.a
        · rw [if_pos ⟨h2,hl⟩,if_pos ⟨rfl,hr,hl⟩]
        · rw [if_neg (by omega),if_neg (by omega)]
      · dsimp only; rw [if_neg (by simp)]; exact h2
      · dsimp only; rw [hd]; rfl
    | false =>
      have h3':a1 = -1:=by simpa using h3
      subst h3';refine ⟨?_,?_,?_⟩
      · dsimp only
        rw [if_neg (by omega),if_neg (by simp)]
      · dsimp only; rw [if_neg (by omega)]; exact h2
      · dsimp only; rw [hd]; rfl
  · rw [if_neg hr]
    have hd:decide (s≤Q-x.v)=true:=decide_eq_true (by omega)
    cases b2 with
    | true =>
      simp only [if_true] at h3;subst h3;refine ⟨?_,?_,?_⟩
      · dsimp only; rw [if_neg (by omega)]
      · dsimp only; rw [if_neg (by simp)]; exact h2
      · dsimp only; rw [hd,if_pos rfl,if_neg (by omega),if_neg (by simp)]
    | false =>
      have h3':a1 = -1:=by simpa using h3
      subst h3';refine ⟨?_,?_,?_⟩
      · dsimp only; rw [if_neg (by simp)]
      · dsimp only; rw [if_pos ⟨by omega,rfl⟩]; exact h0
      · dsimp only; rw [hd,if_pos rfl,if_pos (by omega),if_pos ⟨by omega,rfl⟩]
theorem RlF.fin {A:Int × List (Int × Int)} {B:(Int × Bool) × List (Int × Int)} (h:RlF A B):finA A=finB B:=by
  obtain ⟨a1,a2⟩:=A
  obtain ⟨⟨b1,b2⟩,b3⟩:=B
  obtain ⟨h1,h2,h3⟩:=h
  dsimp only at h1 h2 h3
  subst h1;unfold finA finB
  dsimp only
  cases b2 with
  | true =>
    simp only [if_true] at h3;subst h3
    by_cases hl:a1<1099511627776
    · rw [if_pos ⟨h2,hl⟩,if_pos ⟨rfl,hl⟩]
    · rw [if_neg (by omega),if_neg (by omega)]
  | false =>
    have h3':a1 = -1:=by simpa using h3
    subst h3'
    rw [if_neg (by omega),if_neg (by simp)]
theorem RlF.last {Q s:Int} {A:Int × List (Int × Int)} {B:(Int × Bool) × List (Int × Int)} (h:RlF A B) {x:Lv} (hx:x.a=1099511627776):finA A=finB (frB Q s B x):=by
  obtain ⟨a1,a2⟩:=A
  obtain ⟨⟨b1,b2⟩,b3⟩:=B
  obtain ⟨h1,h2,h3⟩:=h
  dsimp only at h1 h2 h3
  subst h1;unfold finA finB frB
  dsimp only
  rw [hx]
  by_cases hr:Q-x.v<s
  · have hd:decide (s≤Q-x.v)=false:=decide_eq_false (by omega)
    rw [hd]
    cases b2 with
    | true =>
      simp only [if_true] at h3;subst h3
      by_cases hl:a1<1099511627776
      · rw [if_pos ⟨h2,hl⟩,if_neg (by simp),if_pos ⟨rfl,hr,hl⟩]
      · rw [if_neg (by omega),if_neg (by simp),if_neg (by omega)]
    | false =>
      have h3':a1 = -1:=by simpa using h3
      subst h3'
      rw [if_neg (by omega),if_neg (by simp),if_neg (by simp)]
  · have hd:decide (s≤Q-x.v)=true:=decide_eq_true (by omega)
    rw [hd]
    cases b2 with
    | true =>
      simp only [if_true] at h3;subst h3
      rw [if_neg (by simp:¬ (s≤Q-x.v∧true=false)),if_neg (by omega:¬ (true=true∧Q-x.v<s∧a1<1099511627776))]
      by_cases hl:a1<1099511627776
      · rw [if_pos ⟨h2,hl⟩,if_pos ⟨rfl,hl⟩]
      · rw [if_neg (by omega),if_neg (by omega)]
    | false =>
      have h3':a1 = -1:=by simpa using h3
      subst h3'
      rw [if_pos (⟨by omega,rfl⟩:s≤Q-x.v∧false=false),if_neg (by omega),if_neg (by omega),if_neg (by simp)]
def frS (Q s:Int) (f:List Lv) (k:Nat):Int × List (Int × Int):=(f.take k).foldl (frL Q s) (frA Q s (-1,[]) 0 0)
end Go.Step
namespace Go.Eng
variable {C:Cx} {D:List Deferred} {R H:List PH} {L:Env} {K:List It}
variable {dst:Option Tmp} {ty:TypeId} {pos:String} {aft:Array Edge} {g:Option (Nat × Bool)}
theorem OwnS.cells_at {e:TypeId} {s n b cap:Nat} {xs:List Value} {ρ:PH} (h:OwnS e s (.slice (some ⟨b,0,none⟩) n cap) n xs ρ):∃ cur,ρ=sng b (.cells cur e (0,0))∧n≤cap∧cap≤maxLen∧cur.size=cap*s∧cur.toList.take (n*s)=xs:=by
  obtain ⟨_,⟨h1,_⟩|⟨b',cap',cur,h1,rfl,h2,h3,h4,h5⟩⟩:=h
  · simp at h1
  · simp only [Value.slice.injEq,Option.some.injEq,Addr.mk.injEq,and_true,true_and] at h1
    obtain ⟨rfl,rfl⟩:=h1
    exact ⟨cur,rfl,h2,h3,h4,h5⟩
end Go.Eng
namespace Go.Eng
variable {C:Cx} {D:List Deferred} {R H:List PH} {L:Env} {K:List It}
variable {dst:Option Tmp} {ty:TypeId} {pos:String} {aft:Array Edge} {g:Option (Nat × Bool)}
end Go.Eng
namespace Go.Eng
theorem rdN_sng {b:Nat} {vs:List Value} {t:TypeId} {fr:Nat × Nat}:RdN (sng b (.cells vs.toArray t fr)) b 0 vs:=fun j v hv=>by
  rw [rdc_sng,Nat.zero_add]
  simpa using hv
end Go.Eng
namespace Go.Step
open Go.Eng
end Go.Step
namespace Go.Step
def nx (fr to:Int):List Lv→Int
  | []=>to
  | l::f=>if fr<l.a then min l.a to else nx fr to f
end Go.Step
namespace Go.Step
abbrev Pt:=(Int × Int) × Int
/-! times,merged -/
structure TInv (f g:List Lv) (i k:Nat) (out:List Int):Prop where
  sa:SA out
  mem:∀ x,x∈out↔∃ l∈f.take i ++ g.take k,l.a=x
  f:∀ x∈out,∀ l∈f.drop i,x≤l.a
  g:∀ x∈out,∀ l∈g.drop k,x≤l.a
theorem TInv.zero (f g:List Lv):TInv f g 0 0 []:=⟨by simp,by simp,by simp,by simp⟩
theorem TInv.done {f g:List Lv} {out:List Int} (h:TInv f g f.length g.length out):out=tms f g:=by
  obtain ⟨h1,h2⟩:=tms_sa f g
  refine SA.unique h.sa h1 (fun x=>?_)
  rw [h.mem,h2,List.take_length,List.take_length]
theorem SA.len:∀ {out:List Int} {f:List Int},SA out→(∀ x∈out,x∈f)→out.length≤f.length
  | [],_,_,_=>by simp
  | x::out,f,h,hm=>by
    have p:=List.pairwise_cons.1 h
    have hx:=hm x (by simp)
    have:=SA.len (f:=f.erase x) p.2 (fun y hy=>by
      have h1:=hm y (by simp [hy])
      have h2:=p.1 y hy
      exact (List.mem_erase_of_ne (by omega)).2 h1)
    rw [List.length_erase_of_mem hx] at this
    have:0<f.length:=List.length_pos_iff.2 (fun e=>by subst e; simp at hx)
    simp; omega
theorem TInv.len {f g:List Lv} {i k:Nat} {out:List Int} (h:TInv f g i k out):out.length≤f.length+g.length:=by
  have:=SA.len (f:=(f ++ g).map (·.a)) h.sa (fun x hx=>by
    obtain ⟨l,hl,rfl⟩:=(h.mem x).1 hx
    rw [List.mem_map];refine ⟨l,?_,rfl⟩
    simp at hl ⊢
    rcases hl with hl|hl
    · exact .inl (List.mem_of_mem_take hl)
    · exact .inr (List.mem_of_mem_take hl))
  simpa using this
end Go.Step
namespace Go.Step
theorem AddR.err0 {f out:List Lv} {fr to d e:Int} (h:AddR f fr to d out e) (h0:chkS f=0) (hs:0≤fr∧fr≤to∧to≤1099511627776) (hd:-2251799813685248≤d∧d≤2251799813685248) (hv:∀ t,okV (val f t+if fr≤t∧t<to then d else 0)) (hl:f.length≤998):e=0:=by
  rcases h with ⟨a,_⟩|⟨_,a,_⟩|⟨_,_,_,_,_,a⟩|⟨a,b,c,x⟩
  · exact absurd h0 a
  · omega
  · exact a
  · rcases x with ⟨⟨t,_,ht⟩,_⟩|⟨_,hbig,_⟩|⟨_,_,_,he⟩
    · have:=hv t
      dsimp only at ht
      rw [bump_val fr to d t b.2.1] at ht;exact absurd this ht
    · have h1:=comb_len (fun t=>val f t+val (bump fr to d) t) (tms f (bump fr to d)) 0
      obtain ⟨hsa,hmem⟩:=tms_sa f (bump fr to d)
      have h2:=SA.len (f:=(f ++ bump fr to d).map (·.a)) hsa (fun x hx=>by
        obtain ⟨l,hl,rfl⟩:=(hmem x).1 hx
        exact List.mem_map.2 ⟨l,hl,rfl⟩)
      rw [List.length_map,List.length_append] at h2
      have:(bump fr to d).length=2:=rfl
      omega
    · exact he
end Go.Step
namespace Go.Step
theorem CombP.len {F:Int→Int} {ts:List Int} {out:List Lv} {e:Int} (h:CombP F ts out e):out.length≤1000:=by
  rcases h with ⟨_,rfl,_⟩|⟨_,_,rfl,_⟩|⟨_,h,rfl,_⟩
  · simp
  · simp
  · exact h
theorem AddR.len {f out:List Lv} {fr to d e:Int} (h:AddR f fr to d out e):out.length≤1000:=by
  rcases h with ⟨_,rfl,_⟩|⟨_,_,rfl,_⟩|⟨a,_,_,_,rfl,_⟩|⟨_,_,_,hP⟩
  · simp
  · simp
  · exact (chkS_ok a).1
  · exact hP.len
theorem SumR.len {f g out:List Lv} {e:Int} (h:SumR f g out e):out.length≤1000:=by
  rcases h with ⟨_,rfl,_⟩|⟨_,_,hP⟩
  · simp
  · exact hP.len
end Go.Step
namespace Go.Step
theorem tms_len (f g:List Lv):(tms f g).length≤f.length+g.length:=by
  obtain ⟨hsa,hmem⟩:=tms_sa f g
  have h2:=SA.len (f:=(f ++ g).map (·.a)) hsa (fun x hx=>by
    obtain ⟨l,hl,rfl⟩:=(hmem x).1 hx
    exact List.mem_map.2 ⟨l,hl,rfl⟩)
  rw [List.length_map,List.length_append] at h2;exact h2
theorem CombP.len2 {F:Int→Int} {ts:List Int} {out:List Lv} {e:Int} (h:CombP F ts out e):out.length≤ts.length:=by
  rcases h with ⟨_,rfl,_⟩|⟨_,_,rfl,_⟩|⟨_,_,rfl,_⟩
  · simp
  · simp
  · exact comb_len F ts 0
theorem AddR.len2 {f out:List Lv} {fr to d e:Int} (h:AddR f fr to d out e):out.length≤f.length+2:=by
  rcases h with ⟨_,rfl,_⟩|⟨_,_,rfl,_⟩|⟨a,_,_,_,rfl,_⟩|⟨_,_,_,hP⟩
  · simp
  · simp
  · omega
  · have:=hP.len2
    have:=tms_len f (bump fr to d)
    have:(bump fr to d).length=2:=rfl
    omega
theorem okV_val {f:List Lv} (h:chkS f=0) (t:Int):okV (val f t):=by
  have hA:=(chkS_ok h).2
  rcases vat_mem f 0 t with e|⟨l,hl,e⟩
  · unfold okV val; rw [e]; omega
  · unfold okV val
    rw [e]
    have:=hA.gt l hl
    omega
theorem AddR.cond {f out:List Lv} {fr to d:Int} (h:AddR f fr to d out 0):(0≤fr∧fr≤to∧to≤1099511627776) ∧ -2251799813685248≤d∧d≤2251799813685248:=by
  rcases h with ⟨_,_,h⟩|⟨_,_,_,h⟩|⟨_,b,c,_⟩|⟨_,b,c,_⟩
  · simp at h
  · simp at h
  · exact ⟨b,c⟩
  · exact ⟨by omega,c⟩
theorem AddR.back {f p out:List Lv} {fr to d e:Int} (h:AddR f fr to d p 0) (hl:f.length≤900) (h':AddR p fr to (-d) out e):e=0∧out=f:=by
  obtain ⟨c1,c2,c3⟩:=h.cond
  obtain ⟨h1,h2,h3⟩:=h.ok
  have hlp:=h.len2
  have hneg:∀ t:Int,-1≤t→val p t+(if fr≤t∧t<to then -d else 0)=val f t:=fun t ht=>by
    rw [h3 t ht]
    by_cases hc:fr≤t∧t<to
    · rw [if_pos hc,if_pos hc]; omega
    · rw [if_neg hc,if_neg hc]; omega
  have he:e=0:=h'.err0 h2 c1 (by omega) (fun t=>by
    by_cases ht:-1≤t
    · rw [hneg t ht]; exact okV_val h1 t
    · rw [if_neg (by omega)]
      have:=okV_val h2 t
      unfold okV at this ⊢
      omega) (by omega)
  subst he
  obtain ⟨_,k2,k3⟩:=h'.ok
  exact ⟨rfl,chkS_unique k2 h1 (fun t ht=>by rw [k3 t ht,hneg t ht])⟩
theorem AddR.swap {f p q r s:List Lv} {a1 a2 a b1 b2 b:Int} (h1:AddR f a1 a2 a p 0) (h2:AddR p b1 b2 b q 0) (h3:AddR f b1 b2 b r 0) (h4:AddR r a1 a2 a s 0):q=s:=by
  obtain ⟨_,_,e1⟩:=h1.ok
  obtain ⟨_,k2,e2⟩:=h2.ok
  obtain ⟨_,_,e3⟩:=h3.ok
  obtain ⟨_,k4,e4⟩:=h4.ok
  exact chkS_unique k2 k4 (fun t ht=>by rw [e2 t ht,e1 t ht,e4 t ht,e3 t ht]; omega)
theorem tms_comm (f g:List Lv):tms f g=tms g f:=by
  obtain ⟨a1,a2⟩:=tms_sa f g
  obtain ⟨b1,b2⟩:=tms_sa g f
  refine SA.unique a1 b1 (fun x=>?_)
  rw [a2,b2]
  constructor <;> (rintro ⟨l,hl,e⟩; exact ⟨l,by rw [List.mem_append] at hl ⊢; exact hl.symm,e⟩)
theorem SumR.comm {f g o:List Lv} {e:Int} (h:SumR f g o e):SumR g f o e:=by
  rcases h with ⟨a,b,c⟩|⟨a,b,c⟩
  · exact .inl ⟨a.symm,b,c⟩
  · refine .inr ⟨b,a,?_⟩
    rw [tms_comm g f]
    have:(fun t=>val g t+val f t)=(fun t=>val f t+val g t):=funext (fun t=>Int.add_comm _ _)
    rw [this]; exact c
theorem SumR.ok {f g o:List Lv} (h:SumR f g o 0):chkS f=0∧chkS g=0∧chkS o=0∧∀ t:Int,-1≤t→val o t=val f t+val g t:=by
  rcases h with ⟨_,_,h⟩|⟨a,b,c⟩
  · simp at h
  · obtain ⟨h1,h2⟩:=CombP.ok (op:=(· + ·)) (chkS_ok a).2.t (chkS_ok b).2.t rfl c
    exact ⟨a,b,h1,h2⟩
end Go.Step
namespace Go.Step
end Go.Step
namespace Go.Step
def Chn (a:Int):List Pt→Int→Prop
  | [],b=>a=b
  | p::ps,b=>p.1.1=a∧a<p.1.2∧Chn p.1.2 ps b
def Cov (l:List (Int × Int)) (t:Int):Prop:=∃ s∈l,s.1≤t∧t<s.2
structure Apart (lo a:Int) (l:List (Int × Int)):Prop where
  ok:∀ s∈l,lo≤s.1∧s.1<s.2∧s.2≤a
  sep:l.Pairwise (fun s t=>s.2<t.1)
end Go.Step
namespace Go.Step
structure InvF (Q s:Int) (G:Int→Int) (T v:Int) (st:Int × List (Int × Int)):Prop where
  ap:Apart 0 T st.2
  fr:st.1 = -1∨(0≤st.1∧st.1≤T∧∀ u∈st.2,u.2<st.1)
  cov:∀ t,0≤t→t<T→((Cov st.2 t∨(0≤st.1∧st.1≤t))↔G t+s≤Q)
  now:0≤st.1↔v+s≤Q
theorem cov_snoc (l:List (Int × Int)) (x:Int × Int) (t:Int):Cov (l ++ [x]) t↔Cov l t∨(x.1≤t∧t<x.2):=by
  unfold Cov
  constructor
  · rintro ⟨s,hs,h⟩
    rcases List.mem_append.1 hs with hs|hs
    · exact .inl ⟨s,hs,h⟩
    · simp only [List.mem_singleton] at hs; subst hs; exact .inr h
  · rintro (⟨s,hs,h⟩|h)
    · exact ⟨s,by simp [hs],h⟩
    · exact ⟨x,by simp,h⟩
theorem apart_snoc {T T':Int} {l:List (Int × Int)} {x:Int × Int} (h:Apart 0 T l) (hT:T≤T') (hx:0≤x.1∧x.1<x.2∧x.2≤T') (hs:∀ u∈l,u.2<x.1):Apart 0 T' (l ++ [x]):=by
  refine ⟨fun s hm=>?_,List.pairwise_append.2 ⟨h.sep,by simp,fun a ha b hb=>?_⟩⟩
  · rcases List.mem_append.1 hm with hm|hm
    · have:=h.ok s hm; omega
    · simp only [List.mem_singleton] at hm; subst hm; exact hx
  · simp only [List.mem_singleton] at hb; subst hb; exact hs a ha
theorem apart_mono {T T':Int} {l:List (Int × Int)} (h:Apart 0 T l) (hT:T≤T'):Apart 0 T' l:=⟨fun s hm=>by have:=h.ok s hm; omega,h.sep⟩
theorem InvF.step {Q s:Int} {G:Int→Int} {T v:Int} {st:Int × List (Int × Int)} (h:InvF Q s G T v st) {T' v':Int} (h0:0≤T) (hT:T<T'∨(T=T'∧st.2=[])) (hG:∀ t,T≤t→t<T'→G t=v):InvF Q s G T' v' (frA Q s st T' v'):=by
  have hle:T≤T':=by omega
  obtain ⟨fr,out⟩:=st
  obtain ⟨hap,hfr,hcov,hnow⟩:=h
  dsimp only at hap hfr hcov hnow hT
  unfold frA
  by_cases hc:Q-v'<s
  · rw [if_pos hc]
    dsimp only
    by_cases ho:0≤fr∧fr<T'
    · rw [if_pos ho]
      have hsep:∀ u∈out,u.2<fr:=by rcases hfr with h|h; omega; exact h.2.2
      refine ⟨apart_snoc hap hle ⟨ho.1,ho.2,Int.le_refl _⟩ hsep,.inl rfl,fun t ht ht2=>?_,by constructor <;> intro h <;> omega⟩
      dsimp only
      rw [cov_snoc]
      dsimp only
      by_cases c:t<T
      · have:=hcov t ht c
        rw [← this]
        constructor
        · rintro ((h|h)|h)
          · exact .inl h
          · exact .inr ⟨ho.1,h.1⟩
          · omega
        · rintro (h|h)
          · exact .inl (.inl h)
          · exact .inl (.inr ⟨h.2,ht2⟩)
      · rw [hG t (by omega) ht2]
        have:=hnow.1 ho.1
        constructor
        · intro _; exact this
        · intro _
          refine .inl (.inr ⟨?_,ht2⟩)
          rcases hfr with h|h <;> omega
    · rw [if_neg ho]
      refine ⟨apart_mono hap hle,.inl rfl,fun t ht ht2=>?_,by constructor <;> intro h <;> dsimp only at * <;> omega⟩
      dsimp only
      by_cases c:t<T
      · rw [← hcov t ht c]
        constructor
        · rintro (h|h)
          · exact .inl h
          · omega
        · rintro (h|h)
          · exact .inl h
          · omega
      · rw [hG t (by omega) ht2]
        constructor
        · rintro (⟨u,hu,h⟩|h)
          · have:=hap.ok u hu; omega
          · omega
        · intro h
          have:=hnow.2 h
          exact absurd ⟨this,by rcases hfr with k|k <;> omega⟩ ho
  · rw [if_neg hc]
    dsimp only
    by_cases ho:fr<0
    · rw [if_pos ho]
      refine ⟨apart_mono hap hle,.inr ⟨by dsimp only; omega,Int.le_refl _,fun u hu=>?_⟩,fun t ht ht2=>?_,by constructor <;> intro h <;> dsimp only at * <;> omega⟩
      · dsimp only at hu ⊢
        have:=hap.ok u hu
        rcases hT with h|h
        · omega
        · rw [h.2] at hu; simp at hu
      · dsimp only
        by_cases c:t<T
        · rw [← hcov t ht c]
          constructor
          · rintro (h|h)
            · exact .inl h
            · omega
          · rintro (h|h)
            · exact .inl h
            · omega
        · rw [hG t (by omega) ht2]
          constructor
          · rintro (⟨u,hu,h⟩|h)
            · have:=hap.ok u hu; omega
            · omega
          · intro h
            have:=hnow.2 h; omega
    · rw [if_neg ho]
      have hf:0≤fr∧fr≤T∧∀ u∈out,u.2<fr:=by
        rcases hfr with h|h
        · omega
        · exact h
      refine ⟨apart_mono hap hle,.inr ⟨hf.1,by dsimp only; omega,hf.2.2⟩,fun t ht ht2=>?_,by constructor <;> intro h <;> dsimp only at * <;> omega⟩
      dsimp only
      by_cases c:t<T
      · exact hcov t ht c
      · rw [hG t (by omega) ht2]
        have:=hnow.1 hf.1
        constructor
        · intro _; exact this
        · intro _; exact .inr ⟨hf.1,by omega⟩
theorem InvF.fin {Q s:Int} {G:Int→Int} {T v:Int} {st:Int × List (Int × Int)} (h:InvF Q s G T v st) (h0:0≤T) (hT:T≤1099511627776) (hG:∀ t,T≤t→t<1099511627776→G t=v) :
    Apart 0 1099511627776 (finA st)∧∀ t,0≤t→t<1099511627776→(Cov (finA st) t↔G t+s≤Q):=by
  obtain ⟨fr,out⟩:=st
  obtain ⟨hap,hfr,hcov,hnow⟩:=h
  dsimp only at hap hfr hcov hnow
  unfold finA
  dsimp only
  by_cases ho:0≤fr∧fr<1099511627776
  · rw [if_pos ho]
    have hf:fr≤T∧∀ u∈out,u.2<fr:=by rcases hfr with h|h; omega; exact h.2
    refine ⟨apart_snoc hap hT ⟨ho.1,ho.2,Int.le_refl _⟩ hf.2,fun t ht ht2=>?_⟩
    rw [cov_snoc]
    dsimp only
    by_cases c:t<T
    · rw [← hcov t ht c]
      constructor
      · rintro (h|h)
        · exact .inl h
        · exact .inr ⟨ho.1,h.1⟩
      · rintro (h|h)
        · exact .inl h
        · exact .inr ⟨h.2,ht2⟩
    · rw [hG t (by omega) ht2]
      have:=hnow.1 ho.1
      constructor
      · intro _; exact this
      · intro _; exact .inr ⟨by omega,ht2⟩
  · rw [if_neg ho]
    refine ⟨apart_mono hap hT,fun t ht ht2=>?_⟩
    by_cases c:t<T
    · rw [← hcov t ht c]
      constructor
      · exact fun h=>.inl h
      · rintro (h|h)
        · exact h
        · omega
    · rw [hG t (by omega) ht2]
      constructor
      · rintro ⟨u,hu,h⟩
        have:=hap.ok u hu; omega
      · intro h
        have:=hnow.2 h
        exact absurd ⟨this,by rcases hfr with k|k <;> omega⟩ ho
end Go.Step
namespace Go.Step
end Go.Step
namespace Go.Step
end Go.Step
