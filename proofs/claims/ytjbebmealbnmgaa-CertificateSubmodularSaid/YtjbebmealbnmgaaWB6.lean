/- Texts of this proof, one after the other; no conditions. -/
import Derived.Test.YtjbebmealbnmgaaRows
import Derived.Test.YtjbebmealbnmgaaWB5
import Derived.Test.YtjbebmealbnmgaaWB2
import Derived.Test.YtjbebmealbnmgaaWB1
import Derived.Test.YtjbebmealbnmgaaWB0
set_option linter.all false
/- The rows: each law, for every input. -/
namespace Go.Proofs.Ytjbebmealbnmgaa
open Go.Eng Go.Step
set_option maxRecDepth 100000
set_option maxHeartbeats 4000000
open Go.ChangeShapes Go.WideShapes Go.ChangeAt Go.RowKit

theorem Try.own : ownKnob Try.prog.godebug = none := by kernel_rfl
theorem Try.laidOut : laidOutB Try.prog = true := by kernel_rfl
theorem ct_of {W : World} {x : List Value} (h : RdT Try.prog W 75 x) : ∃ a : Ct, x = encC a ∧ True := by
  obtain ⟨h1, _⟩ := h.struct Try.underlying75
  have hc : Try.prog.cellsOf 75 = 7 := by kernel_rfl
  rw [hc] at h1
  match x, h1 with
  | [c0, c1, c2, c3, c4, c5, c6], _ =>
    have k : Try.prog.cellsOf 3 = 1 := by kernel_rfl
    obtain ⟨x0, e0, _⟩ := (h.fld1 Try.underlying75 0 rfl rfl rfl k rfl).i64 Try.underlying3
    obtain ⟨x1, e1, _⟩ := (h.fld1 Try.underlying75 1 rfl rfl rfl k rfl).i64 Try.underlying3
    obtain ⟨x2, e2, _⟩ := (h.fld1 Try.underlying75 2 rfl rfl rfl k rfl).i64 Try.underlying3
    obtain ⟨x3, e3, _⟩ := (h.fld1 Try.underlying75 3 rfl rfl rfl k rfl).i64 Try.underlying3
    obtain ⟨x4, e4, _⟩ := (h.fld1 Try.underlying75 4 rfl rfl rfl k rfl).i64 Try.underlying3
    obtain ⟨x5, e5, _⟩ := (h.fld1 Try.underlying75 5 rfl rfl rfl k rfl).i64 Try.underlying3
    obtain ⟨x6, e6, _⟩ := (h.fld1 Try.underlying75 6 rfl rfl rfl k rfl).i64 Try.underlying3
    simp at e0 e1 e2 e3 e4 e5 e6
    subst e0 e1 e2 e3 e4 e5 e6
    exact ⟨⟨x0, x1, x2, x3, x4, x5, x6⟩, rfl, trivial⟩
theorem bk_of {W : World} {x : List Value} (h : RdT Try.prog W 105 x) : ∃ a : Bk, x = encB a ∧ True := by
  obtain ⟨h1, _⟩ := h.struct Try.underlying105
  have hc : Try.prog.cellsOf 105 = 4 := by kernel_rfl
  rw [hc] at h1
  match x, h1 with
  | [c0, c1, c2, c3], _ =>
    have k : Try.prog.cellsOf 3 = 1 := by kernel_rfl
    obtain ⟨x0, e0, _⟩ := (h.fld1 Try.underlying105 0 rfl rfl rfl k rfl).i64 Try.underlying3
    obtain ⟨x1, e1, _⟩ := (h.fld1 Try.underlying105 1 rfl rfl rfl k rfl).i64 Try.underlying3
    obtain ⟨x2, e2, _⟩ := (h.fld1 Try.underlying105 2 rfl rfl rfl k rfl).i64 Try.underlying3
    obtain ⟨x3, e3, _⟩ := (h.fld1 Try.underlying105 3 rfl rfl rfl k rfl).i64 Try.underlying3
    simp at e0 e1 e2 e3
    subst e0 e1 e2 e3
    exact ⟨⟨x0, x1, x2, x3⟩, rfl, trivial⟩
theorem hd_of {W : World} {x : List Value} (h : RdT Try.prog W 88 x) : ∃ a : Hd, x = encH a ∧ True := by
  obtain ⟨h1, _⟩ := h.struct Try.underlying88
  have hc : Try.prog.cellsOf 88 = 5 := by kernel_rfl
  rw [hc] at h1
  match x, h1 with
  | [c0, c1, c2, c3, c4], _ =>
    have k : Try.prog.cellsOf 3 = 1 := by kernel_rfl
    obtain ⟨x0, e0, _⟩ := (h.fld1 Try.underlying88 0 rfl rfl rfl k rfl).i64 Try.underlying3
    obtain ⟨x1, e1, _⟩ := (h.fld1 Try.underlying88 1 rfl rfl rfl k rfl).i64 Try.underlying3
    obtain ⟨x2, e2, _⟩ := (h.fld1 Try.underlying88 2 rfl rfl rfl k rfl).i64 Try.underlying3
    obtain ⟨x3, e3, _⟩ := (h.fld1 Try.underlying88 3 rfl rfl rfl k rfl).i64 Try.underlying3
    obtain ⟨x4, e4, _⟩ := (h.fld1 Try.underlying88 4 rfl rfl rfl k rfl).i64 Try.underlying3
    simp at e0 e1 e2 e3 e4
    subst e0 e1 e2 e3 e4
    exact ⟨⟨x0, x1, x2, x3, x4⟩, rfl, trivial⟩
theorem sp_of {W : World} {x : List Value} (h : RdT Try.prog W 55 x) : ∃ a : (Int × Int), x = encS a ∧ True := by
  obtain ⟨h1, _⟩ := h.struct Try.underlying55
  have hc : Try.prog.cellsOf 55 = 2 := by kernel_rfl
  rw [hc] at h1
  match x, h1 with
  | [c0, c1], _ =>
    have k : Try.prog.cellsOf 3 = 1 := by kernel_rfl
    obtain ⟨x0, e0, _⟩ := (h.fld1 Try.underlying55 0 rfl rfl rfl k rfl).i64 Try.underlying3
    obtain ⟨x1, e1, _⟩ := (h.fld1 Try.underlying55 1 rfl rfl rfl k rfl).i64 Try.underlying3
    simp at e0 e1
    subst e0 e1
    exact ⟨⟨x0, x1⟩, rfl, trivial⟩
theorem demand_of {W : World} {r : Reach} {base : Nat} {v0 : Value} (hv : Value.okWide Try.prog W r base 31 v0) (h : RdT Try.prog W 31 v0.cells.toList) : ∃ a : Dm, v0 = .agg [int a.s, int a.d, int a.v, int a.r, int a.e].toArray ∧ In64 a.s ∧ In64 a.d ∧ In64 a.v ∧ In64 a.r ∧ In64 a.e := by
  obtain ⟨cs, rfl⟩ := okWide_agg Try.underlying31 hv
  obtain ⟨h1, _⟩ := h.struct Try.underlying31
  have hc : Try.prog.cellsOf 31 = 5 := by kernel_rfl
  rw [hc] at h1
  obtain ⟨x⟩ := cs
  match x, h1 with
  | [c0, c1, c2, c3, c4], _ =>
    have k : Try.prog.cellsOf 3 = 1 := by kernel_rfl
    obtain ⟨x0, e0, i0⟩ := (h.fld1 Try.underlying31 0 rfl rfl rfl k rfl).i64 Try.underlying3
    obtain ⟨x1, e1, i1⟩ := (h.fld1 Try.underlying31 1 rfl rfl rfl k rfl).i64 Try.underlying3
    obtain ⟨x2, e2, i2⟩ := (h.fld1 Try.underlying31 2 rfl rfl rfl k rfl).i64 Try.underlying3
    obtain ⟨x3, e3, i3⟩ := (h.fld1 Try.underlying31 3 rfl rfl rfl k rfl).i64 Try.underlying3
    obtain ⟨x4, e4, i4⟩ := (h.fld1 Try.underlying31 4 rfl rfl rfl k rfl).i64 Try.underlying3
    simp at e0 e1 e2 e3 e4
    subst e0 e1 e2 e3 e4
    exact ⟨⟨x0, x1, x2, x3, x4⟩, rfl, i0, i1, i2, i3, i4⟩
theorem int_of {W : World} {x : List Value} (h : RdT Try.prog W 3 x) : ∃ a : Int, x = Eng.encI a ∧ True := by
  obtain ⟨a, e, _⟩ := h.i64 Try.underlying3
  exact ⟨a, e, trivial⟩
theorem tables_of {W : World} {r : Reach} {base : Nat} {v0 : Value} (hv : Value.okWide Try.prog W r base 29 v0) (h : RdT Try.prog W 29 v0.cells.toList) :
    ∃ (pq pc pb ph : Option Addr) (kq kc kb kh : Nat) (qs : List Int) (cs : List Ct) (bs : List Bk) (hs : List Hd), v0 = .agg #[.slice pq qs.length kq, .slice pc cs.length kc, .slice pb bs.length kb, .slice ph hs.length kh] ∧ TbAt (heapPH W) (heapPH W) (heapPH W) (heapPH W) pq pc pb ph kq kc kb kh qs cs bs hs := by
  obtain ⟨cs, rfl⟩ := okWide_agg Try.underlying29 hv
  obtain ⟨h1, hf⟩ := h.struct Try.underlying29
  have hc : Try.prog.cellsOf 29 = 4 := by kernel_rfl
  rw [hc] at h1
  obtain ⟨x⟩ := cs
  match x, h1 with
  | [c0, c1, c2, c3], _ =>
    have k0 : Try.prog.cellsOf 22 = 1 := by kernel_rfl
    have k1 : Try.prog.cellsOf 23 = 1 := by kernel_rfl
    have k2 : Try.prog.cellsOf 26 = 1 := by kernel_rfl
    have k3 : Try.prog.cellsOf 27 = 1 := by kernel_rfl
    have kp : Try.prog.cellsOf 25 = 2 := by kernel_rfl
    have hp : RdT Try.prog W 25 [c0, c1] := by
      have : RdT Try.prog W 25 ((([c0, c1, c2, c3] : List Value).drop 0).take (Try.prog.cellsOf 25)) := hf 0 _ rfl
      rw [show (Try.prog.cellsOf 25) = 2 from kp] at this
      exact this
    have f0 := hp.fld1 Try.underlying25 0 rfl rfl rfl k0 rfl
    have f1 := hp.fld1 Try.underlying25 1 rfl rfl rfl k1 rfl
    have f2 := h.fld1 Try.underlying29 1 rfl rfl rfl k2 rfl
    have f3 := h.fld1 Try.underlying29 2 rfl rfl rfl k3 rfl
    obtain ⟨v, e, qs, a1, a2, a3⟩ := f0.sliceE Try.underlying22 (s := 1) (by kernel_rfl) (by omega) (fun x hx => int_of hx)
    simp only [List.cons.injEq, and_true] at e
    obtain ⟨u, e', ct, b1, b2, b3⟩ := f1.sliceE Try.underlying23 (s := 7) (by kernel_rfl) (by omega) (fun x hx => ct_of hx)
    simp only [List.cons.injEq, and_true] at e'
    obtain ⟨u2, e2, bk, d1, d2, d3⟩ := f2.sliceE Try.underlying26 (s := 4) (by kernel_rfl) (by omega) (fun x hx => bk_of hx)
    simp only [List.cons.injEq, and_true] at e2
    obtain ⟨u3, e3, hd, g1, g2, g3⟩ := f3.sliceE Try.underlying27 (s := 5) (by kernel_rfl) (by omega) (fun x hx => hd_of hx)
    simp only [List.cons.injEq, and_true] at e3
    have cap2 := f1.capOK Try.underlying23
    subst e e' e2 e3
    obtain ⟨pq, kq, rfl, _⟩ := a1.val Eng.encI_len
    obtain ⟨pc, kc, rfl, _⟩ := b1.val encC_len
    obtain ⟨pb, kb, rfl, _⟩ := d1.val encB_len
    obtain ⟨ph, kh, rfl, _⟩ := g1.val encH_len
    simp only [maxLen] at a3 b3 d3 g3
    exact ⟨pq, pc, pb, ph, kq, kc, kb, kh, qs, ct, bk, hd, rfl, a1, b1, cap2.le, by omega, by omega, d1, by omega, g1, by omega⟩
theorem cut_of {W : World} {x : Value} (h : RdT Try.prog W 39 [x]) : ∃ (p : Option Addr) (k : Nat) (c : Cu), x = .slice p c.length k ∧ CutRow (heapPH W) (heapPH W) p c ∧ c.length ≤ 9223372036854775807 := by
  obtain ⟨v, p, k, e, els, rfl, hle, hx⟩ := h.slice Try.underlying39 (s := 1) (by kernel_rfl) (by omega)
  simp only [List.cons.injEq, and_true] at e
  subst e
  obtain ⟨c, hl, hq⟩ := choose_list (fun i (l : List (Int × Int)) => ∃ v, els[i]? = some [v] ∧ SpAt (heapPH W) v l ∧ l.length ≤ 9223372036854775807) els.length (fun i hi => by
    obtain ⟨_, h2, _⟩ := hx i _ (List.getElem?_eq_getElem hi)
    obtain ⟨v, e, l, h3, _, h4⟩ := h2.sliceE Try.underlying56 (s := 2) (by kernel_rfl) (by omega) (fun x hx => sp_of hx)
    exact ⟨l, v, by rw [List.getElem?_eq_getElem hi, e], h3, by simp only [maxLen] at h4; omega⟩)
  simp only [maxLen] at hle
  refine ⟨p, k, c, by rw [hl], fun i l hil => ?_, by omega⟩
  obtain ⟨v, e, h3, h4⟩ := hq i l hil
  obtain ⟨_, _, b, o, rfl, hr⟩ := hx i _ e
  obtain ⟨q, kk, rfl, _⟩ := h3.val encS_len
  refine ⟨b, o, q, kk, rfl, ?_, h3, h4⟩
  have := hr 0 _ rfl
  rwa [Nat.mul_one, Nat.add_zero] at this
theorem cutV_of {W : World} {r : Reach} {base : Nat} {v0 : Value} (hv : Value.okWide Try.prog W r base 39 v0) (h : RdT Try.prog W 39 v0.cells.toList) : ∃ (p : Option Addr) (k : Nat) (c : Cu), v0 = .slice p c.length k ∧ CutRow (heapPH W) (heapPH W) p c ∧ c.length ≤ 9223372036854775807 := by
  obtain ⟨a, len, cap, rfl⟩ := okWide_slice Try.underlying39 hv
  exact cut_of h
end Go.Proofs.Ytjbebmealbnmgaa
/- What an owned slice looks like; chunks that hold more. No conditions. -/
namespace Go.Eng
theorem OwnS.form {e : TypeId} {s n : Nat} {v : Value} {xs : List Value} {ρ : PH} (h : OwnS e s v n xs ρ) : ∃ p c, v = .slice p n c := by
  obtain ⟨_, ⟨rfl, rfl, _⟩ | ⟨b, cap, _, rfl, _⟩⟩ := h
  · exact ⟨none, 0, rfl⟩
  · exact ⟨_, cap, rfl⟩
theorem OwnS.formP {e : TypeId} {s n : Nat} {v : Value} {xs : List Value} {ρ : PH} (h : OwnS e s v n xs ρ) (hn : 0 < n) : ∃ b c, v = .slice (some ⟨b, 0, none⟩) n c := by
  obtain ⟨_, ⟨_, h, _⟩ | ⟨b, cap, _, rfl, _⟩⟩ := h
  · omega
  · exact ⟨b, cap, rfl⟩
theorem SlAt.mono {ρ γ : PH} {s n : Nat} {v : Value} {xs : List Value} (h : SlAt ρ s v n xs) (hs : PH.sub ρ γ) : SlAt γ s v n xs := by
  obtain ⟨h1, h2 | ⟨b, o, c, e, h3⟩⟩ := h
  · exact ⟨h1, .inl h2⟩
  · exact ⟨h1, .inr ⟨b, o, c, e, fun j u hu => hs.rdc (h3 j u hu)⟩⟩
theorem SlE.mono {α : Type} {enc : α → List Value} {s : Nat} {ρ γ : PH} {v : Value} {l : List α} (h : SlE enc s ρ v l) (hs : PH.sub ρ γ) : SlE enc s γ v l := SlAt.mono h hs
end Go.Eng
/- Slices of sets. -/
namespace Go.Proofs.Ytjbebmealbnmgaa
open Go.Eng Go.Step
set_option maxRecDepth 100000
set_option maxHeartbeats 4000000

/-- a set with its slice's place and room -/
abbrev Sq := (Option Addr × Nat) × List (Int × Int)
def encQ (x : Sq) : List Value := [.slice x.1.1 x.2.length x.1.2]
theorem encQ_len (x : Sq) : (encQ x).length = 1 := rfl
abbrev cuL (L : List Sq) : Cu := L.map (fun x => x.2)
/-- a cut in memory -/
def CutL (γ κ : PH) (v : Value) (L : List Sq) : Prop := SlE encQ 1 γ v L ∧ ∀ x ∈ L, SpAt κ (.slice x.1.1 x.2.length x.1.2) x.2 ∧ x.2.length ≤ 9223372036854775807
theorem CutL.row {γ κ : PH} {p : Option Addr} {n kk : Nat} {L : List Sq} (h : CutL γ κ (.slice p n kk) L) : CutRow γ κ p (cuL L) := fun i l hl => by
  rw [List.getElem?_map] at hl
  obtain ⟨x, hx, rfl⟩ := Option.map_eq_some_iff.1 hl
  obtain ⟨q, k, e, hr⟩ := h.1.val encQ_len
  simp only [Value.slice.injEq] at e
  obtain ⟨b, o, e2, hrd⟩ := hr i x hx
  obtain ⟨h1, h2⟩ := h.2 x (List.mem_of_getElem? hx)
  refine ⟨b, o, x.1.1, x.1.2, by rw [e.1, e2], ?_, h1, h2⟩
  have := hrd 0 _ rfl
  rwa [Nat.mul_one, Nat.add_zero] at this
theorem CutRow.cutL {γ κ : PH} {p : Option Addr} {c : Cu} (h : CutRow γ κ p c) (kk : Nat) : ∃ L : List Sq, cuL L = c ∧ L.length = c.length ∧ CutL γ κ (.slice p L.length kk) L := by
  obtain ⟨L, hL, hq⟩ := choose_list (fun i (x : Sq) => c[i]? = some x.2 ∧ (∃ b o, p = some ⟨b, o, none⟩ ∧ rdc γ b (o + i) = some (.slice x.1.1 x.2.length x.1.2)) ∧ SpAt κ (.slice x.1.1 x.2.length x.1.2) x.2 ∧ x.2.length ≤ 9223372036854775807) c.length (fun i hi => by
    obtain ⟨b, o, q, k, e, h1, h2, h3⟩ := h i _ (List.getElem?_eq_getElem hi)
    exact ⟨((q, k), c[i]), List.getElem?_eq_getElem hi, ⟨b, o, e, h1⟩, h2, h3⟩)
  have he : cuL L = c := by
    apply List.ext_getElem?
    intro i
    rw [List.getElem?_map]
    by_cases hi : i < L.length
    · have := (hq i _ (List.getElem?_eq_getElem hi)).1
      rw [List.getElem?_eq_getElem hi, this]; rfl
    · rw [List.getElem?_eq_none (by omega), List.getElem?_eq_none (by omega)]; rfl
  refine ⟨L, he, hL, ⟨by rw [flat_len encQ_len], ?_⟩, fun x hx => ?_⟩
  · rcases Nat.eq_zero_or_pos L.length with hz | hz
    · exact .inl ⟨hz, p, kk, by rw [hz]⟩
    · obtain ⟨b, o, e, _⟩ := (hq 0 _ (List.getElem?_eq_getElem hz)).2.1
      refine .inr ⟨b, o, kk, by rw [e], fun j u hu => ?_⟩
      have hj : j < L.length := by
        have := (List.getElem?_eq_some_iff.1 hu).1
        rwa [flat_len encQ_len, Nat.mul_one] at this
      obtain ⟨b2, o2, e2, h2⟩ := (hq j _ (List.getElem?_eq_getElem hj)).2.1
      rw [e] at e2
      simp only [Option.some.injEq, Addr.mk.injEq, and_true] at e2
      obtain ⟨rfl, rfl⟩ := e2
      have hf := flat_get encQ_len L j _ (List.getElem?_eq_getElem hj) 0 _ rfl
      rw [Nat.mul_one, Nat.add_zero] at hf
      rw [hf] at hu
      obtain rfl := Option.some.inj hu
      exact h2
  · obtain ⟨i, hi, e⟩ := List.getElem_of_mem hx
    exact (hq i x (by rw [List.getElem?_eq_getElem hi, e])).2.2
theorem one_Q (x : Sq) : ∀ u ∈ encQ x, u.oneCell' = true := by
  intro u hu
  simp only [encQ, List.mem_cons, List.not_mem_nil, or_false] at hu
  rcases hu with rfl <;> rfl
theorem ones_Q (l : List Sq) : ∀ u ∈ l.flatMap encQ, u.oneCell' = true := by
  intro u hu
  rw [List.mem_flatMap] at hu
  obtain ⟨a, _, hu⟩ := hu
  exact one_Q a u hu
theorem growQ_spec (n : Nat) (hn : n ≤ 100000000) : Makes Try.prog (fv 69) [.slice none 0 0, int n] [] (fun r σ => OwnS 56 1 r 0 [] σ) := by
  refine spec_in (cap := []) Try.func69 rfl rfl Try.ntmps69 rfl (by (repeat (first | exact EnvA.nil EnvI.nil | apply EnvA.cons | apply EnvA.nil | exact EnvI.nil | apply EnvI.cons)); first | done | fail) (fun N β => ?_)
  rcases Nat.eq_zero_or_pos n with h0 | h0
  · subst h0
    refine jk_emp ?_
    refine jk_seq ?_
    refine jk_region ?_
    refine zq_assign ?_
    refine jk_nil ?_
    refine jk_seq ?_
    refine jk_seq ?_
    refine jk_region ?_
    refine zq_move ?_
    refine zq_ltF ?_
    refine jk_nil ?_
    refine jk_if_f rfl ?_
    refine jk_skip ?_
    refine jk_seq ?_
    refine jk_seq ?_
    refine jk_region ?_
    refine zq_move ?_
    refine zq_move ?_
    refine zq_cap ?_
    refine zq_move ?_
    refine zq_len ?_
    refine zq_sub ?_
    refine zq_sub ?_
    refine zq_assign ?_
    refine jk_nil ?_
    refine jk_seq ?_
    refine jk_region ?_
    refine zq_move ?_
    refine zq_gtF ?_
    refine jk_nil ?_
    refine jk_if_f rfl ?_
    refine jk_skip ?_
    refine jk_seq ?_
    refine jk_region ?_
    refine zq_move ?_
    refine zq_assign ?_
    refine jk_nil ?_
    exact jk_ret_any (res1 rfl rfl) (by (repeat (first | exact rs_nil | (refine rs_cons ?_ ?_; (focus ((repeat (first | exact .here | apply Mem.there | apply Take.there)); first | done | fail))) | exact fun ρ hρ => hρ | (intro ρ hρ; repeat (first | exact hρ | refine List.mem_cons_of_mem _ ?_)))); first | done | fail) selZ ⟨emp, OwnS.nil _ _, rfl⟩
  · have e0 : (n : Int) - (((0 : Nat) : Int) - ((0 : Nat) : Int)) = (n : Int) := by omega
    refine jk_seq ?_
    refine jk_region ?_
    refine zq_assign ?_
    refine jk_nil ?_
    refine jk_seq ?_
    refine jk_seq ?_
    refine jk_region ?_
    refine zq_move ?_
    refine zq_ltF ?_
    refine jk_nil ?_
    refine jk_if_f rfl ?_
    refine jk_skip ?_
    refine jk_seq ?_
    refine jk_seq ?_
    refine jk_region ?_
    refine zq_move ?_
    refine zq_move ?_
    refine zq_cap ?_
    refine zq_move ?_
    refine zq_len ?_
    refine zq_sub ?_
    refine zq_sub ?_
    refine zq_assign ?_
    refine jk_nil ?_
    refine jk_seq ?_
    refine jk_region ?_
    refine zq_move ?_
    refine zq_gt ?_
    refine jk_nil ?_
    refine jk_if_t rfl ?_
    refine jk_region ?_
    refine zq_move ?_
    refine zq_move ?_
    refine zq_cap ?_
    refine zq_cutHi ?_
    refine zq_move ?_
    focus ((rw [e0]))
    refine jk_op (l_appendZ (n := n) (by_ := 24) (s := 1) rfl rfl rfl rfl rfl rfl rfl rfl (by decide) h0 (by simp only [maxLen]; omega) (by omega)) rfl rfl rfl ?_
    rintro _ _ ⟨b, cap, cur, rfl, rfl, h1, h2, h3⟩
    have hcz := cutP_zero b cap 1
    refine jk_q (q_move rfl) rfl rfl rfl ?_
    refine jk_q (q_len rfl rfl) rfl rfl rfl ?_
    refine jk_q (q_cutHi (i := 0) (s := 1) rfl rfl rfl rfl (by omega)) rfl rfl rfl ?_
    rw [hcz]
    refine zq_assign ?_
    refine jk_nil ?_
    refine jk_seq ?_
    refine jk_region ?_
    refine zq_move ?_
    refine zq_assign ?_
    refine jk_nil ?_
    exact jk_ret_any (res1 rfl rfl) (by (repeat (first | exact rs_nil | (refine rs_cons ?_ ?_; (focus ((repeat (first | exact .here | apply Mem.there | apply Take.there)); first | done | fail))) | exact fun ρ hρ => hρ | (intro ρ hρ; repeat (first | exact hρ | refine List.mem_cons_of_mem _ ?_)))); first | done | fail) selZ ⟨_, OwnS.room h2 h3, rfl⟩
set_option maxHeartbeats 8000000 in
theorem concatQ_spec (τ : PH) (Rs : List PH) (v : Value) (vs : List Value) (ls : List (List Sq)) (hv : SlE encW 1 τ v vs) (hlen : vs.length = ls.length) (hall : ∀ (i : Nat) (w : Value) (l : List Sq), vs[i]? = some w → ls[i]? = some l → ∃ σ ∈ Rs, SlE encQ 1 σ w l) (hk : vs.length ≤ 1000) (ht : totL ls ≤ 1000000) :
    Makes Try.prog (fv 53) [v] (τ :: Rs) (fun r σ => OwnS 56 1 r ls.flatten.length (ls.flatten.flatMap encQ) σ) := by
  obtain ⟨q, c, rfl, hr⟩ := hv.val encW_len
  refine spec_in (cap := []) Try.func53 rfl rfl Try.ntmps53 rfl (by (repeat (first | exact EnvA.nil EnvI.nil | apply EnvA.cons | apply EnvA.nil | exact EnvI.nil | apply EnvI.cons)); first | done | fail) (fun N β => ?_)
  refine jk_seq ?_
  refine jk_region ?_
  refine zq_assign ?_
  refine jk_nil ?_
  refine jk_seq ?_
  refine jk_region ?_
  refine zq_assign ?_
  refine jk_nil ?_
  refine jk_seq ?_
  refine jk_seq ?_
  refine jk_region ?_
  refine zq_move ?_
  refine zq_len ?_
  refine zq_move ?_
  refine jk_nil ?_
  refine jk_block ?_
  refine jk_loop [0, 9, 10] (0 : Nat) (fun k => k ≤ vs.length) (fun k => [(11, int k), (3, int ((totL (ls.take k) : Nat) : Int))]) (fun _ => []) (fun k => vs.length - k) pickZ (by omega) ⟨rfl, rfl, trivial⟩ selZ ?_
  rintro k hkk
  by_cases hlt : k < vs.length
  · obtain ⟨w, hw⟩ : ∃ w, vs[k]? = some w := ⟨_, List.getElem?_eq_getElem hlt⟩
    obtain ⟨l, hl⟩ : ∃ l, ls[k]? = some l := ⟨_, List.getElem?_eq_getElem (by omega)⟩
    obtain ⟨σ, hσ, hS⟩ := hall k w l hw hl
    obtain ⟨p2, c2, rfl, _⟩ := hS.val encQ_len
    obtain ⟨b1, o1, rfl, hrd⟩ := hr k _ hw
    have g0 : rdc τ b1 (o1 + k) = some (.slice p2 l.length c2) := by have := hrd.get0; rwa [Nat.mul_one] at this
    have hst := totL_take ls k l hl
    have hle := totL_le ls (k + 1)
    have hsum : ((totL (ls.take k) : Nat) : Int) + (l.length : Int) = ((totL (ls.take (k + 1)) : Nat) : Int) := by omega
    refine jk_seq ?_
    refine jk_region ?_
    refine zq_lt ?_
    refine jk_nil ?_
    refine jk_seq ?_
    refine jk_if_t rfl ?_
    refine jk_skip ?_
    refine jk_seq ?_
    refine jk_block ?_
    refine jk_seq ?_
    refine jk_region ?_
    refine zq_idx1 ?_
    refine zq_load ?_
    refine zq_assign ?_
    refine jk_nil ?_
    refine jk_seq ?_
    refine jk_region ?_
    refine zq_move ?_
    refine zq_move ?_
    refine zq_len ?_
    refine zq_add ?_
    refine zq_assign ?_
    refine jk_nil ?_
    refine jk_seq ?_
    refine jk_region ?_
    refine zq_move ?_
    refine zq_ltF ?_
    refine jk_nil ?_
    refine jk_if_f rfl ?_
    refine jk_skip ?_
    refine jk_blk ?_
    refine jk_region ?_
    refine zq_inc ?_
    refine zq_move ?_
    refine jk_nil ?_
    focus ((rw [hsum]))
    exact jk_round (k + 1) (by omega) (by omega) covZ selZ
  · have hkl : k = vs.length := by omega
    subst hkl
    rw [List.take_of_length_le (by omega)]
    refine jk_seq ?_
    refine jk_region ?_
    refine zq_ltF ?_
    refine jk_nil ?_
    refine jk_seq ?_
    refine jk_if_f rfl ?_
    refine jk_exit rfl ?_
    refine jk_seq ?_
    refine jk_region ?_
    refine zq_move ?_
    refine jk_callM (growQ_spec (totL ls) (by omega)) rfl rfl rdZ rfl rfl ?_
    rintro u0 σ0 hO0
    refine zq_assign ?_
    refine jk_nil ?_
    refine jk_seq ?_
    refine jk_seq ?_
    refine jk_region ?_
    refine zq_move ?_
    refine zq_len ?_
    refine zq_move ?_
    refine jk_nil ?_
    refine jk_block ?_
    refine jk_loop [25, 26] (X := Nat × (Value × PH)) (0, (u0, σ0)) (fun x => x.1 ≤ vs.length ∧ OwnS 56 1 x.2.1 (ls.take x.1).flatten.length ((ls.take x.1).flatten.flatMap encQ) x.2.2) (fun x => [(27, int x.1), (6, x.2.1)]) (fun x => [x.2.2]) (fun x => vs.length - x.1) pickZ ⟨by dsimp only; omega, by simpa using hO0⟩ covZ selZ ?_
    rintro ⟨k, ⟨u, σ1⟩⟩ ⟨hk2, hO⟩
    dsimp only at hk2 hO ⊢
    by_cases hlt2 : k < vs.length
    · obtain ⟨w, hw⟩ : ∃ w, vs[k]? = some w := ⟨_, List.getElem?_eq_getElem hlt2⟩
      obtain ⟨l, hl⟩ : ∃ l, ls[k]? = some l := ⟨_, List.getElem?_eq_getElem (by omega)⟩
      obtain ⟨σ, hσ, hS⟩ := hall k w l hw hl
      have hS2 := hS
      obtain ⟨p2, c2, rfl, _⟩ := hS.val encQ_len
      obtain ⟨b1, o1, rfl, hrd⟩ := hr k _ hw
      have g0 : rdc τ b1 (o1 + k) = some (.slice p2 l.length c2) := by have := hrd.get0; rwa [Nat.mul_one] at this
      have hst := totL_take ls k l hl
      have hle := totL_le ls (k + 1)
      have hfl := totL_flat (ls.take k)
      refine jk_seq ?_
      refine jk_region ?_
      refine zq_lt ?_
      refine jk_nil ?_
      refine jk_seq ?_
      refine jk_if_t rfl ?_
      refine jk_skip ?_
      refine jk_seq ?_
      refine jk_block ?_
      refine jk_seq ?_
      refine jk_region ?_
      refine zq_idx1 ?_
      refine zq_load ?_
      refine zq_assign ?_
      refine jk_nil ?_
      refine jk_region ?_
      refine zq_move ?_
      refine zq_move ?_
      refine jk_op (l_appendE (by_ := 24) (s := 1) (σ := σ) (news := l.flatMap encQ) (m := l.length) rfl rfl rfl rfl rfl rfl rfl hO takeZ hS2 (fun b o h => cells_of_mem (List.mem_cons_of_mem _ (List.mem_cons_of_mem _ hσ)) h) (ones_Q l) (by simp only [maxLen]; omega) (by omega)) rfl rfl rfl ?_
      rintro u1 _ ⟨σ2, hO2, rfl⟩
      refine zq_assign ?_
      refine jk_nil ?_
      refine jk_blk ?_
      refine jk_region ?_
      refine zq_inc ?_
      refine zq_move ?_
      refine jk_nil ?_
      refine jk_round (k + 1, (u1, σ2)) ⟨by dsimp only; omega, ?_⟩ (by dsimp only; omega) covZ selZ
      dsimp only
      rw [flat_succ ls k l hl, List.length_append, List.flatMap_append]
      exact hO2
    · have hkl : k = vs.length := by omega
      subst hkl
      rw [List.take_of_length_le (by omega)] at hO
      refine jk_seq ?_
      refine jk_region ?_
      refine zq_ltF ?_
      refine jk_nil ?_
      refine jk_seq ?_
      refine jk_if_f rfl ?_
      refine jk_exit rfl ?_
      refine jk_seq ?_
      refine jk_region ?_
      refine zq_move ?_
      refine zq_assign ?_
      refine jk_nil ?_
      exact jk_ret_any (res1 rfl rfl) (by (repeat (first | exact rs_nil | (refine rs_cons ?_ ?_; (focus ((repeat (first | exact .here | apply Mem.there | apply Take.there)); first | done | fail))) | exact fun ρ hρ => hρ | (intro ρ hρ; repeat (first | exact hρ | refine List.mem_cons_of_mem _ ?_)))); first | done | fail) selZ ⟨σ1, hO, rfl⟩
theorem indexQ_spec (ρ : PH) (Rs : List PH) (v fn : Value) (l : List Sq) (p : Sq → Bool) (hv : SlE encQ 1 ρ v l) (hl : l.length ≤ 9223372036854775807) (hfn : ∀ (i : Nat) (x : Sq), l[i]? = some x → Ans Try.prog fn [.slice x.1.1 x.2.length x.1.2] Rs (fun r => r = .bool (p x))) :
    Ans Try.prog (fv 68) [v, fn] (ρ :: Rs) (fun r => (∃ (i : Nat) (x : Sq), l[i]? = some x ∧ p x = true ∧ (∀ (j : Nat) (y : Sq), j < i → l[j]? = some y → p y = false) ∧ r = int i) ∨ ((∀ x ∈ l, p x = false) ∧ r = int (-1))) := by
  obtain ⟨q, c, rfl, hr⟩ := hv.val encQ_len
  refine spec_in (cap := []) Try.func68 rfl rfl Try.ntmps68 rfl (by (repeat (first | exact EnvA.nil EnvI.nil | apply EnvA.cons | apply EnvA.nil | exact EnvI.nil | apply EnvI.cons)); first | done | fail) (fun N β => ?_)
  refine jk_seq ?_
  refine jk_region ?_
  refine zq_assign ?_
  refine jk_nil ?_
  refine jk_seq ?_
  refine jk_seq ?_
  refine jk_region ?_
  refine zq_move ?_
  refine zq_len ?_
  refine zq_move ?_
  refine jk_nil ?_
  refine jk_block ?_
  refine jk_loop [0, 1, 7] (0 : Nat) (fun k => k ≤ l.length ∧ ∀ (i : Nat) (x : Sq), i < k → l[i]? = some x → p x = false) (fun k => [(8, int k)]) (fun _ => []) (fun k => l.length - k) pickZ ⟨by omega, fun i x h => by omega⟩ covZ selZ ?_
  rintro k ⟨hk, hI⟩
  by_cases hlt : k < l.length
  · have hx := List.getElem?_eq_getElem hlt
    obtain ⟨b1, o1, rfl, hrd⟩ := hr k _ hx
    have hrd2 : RdN ρ b1 (o1 + k * 1) (encQ l[k]) := hrd
    have hf := hfn k _ hx
    have g0 : rdc ρ b1 (o1 + k) = some (.slice l[k].1.1 l[k].2.length l[k].1.2) := by have := hrd.get0; rwa [Nat.mul_one] at this
    refine jk_seq ?_
    refine jk_region ?_
    refine zq_lt ?_
    refine jk_nil ?_
    refine jk_seq ?_
    refine jk_if_t rfl ?_
    refine jk_skip ?_
    refine jk_seq ?_
    refine jk_block ?_
    refine jk_seq ?_
    refine jk_region ?_
    refine zq_move ?_
    refine zq_assign ?_
    refine jk_nil ?_
    refine jk_seq ?_
    refine jk_region ?_
    refine zq_move ?_
    refine zq_move ?_
    refine zq_move ?_
    refine zq_idx1 ?_
    refine zq_load ?_
    refine jk_call hf rfl rfl (fun τ hτ => .inl (by simp [hτ])) rfl rfl ?_
    rintro _ rfl
    cases hp : p l[k] with
    | true =>
      refine jk_nil ?_
      refine jk_if_t rfl ?_
      refine jk_seq ?_
      refine jk_region ?_
      refine zq_move ?_
      refine zq_assign ?_
      refine jk_nil ?_
      exact jk_ret_any (res1 rfl rfl) (by (repeat (first | exact rs_nil | (refine rs_cons ?_ ?_; (focus ((repeat (first | exact .here | apply Mem.there | apply Take.there)); first | done | fail))) | exact fun ρ hρ => hρ | (intro ρ hρ; repeat (first | exact hρ | refine List.mem_cons_of_mem _ ?_)))); first | done | fail) selZ ⟨rfl, .inl ⟨k, l[k], hx, hp, hI, rfl⟩⟩
    | false =>
      refine jk_nil ?_
      refine jk_if_f rfl ?_
      refine jk_skip ?_
      refine jk_blk ?_
      refine jk_region ?_
      refine zq_inc ?_
      refine zq_move ?_
      refine jk_nil ?_
      refine jk_round (k + 1) ⟨by omega, fun i x hi hix => ?_⟩ (by omega) covZ selZ
      by_cases e : i = k
      · subst e; rw [hx] at hix; injection hix with hix; rw [← hix]; exact hp
      · exact hI i x (by omega) hix
  · refine jk_seq ?_
    refine jk_region ?_
    refine zq_ltF ?_
    refine jk_nil ?_
    refine jk_seq ?_
    refine jk_if_f rfl ?_
    refine jk_exit rfl ?_
    refine jk_seq ?_
    refine jk_region ?_
    refine zq_assign ?_
    refine jk_nil ?_
    refine jk_ret_any (res1 rfl rfl) (by (repeat (first | exact rs_nil | (refine rs_cons ?_ ?_; (focus ((repeat (first | exact .here | apply Mem.there | apply Take.there)); first | done | fail))) | exact fun ρ hρ => hρ | (intro ρ hρ; repeat (first | exact hρ | refine List.mem_cons_of_mem _ ?_)))); first | done | fail) selZ ⟨rfl, .inr ⟨fun x hx => ?_, rfl⟩⟩
    obtain ⟨i, hi, rfl⟩ := List.getElem_of_mem hx
    exact hI i _ (by omega) (List.getElem?_eq_getElem hi)
theorem contQ_spec (ρ : PH) (Rs : List PH) (v fn : Value) (l : List Sq) (p : Sq → Bool) (hv : SlE encQ 1 ρ v l) (hl : l.length ≤ 9223372036854775807) (hfn : ∀ (i : Nat) (x : Sq), l[i]? = some x → Ans Try.prog fn [.slice x.1.1 x.2.length x.1.2] Rs (fun r => r = .bool (p x))) :
    Ans Try.prog (fv 52) [v, fn] (ρ :: Rs) (fun r => r = .bool (l.any p)) := by
  have hix := indexQ_spec ρ Rs v fn l p hv hl hfn
  obtain ⟨q, c, rfl, hr⟩ := hv.val encQ_len
  refine spec_in (cap := []) Try.func52 rfl rfl Try.ntmps52 rfl (by (repeat (first | exact EnvA.nil EnvI.nil | apply EnvA.cons | apply EnvA.nil | exact EnvI.nil | apply EnvI.cons)); first | done | fail) (fun N β => ?_)
  refine jk_seq ?_
  refine jk_region ?_
  refine zq_assign ?_
  refine jk_nil ?_
  refine jk_seq ?_
  refine jk_region ?_
  refine zq_move ?_
  refine zq_move ?_
  refine jk_call hix rfl rfl (fun τ hτ => .inl (List.mem_cons_of_mem _ hτ)) rfl rfl ?_
  rintro _ (⟨i, x, hi, hp, _, rfl⟩ | ⟨hall2, rfl⟩)
  · have hfl : l.any p = true := List.any_eq_true.2 ⟨x, List.mem_of_getElem? hi, hp⟩
    refine zq_ge ?_
    refine zq_assign ?_
    refine jk_nil ?_
    exact jk_ret_any (res1 rfl rfl) (by (repeat (first | exact rs_nil | (refine rs_cons ?_ ?_; (focus ((repeat (first | exact .here | apply Mem.there | apply Take.there)); first | done | fail))) | exact fun ρ hρ => hρ | (intro ρ hρ; repeat (first | exact hρ | refine List.mem_cons_of_mem _ ?_)))); first | done | fail) selZ ⟨rfl, by rw [hfl]⟩
  · have hfl : l.any p = false := List.any_eq_false.2 (fun x hx => by rw [hall2 x hx]; simp)
    refine zq_geF ?_
    refine zq_assign ?_
    refine jk_nil ?_
    exact jk_ret_any (res1 rfl rfl) (by (repeat (first | exact rs_nil | (refine rs_cons ?_ ?_; (focus ((repeat (first | exact .here | apply Mem.there | apply Take.there)); first | done | fail))) | exact fun ρ hρ => hρ | (intro ρ hρ; repeat (first | exact hρ | refine List.mem_cons_of_mem _ ?_)))); first | done | fail) selZ ⟨rfl, by rw [hfl]⟩
end Go.Proofs.Ytjbebmealbnmgaa
/- A set of integers lies between its first and its last. No program in sight. No conditions. -/
namespace Go.Step
theorem chkI_at {l : List (Int × Int)} (h : chkI l = 0) {i : Nat} (hi : i < l.length) : l[i].1 < l[i].2 ∧ (∀ h0 : 0 < i, l[i - 1].2 < l[i].1) := by
  unfold chkI at h
  split at h
  · simp at h
  have h2 := firstE_zero h i hi
  rw [spE_at (List.getElem?_eq_getElem hi)] at h2
  split at h2
  · simp at h2
  rename_i h3
  split at h2
  · simp at h2
  rename_i h4
  have h5 : okSp l[i] := Decidable.not_not.1 h3
  refine ⟨h5.1, fun h0 => ?_⟩
  rw [List.getD_eq_getElem?_getD, List.getElem?_eq_getElem (by omega), Option.getD_some] at h4
  omega
theorem chkI_lo {l : List (Int × Int)} (h : chkI l = 0) : ∀ {i : Nat} (hi : i < l.length), l[0].1 ≤ l[i].1
  | 0, hi => Int.le_refl _
  | i + 1, hi => by
    have h1 := chkI_lo h (i := i) (by omega)
    have h2 := (chkI_at h (i := i) (by omega)).1
    have h3 := (chkI_at h hi).2 (by omega)
    simp only [Nat.add_sub_cancel] at h3
    omega
theorem chkI_hi {l : List (Int × Int)} (h : chkI l = 0) : ∀ (k : Nat) {i : Nat} (hi : i + k < l.length), l[i].2 ≤ l[i + k].2
  | 0, i, hi => Int.le_refl _
  | k + 1, i, hi => by
    have h1 := chkI_hi h k (i := i) (by omega)
    have h2 := (chkI_at h (i := i + (k + 1)) hi).1
    have h3 := (chkI_at h hi).2 (by omega)
    have e : i + (k + 1) - 1 = i + k := by omega
    simp only [e] at h3
    omega
theorem badS_ends {l : List (Int × Int)} (h : chkI l = 0) (hp : 0 < l.length) (d : Dm) : l.any (badS d) = (decide (l[0].1 < d.r) || decide (d.e + 1 < l[l.length - 1].2)) := by
  rw [Bool.eq_iff_iff, List.any_eq_true, Bool.or_eq_true, decide_eq_true_eq, decide_eq_true_eq]
  constructor
  · rintro ⟨x, hx, hb⟩
    obtain ⟨i, hi, rfl⟩ := List.getElem_of_mem hx
    unfold badS at hb
    rw [Bool.or_eq_true, decide_eq_true_eq, decide_eq_true_eq] at hb
    have h1 := chkI_lo h hi
    have h2 := chkI_hi h (l.length - 1 - i) (i := i) (by omega)
    have e : i + (l.length - 1 - i) = l.length - 1 := by omega
    simp only [e] at h2
    omega
  · rintro (h1 | h1)
    · exact ⟨_, List.getElem_mem hp, by unfold badS; rw [decide_eq_true h1]; rfl⟩
    · exact ⟨_, List.getElem_mem (show l.length - 1 < l.length by omega), by unfold badS; rw [decide_eq_true h1, Bool.or_true]⟩
end Go.Step
/- Union and intersection of sets of integers. No program in sight. No conditions. -/
namespace Go.Step
abbrev Iv := List (Int × Int)
def NormI (l : Iv) : Prop := (∀ x ∈ l, x.1 < x.2) ∧ l.Pairwise (fun x y => x.2 < y.1)
def memI (l : Iv) (t : Int) : Bool := l.any (inSp t)
theorem inSp_iff {t : Int} {x : Int × Int} : inSp t x = true ↔ x.1 ≤ t ∧ t < x.2 := by simp [inSp]
theorem memI_iff {l : Iv} {t : Int} : memI l t = true ↔ ∃ x ∈ l, x.1 ≤ t ∧ t < x.2 := by simp [memI, inSp]
theorem NormI.nil : NormI [] := ⟨by simp, .nil⟩
theorem NormI.tail {x : Int × Int} {l : Iv} (h : NormI (x :: l)) : NormI l := ⟨fun y hy => h.1 y (by simp [hy]), (List.pairwise_cons.1 h.2).2⟩
theorem NormI.hd {x : Int × Int} {l : Iv} (h : NormI (x :: l)) : x.1 < x.2 ∧ ∀ y ∈ l, x.2 < y.1 := ⟨h.1 x (by simp), (List.pairwise_cons.1 h.2).1⟩
theorem NormI.cons {x : Int × Int} {l : Iv} (h : NormI l) (h1 : x.1 < x.2) (h2 : ∀ y ∈ l, x.2 < y.1) : NormI (x :: l) :=
  ⟨fun y hy => by
    rcases List.mem_cons.1 hy with rfl | hy
    · exact h1
    · exact h.1 y hy, List.pairwise_cons.2 ⟨h2, h.2⟩⟩
theorem memI_lo2 {x : Int × Int} {l : Iv} {t : Int} (h : NormI (x :: l)) (hm : memI l t = true) : x.2 < t := by
  obtain ⟨y, hy, h1, h2⟩ := memI_iff.1 hm
  have b := h.hd.2 y hy
  omega
/-! sets that are checked -/
theorem chkI_norm {l : Iv} (h : chkI l = 0) : l.length ≤ 1000 ∧ NormI l ∧ ∀ x ∈ l, okSp x := by
  have h1 : l.length ≤ 1000 := by
    unfold chkI at h
    split at h
    · simp at h
    · omega
  refine ⟨h1, ⟨fun x hx => ?_, List.pairwise_iff_getElem.2 (fun i j hi hj hij => ?_)⟩, fun x hx => ?_⟩
  · obtain ⟨i, hi, rfl⟩ := List.getElem_of_mem hx
    exact (chkI_at h hi).1
  · have a := chkI_hi h (j - 1 - i) (i := i) (by omega)
    have b := (chkI_at h hj).2 (by omega)
    have e : i + (j - 1 - i) = j - 1 := by omega
    simp only [e] at a
    omega
  · obtain ⟨i, hi, rfl⟩ := List.getElem_of_mem hx
    unfold chkI at h
    rw [if_neg (by omega)] at h
    have h2 := firstE_zero h i hi
    rw [spE_at (List.getElem?_eq_getElem hi)] at h2
    split at h2
    · simp at h2
    · rename_i h3; exact Decidable.not_not.1 h3
theorem chkI_of {l : Iv} (h1 : l.length ≤ 1000) (h2 : NormI l) (h3 : ∀ x ∈ l, okSp x) : chkI l = 0 := by
  unfold chkI
  rw [if_neg (by omega)]
  refine firstE_all (fun k hk => ?_)
  rw [spE_at (List.getElem?_eq_getElem hk), if_neg (fun h => h (h3 _ (List.getElem_mem hk)))]
  by_cases h0 : 0 < k
  · have h4 := List.pairwise_iff_getElem.1 h2.2 (k - 1) k (by omega) hk (by omega)
    rw [if_neg]
    rw [List.getD_eq_getElem?_getD, List.getElem?_eq_getElem (by omega), Option.getD_some]
    omega
  · rw [if_neg (fun h => h0 h.1)]
theorem hasI_mem {l : Iv} (h : chkI l = 0) (t : Int) : hasI l t = memI l t := by unfold hasI memI; rw [decide_eq_true h, Bool.true_and]
/-! one more span -/
/-! intersection, span by span -/
/-! ends of spans -/
def tog (l : Iv) : List Int := l.flatMap (fun x => [x.1, x.2])
theorem tog_len : ∀ l : Iv, (tog l).length = 2 * l.length
  | [] => rfl
  | x :: l => by
    have := tog_len l
    show (x.1 :: x.2 :: tog l).length = _
    simp only [List.length_cons]
    omega
theorem tog_get : ∀ (l : Iv) (i : Nat) (x : Int × Int), l[i]? = some x → (tog l)[2 * i]? = some x.1 ∧ (tog l)[2 * i + 1]? = some x.2
  | [], i, x, h => by simp at h
  | y :: l, 0, x, h => by
    simp only [List.getElem?_cons_zero, Option.some.injEq] at h
    subst h
    exact ⟨rfl, rfl⟩
  | y :: l, i + 1, x, h => by
    have := tog_get l i x (by simpa using h)
    show (y.1 :: y.2 :: tog l)[2 * (i + 1)]? = _ ∧ (y.1 :: y.2 :: tog l)[2 * (i + 1) + 1]? = _
    rw [show 2 * (i + 1) = 2 * i + 1 + 1 by omega]
    exact this
def parT : List Int → Int → Bool
  | [], _ => false
  | e :: E, t => if e ≤ t then !(parT E t) else parT E t
theorem parT_tog : ∀ {l : Iv}, NormI l → ∀ t, parT (tog l) t = memI l t
  | [], _, t => rfl
  | x :: l, h, t => by
    have ih := parT_tog h.tail t
    have hx := h.hd.1
    show (if x.1 ≤ t then !(if x.2 ≤ t then !(parT (tog l) t) else parT (tog l) t) else (if x.2 ≤ t then !(parT (tog l) t) else parT (tog l) t)) = (inSp t x || memI l t)
    rw [ih]
    have h1 : t ≤ x.2 → memI l t = false := fun hle => by
      cases e : memI l t with
      | false => rfl
      | true => have := memI_lo2 h e; omega
    have h2 : inSp t x = decide (x.1 ≤ t ∧ t < x.2) := by rw [Bool.eq_iff_iff, inSp_iff, decide_eq_true_eq]
    rw [h2]
    by_cases c1 : x.1 ≤ t
    · by_cases c2 : x.2 ≤ t
      · rw [if_pos c1, if_pos c2, decide_eq_false (by omega), Bool.not_not, Bool.false_or]
      · rw [if_pos c1, if_neg c2, decide_eq_true (by omega), h1 (by omega)]; rfl
    · rw [if_neg c1, if_neg (by omega), decide_eq_false (by omega), Bool.false_or]
def oddB (n : Nat) : Bool := decide (n % 2 = 1)
theorem oddB_succ (n : Nat) : oddB (n + 1) = !(oddB n) := by
  unfold oddB
  by_cases h : n % 2 = 1
  · rw [decide_eq_true h, decide_eq_false (by omega)]; rfl
  · rw [decide_eq_false h, decide_eq_true (by omega)]; rfl
theorem parT_snoc (t x : Int) : ∀ O : List Int, parT (O ++ [t]) x = if t ≤ x then !(parT O x) else parT O x
  | [] => by simp [parT]
  | o :: O => by
    have ih := parT_snoc t x O
    show (if o ≤ x then !(parT (O ++ [t]) x) else parT (O ++ [t]) x) = if t ≤ x then !(if o ≤ x then !(parT O x) else parT O x) else (if o ≤ x then !(parT O x) else parT O x)
    rw [ih]
    split <;> split <;> rfl
theorem parT_all {x : Int} : ∀ {O : List Int}, (∀ o ∈ O, o ≤ x) → parT O x = oddB O.length
  | [], _ => rfl
  | o :: O, h => by
    show (if o ≤ x then !(parT O x) else parT O x) = oddB (O.length + 1)
    rw [if_pos (h o (by simp)), parT_all (fun p hp => h p (by simp [hp])), oddB_succ]
theorem parT_none {x : Int} : ∀ {O : List Int}, (∀ o ∈ O, x < o) → parT O x = false
  | [], _ => rfl
  | o :: O, h => by
    show (if o ≤ x then !(parT O x) else parT O x) = false
    have := h o (by simp)
    rw [if_neg (by omega), parT_none (fun p hp => h p (by simp [hp]))]
/-- the ends of two sets in their order, with the sides from there on -/
def mrg : List Int → Bool → List Int → Bool → List (Int × Bool × Bool)
  | [], _, [], _ => []
  | a :: A, p, [], q => (a, !p, q) :: mrg A (!p) [] q
  | [], p, b :: B, q => (b, p, !q) :: mrg [] p B (!q)
  | a :: A, p, b :: B, q => if a < b then (a, !p, q) :: mrg A (!p) (b :: B) q else if b < a then (b, p, !q) :: mrg (a :: A) p B (!q) else (a, !p, !q) :: mrg A (!p) B (!q)
termination_by A _ B _ => A.length + B.length
def mcomb1 (f : Bool → Bool → Bool) (O : List Int) (e : Int × Bool × Bool) : List Int := if f e.2.1 e.2.2 = oddB O.length then O else O ++ [e.1]
def mcomb (f : Bool → Bool → Bool) (S : List (Int × Bool × Bool)) (O : List Int) : List Int := S.foldl (mcomb1 f) O
theorem comb1_odd (f : Bool → Bool → Bool) (O : List Int) (e : Int × Bool × Bool) : oddB (mcomb1 f O e).length = f e.2.1 e.2.2 := by
  unfold mcomb1
  split
  · rename_i h; exact h.symm
  · rename_i h
    rw [List.length_append, List.length_singleton, oddB_succ]
    cases h1 : oddB O.length <;> cases h2 : f e.2.1 e.2.2 <;> simp_all
structure Cm (f : Bool → Bool → Bool) (A : List Int) (p : Bool) (B : List Int) (q : Bool) (O O' : List Int) : Prop where
  asc : O'.Pairwise (· < ·)
  hi : ∀ x, (∀ o ∈ O, o ≤ x) → parT O' x = f (p ^^ parT A x) (q ^^ parT B x)
  lo : ∀ x, (∀ a ∈ A, x < a) → (∀ b ∈ B, x < b) → parT O' x = parT O x
  len : O'.length ≤ O.length + A.length + B.length
theorem Cm.step {f : Bool → Bool → Bool} {A A1 : List Int} {p p1 : Bool} {B B1 : List Int} {q q1 : Bool} {O O' : List Int} {t : Int}
    (h : Cm f A1 p1 B1 q1 (mcomb1 f O (t, p1, q1)) O') (ho : oddB O.length = f p q) (hA : ∀ a ∈ A, t ≤ a) (hB : ∀ b ∈ B, t ≤ b) (hOt : ∀ o ∈ O, o < t)
    (eA : ∀ x, t ≤ x → (p1 ^^ parT A1 x) = (p ^^ parT A x)) (eB : ∀ x, t ≤ x → (q1 ^^ parT B1 x) = (q ^^ parT B x)) (sA : ∀ a ∈ A1, t < a) (sB : ∀ b ∈ B1, t < b) (hl : A1.length + B1.length + 1 ≤ A.length + B.length) (hin : t ∈ A ∨ t ∈ B) : Cm f A p B q O O' := by
  have hmem : ∀ o ∈ mcomb1 f O (t, p1, q1), o ≤ t := fun o ho => by
    unfold mcomb1 at ho
    split at ho
    · have := hOt o ho; omega
    · rcases List.mem_append.1 ho with h | h
      · have := hOt o h; omega
      · have := List.mem_singleton.1 h; omega
  have hpre : ∀ x, x < t → parT (mcomb1 f O (t, p1, q1)) x = parT O x := fun x hx => by
    unfold mcomb1
    split
    · rfl
    · rw [parT_snoc, if_neg (by dsimp only; omega)]
  have hcl : (mcomb1 f O (t, p1, q1)).length ≤ O.length + 1 := by
    unfold mcomb1
    split
    · omega
    · simp
  refine ⟨h.asc, fun x hx => ?_, fun x hx hy => ?_, by have := h.len; omega⟩
  · by_cases ht : t ≤ x
    · rw [h.hi x (fun o ho => Int.le_trans (hmem o ho) ht), eA x ht, eB x ht]
    · rw [h.lo x (fun a ha => by have := sA a ha; omega) (fun b hb => by have := sB b hb; omega), hpre x (by omega), parT_all hx, parT_none (fun a ha => by have := hA a ha; omega), parT_none (fun b hb => by have := hB b hb; omega), Bool.xor_false, Bool.xor_false, ho]
  · have ht : x < t := by
      rcases hin with h | h
      · exact hx t h
      · exact hy t h
    rw [h.lo x (fun a ha => by have := sA a ha; omega) (fun b hb => by have := sB b hb; omega), hpre x ht]
theorem comb1_asc {f : Bool → Bool → Bool} {O : List Int} {e : Int × Bool × Bool} (h : O.Pairwise (· < ·)) (ho : ∀ o ∈ O, o < e.1) : (mcomb1 f O e).Pairwise (· < ·) := by
  unfold mcomb1
  split
  · exact h
  · rw [List.pairwise_append]
    exact ⟨h, List.pairwise_singleton _ _, fun a ha b hb => by rw [List.mem_singleton.1 hb]; exact ho a ha⟩
theorem comb1_lt {f : Bool → Bool → Bool} {O : List Int} {e : Int × Bool × Bool} {S : List Int} (ho : ∀ o ∈ O, ∀ a ∈ S, o < a) (he : ∀ a ∈ S, e.1 < a) : ∀ o ∈ mcomb1 f O e, ∀ a ∈ S, o < a := fun o h a ha => by
  unfold mcomb1 at h
  split at h
  · exact ho o h a ha
  · rcases List.mem_append.1 h with h | h
    · exact ho o h a ha
    · rw [List.mem_singleton.1 h]; exact he a ha
theorem comb_ok (f : Bool → Bool → Bool) : ∀ (n : Nat) (A : List Int) (p : Bool) (B : List Int) (q : Bool) (O : List Int), A.length + B.length ≤ n → A.Pairwise (· < ·) → B.Pairwise (· < ·) → O.Pairwise (· < ·) → (∀ o ∈ O, ∀ a ∈ A, o < a) → (∀ o ∈ O, ∀ b ∈ B, o < b) → oddB O.length = f p q → Cm f A p B q O (mcomb f (mrg A p B q) O) := by
  have flip : ∀ (p z : Bool), (!p ^^ z) = (p ^^ !z) := by decide
  intro n
  induction n with
  | zero =>
    intro A p B q O hn _ _ hO _ _ ho
    obtain rfl : A = [] := List.eq_nil_of_length_eq_zero (by omega)
    obtain rfl : B = [] := List.eq_nil_of_length_eq_zero (by omega)
    unfold mrg
    exact ⟨hO, fun x hx => by rw [show mcomb f [] O = O from rfl, parT_all hx, ho]; simp [parT], fun _ _ _ => rfl, by show O.length ≤ _; omega⟩
  | succ n ih =>
    intro A p B q O hn hA hB hO hOA hOB ho
    match A, B, hn, hA, hB, hOA, hOB with
    | [], [], _, _, _, _, _ =>
      unfold mrg
      exact ⟨hO, fun x hx => by rw [show mcomb f [] O = O from rfl, parT_all hx, ho]; simp [parT], fun _ _ _ => rfl, by show O.length ≤ _; omega⟩
    | a :: A, [], hn, hA, hB, hOA, hOB =>
      unfold mrg
      obtain ⟨a1, a2⟩ := List.pairwise_cons.1 hA
      refine Cm.step (t := a) (ih A (!p) [] q (mcomb1 f O (a, !p, q)) (by simp at hn ⊢; omega) a2 hB (comb1_asc hO (fun o h => hOA o h a (by simp))) (comb1_lt (fun o h x hx => hOA o h x (by simp [hx])) a1) (fun _ _ _ h => by simp at h) (comb1_odd f O _)) ho (fun x hx => ?_) (fun _ h => by simp at h) (fun o h => hOA o h a (by simp)) (fun x hx => ?_) (fun _ _ => rfl) a1 (fun _ h => by simp at h) (by simp) (.inl (by simp))
      · rcases List.mem_cons.1 hx with rfl | hx
        · exact Int.le_refl _
        · exact Int.le_of_lt (a1 x hx)
      · show (!p ^^ parT A x) = (p ^^ if a ≤ x then !(parT A x) else parT A x)
        rw [if_pos hx, flip]
    | [], b :: B, hn, hA, hB, hOA, hOB =>
      unfold mrg
      obtain ⟨b1, b2⟩ := List.pairwise_cons.1 hB
      refine Cm.step (t := b) (ih [] p B (!q) (mcomb1 f O (b, p, !q)) (by simp at hn ⊢; omega) hA b2 (comb1_asc hO (fun o h => hOB o h b (by simp))) (fun _ _ _ h => by simp at h) (comb1_lt (fun o h x hx => hOB o h x (by simp [hx])) b1) (comb1_odd f O _)) ho (fun _ h => by simp at h) (fun x hx => ?_) (fun o h => hOB o h b (by simp)) (fun _ _ => rfl) (fun x hx => ?_) (fun _ h => by simp at h) b1 (by simp) (.inr (by simp))
      · rcases List.mem_cons.1 hx with rfl | hx
        · exact Int.le_refl _
        · exact Int.le_of_lt (b1 x hx)
      · show (!q ^^ parT B x) = (q ^^ if b ≤ x then !(parT B x) else parT B x)
        rw [if_pos hx, flip]
    | a :: A, b :: B, hn, hA, hB, hOA, hOB =>
      obtain ⟨a1, a2⟩ := List.pairwise_cons.1 hA
      obtain ⟨b1, b2⟩ := List.pairwise_cons.1 hB
      have la : ∀ x ∈ a :: A, a ≤ x := fun x hx => by
        rcases List.mem_cons.1 hx with rfl | hx
        · exact Int.le_refl _
        · exact Int.le_of_lt (a1 x hx)
      have lb : ∀ x ∈ b :: B, b ≤ x := fun x hx => by
        rcases List.mem_cons.1 hx with rfl | hx
        · exact Int.le_refl _
        · exact Int.le_of_lt (b1 x hx)
      unfold mrg
      split
      · rename_i hc
        refine Cm.step (t := a) (ih A (!p) (b :: B) q (mcomb1 f O (a, !p, q)) (by simp at hn ⊢; omega) a2 hB (comb1_asc hO (fun o h => hOA o h a (by simp))) (comb1_lt (fun o h x hx => hOA o h x (by simp [hx])) a1) (comb1_lt hOB (fun x hx => by have := lb x hx; dsimp only; omega)) (comb1_odd f O _)) ho la (fun x hx => by have := lb x hx; omega) (fun o h => hOA o h a (by simp)) (fun x hx => ?_) (fun _ _ => rfl) a1 (fun x hx => by have := lb x hx; omega) (by simp only [List.length_cons]; omega) (.inl (by simp))
        show (!p ^^ parT A x) = (p ^^ if a ≤ x then !(parT A x) else parT A x)
        rw [if_pos hx, flip]
      · rename_i hc
        split
        · rename_i hc2
          refine Cm.step (t := b) (ih (a :: A) p B (!q) (mcomb1 f O (b, p, !q)) (by simp at hn ⊢; omega) hA b2 (comb1_asc hO (fun o h => hOB o h b (by simp))) (comb1_lt hOA (fun x hx => by have := la x hx; dsimp only; omega)) (comb1_lt (fun o h x hx => hOB o h x (by simp [hx])) b1) (comb1_odd f O _)) ho (fun x hx => by have := la x hx; omega) lb (fun o h => hOB o h b (by simp)) (fun _ _ => rfl) (fun x hx => ?_) (fun x hx => by have := la x hx; omega) b1 (by simp only [List.length_cons]; omega) (.inr (by simp))
          show (!q ^^ parT B x) = (q ^^ if b ≤ x then !(parT B x) else parT B x)
          rw [if_pos hx, flip]
        · rename_i hc2
          have hab : a = b := by omega
          subst hab
          refine Cm.step (t := a) (ih A (!p) B (!q) (mcomb1 f O (a, !p, !q)) (by simp at hn ⊢; omega) a2 b2 (comb1_asc hO (fun o h => hOA o h a (by simp))) (comb1_lt (fun o h x hx => hOA o h x (by simp [hx])) a1) (comb1_lt (fun o h x hx => hOB o h x (by simp [hx])) b1) (comb1_odd f O _)) ho la lb (fun o h => hOA o h a (by simp)) (fun x hx => ?_) (fun x hx => ?_) a1 b1 (by simp only [List.length_cons]; omega) (.inl (by simp))
          · show (!p ^^ parT A x) = (p ^^ if a ≤ x then !(parT A x) else parT A x)
            rw [if_pos hx, flip]
          · show (!q ^^ parT B x) = (q ^^ if a ≤ x then !(parT B x) else parT B x)
            rw [if_pos hx, flip]
theorem tog_asc : ∀ {l : Iv}, NormI l → (tog l).Pairwise (· < ·) ∧ ∀ lo, (∀ x ∈ l, lo < x.1) → ∀ e ∈ tog l, lo < e
  | [], _ => ⟨.nil, fun _ _ _ h => by simp [tog] at h⟩
  | x :: l, h => by
    obtain ⟨h1, h2⟩ := tog_asc h.tail
    have e : tog (x :: l) = x.1 :: x.2 :: tog l := rfl
    have hx := h.hd.1
    have h3 := h2 x.2 h.hd.2
    rw [e]
    refine ⟨List.pairwise_cons.2 ⟨fun a ha => ?_, List.pairwise_cons.2 ⟨h3, h1⟩⟩, fun lo hlo a ha => ?_⟩
    · rcases List.mem_cons.1 ha with rfl | ha
      · exact hx
      · have := h3 a ha; omega
    · have := hlo x (by simp)
      rcases List.mem_cons.1 ha with rfl | ha
      · exact this
      · rcases List.mem_cons.1 ha with rfl | ha
        · omega
        · have := h3 a ha; omega
/-- spans of their ends; the last may be open -/
def spans : List Int → Iv
  | [] => []
  | [a] => [(a, 0)]
  | a :: b :: E => (a, b) :: spans E
theorem spans_len : ∀ E : List Int, (spans E).length = (E.length + 1) / 2
  | [] => rfl
  | [_] => by simp [spans]
  | a :: b :: E => by
    have := spans_len E
    simp only [spans, List.length_cons]
    omega
theorem spans_even (t : Int) : ∀ {E : List Int}, oddB E.length = false → spans (E ++ [t]) = spans E ++ [(t, 0)]
  | [], _ => rfl
  | [_], h => by simp [oddB] at h
  | a :: b :: E, h => by
    have h' : oddB E.length = false := by
      simp only [List.length_cons, oddB_succ, Bool.not_not] at h
      exact h
    show (a, b) :: spans (E ++ [t]) = _
    rw [spans_even t h']
    rfl
theorem spans_odd (t : Int) : ∀ {E : List Int}, oddB E.length = true → ∃ l a, spans E = l ++ [(a, 0)] ∧ spans (E ++ [t]) = l ++ [(a, t)]
  | [], h => by simp [oddB] at h
  | [a], _ => ⟨[], a, rfl, rfl⟩
  | a :: b :: E, h => by
    have h' : oddB E.length = true := by
      simp only [List.length_cons, oddB_succ, Bool.not_not] at h
      exact h
    obtain ⟨l, c, h1, h2⟩ := spans_odd t h'
    refine ⟨(a, b) :: l, c, ?_, ?_⟩
    · show (a, b) :: spans E = _
      rw [h1]; rfl
    · show (a, b) :: spans (E ++ [t]) = _
      rw [h2]; rfl
theorem spans_norm : ∀ {E : List Int}, oddB E.length = false → E.Pairwise (· < ·) → NormI (spans E) ∧ tog (spans E) = E
  | [], _, _ => ⟨NormI.nil, rfl⟩
  | [_], h, _ => by simp [oddB] at h
  | a :: b :: E, h, hp => by
    have h' : oddB E.length = false := by
      simp only [List.length_cons, oddB_succ, Bool.not_not] at h
      exact h
    obtain ⟨p1, p2⟩ := List.pairwise_cons.1 hp
    obtain ⟨p3, p4⟩ := List.pairwise_cons.1 p2
    obtain ⟨h1, h2⟩ := spans_norm h' p4
    refine ⟨h1.cons (p1 b (by simp)) (fun y hy => ?_), ?_⟩
    · have : y.1 ∈ tog (spans E) := by
        unfold tog
        rw [List.mem_flatMap]
        exact ⟨y, hy, by simp⟩
      rw [h2] at this
      exact p3 _ this
    · show a :: b :: tog (spans E) = _
      rw [h2]
/-- the set of the integers for which a function of two booleans is true -/
def combI (f : Bool → Bool → Bool) (a b : Iv) : Iv := spans (mcomb f (mrg (tog a) false (tog b) false) [])
theorem combI_ok {f : Bool → Bool → Bool} (hf : f false false = false) {a b : Iv} (ha : NormI a) (hb : NormI b) : NormI (combI f a b) ∧ (∀ t, memI (combI f a b) t = f (memI a t) (memI b t)) ∧ (combI f a b).length ≤ a.length + b.length := by
  have h := comb_ok f _ (tog a) false (tog b) false [] (Nat.le_refl _) (tog_asc ha).1 (tog_asc hb).1 .nil (fun _ h => by simp at h) (fun _ h => by simp at h) hf.symm
  have hx : ∀ x, parT (mcomb f (mrg (tog a) false (tog b) false) []) x = f (memI a x) (memI b x) := fun x => by
    rw [h.hi x (fun _ h => by simp at h), parT_tog ha, parT_tog hb, Bool.false_xor, Bool.false_xor]
  have hlen := h.len
  rw [tog_len, tog_len] at hlen
  have hodd : oddB (mcomb f (mrg (tog a) false (tog b) false) []).length = false := by
    obtain ⟨B, hB⟩ : ∃ B : Int, (∀ e ∈ mcomb f (mrg (tog a) false (tog b) false) [], e ≤ B) ∧ (∀ x ∈ a, x.2 ≤ B) ∧ (∀ x ∈ b, x.2 ≤ B) := by
      have hi : ∀ E : List Int, ∃ B, ∀ e ∈ E, e ≤ B := fun E => by
        induction E with
        | nil => exact ⟨0, by simp⟩
        | cons e E ih =>
          obtain ⟨B, h⟩ := ih
          exact ⟨max B e, fun x hx => by rcases List.mem_cons.1 hx with rfl | hx; · omega
                                         · have := h x hx; omega⟩
      obtain ⟨B1, h1⟩ := hi (mcomb f (mrg (tog a) false (tog b) false) [])
      obtain ⟨B2, h2⟩ := hi (a.map Prod.snd)
      obtain ⟨B3, h3⟩ := hi (b.map Prod.snd)
      refine ⟨max B1 (max B2 B3), fun e he => ?_, fun x hx => ?_, fun x hx => ?_⟩
      · have := h1 e he; omega
      · have := h2 x.2 (List.mem_map.2 ⟨x, hx, rfl⟩); omega
      · have := h3 x.2 (List.mem_map.2 ⟨x, hx, rfl⟩); omega
    obtain ⟨h1, h2, h3⟩ := hB
    rw [← parT_all h1, hx]
    have n1 : memI a B = false := by
      cases e : memI a B with
      | false => rfl
      | true => obtain ⟨x, hx, _, h5⟩ := memI_iff.1 e; have := h2 x hx; omega
    have n2 : memI b B = false := by
      cases e : memI b B with
      | false => rfl
      | true => obtain ⟨x, hx, _, h5⟩ := memI_iff.1 e; have := h3 x hx; omega
    rw [n1, n2, hf]
  obtain ⟨h1, h2⟩ := spans_norm hodd h.asc
  refine ⟨h1, fun t => ?_, ?_⟩
  · show memI (spans (mcomb f (mrg (tog a) false (tog b) false) [])) t = _
    rw [← parT_tog h1, h2, hx]
  · unfold combI
    rw [spans_len]
    simp only [List.length_nil] at hlen
    omega
def unionI (a b : Iv) : Iv := combI (fun x y => x || y) a b
def interI (a b : Iv) : Iv := combI (fun x y => x && y) a b
end Go.Step
/- The ends of two sets, one after the other. No program in sight. No conditions. -/
namespace Go.Step
theorem oddB_cases (p : Nat) : (oddB p = true ∧ p = 2 * (p / 2) + 1) ∨ (oddB p = false ∧ p = 2 * (p / 2)) := by
  unfold oddB
  by_cases h : p % 2 = 1
  · exact .inl ⟨decide_eq_true h, by omega⟩
  · exact .inr ⟨decide_eq_false h, by omega⟩
/-- the next end of two sets -/
def nxtT (A B : List Int) (p q : Nat) : Int := if p < A.length then (if q < B.length ∧ B.getD q 0 < A.getD p 0 then B.getD q 0 else A.getD p 0) else B.getD q 0
/-- the place behind an end, if it is the next one -/
def stp (A : List Int) (t : Int) (p : Nat) : Nat := if p < A.length ∧ A.getD p 0 = t then p + 1 else p
theorem stp_le {A : List Int} {t : Int} {p : Nat} (h : p ≤ A.length) : p ≤ stp A t p ∧ stp A t p ≤ A.length := by
  unfold stp
  split <;> omega
theorem drop_at {A : List Int} {p : Nat} (h : p < A.length) : A.drop p = A.getD p 0 :: A.drop (p + 1) := by
  rw [List.drop_eq_getElem_cons h, List.getD_eq_getElem?_getD, List.getElem?_eq_getElem h]; rfl
theorem mrg_cc (a : Int) (A : List Int) (p : Bool) (b : Int) (B : List Int) (q : Bool) : mrg (a :: A) p (b :: B) q = if a < b then (a, !p, q) :: mrg A (!p) (b :: B) q else if b < a then (b, p, !q) :: mrg (a :: A) p B (!q) else (a, !p, !q) :: mrg A (!p) B (!q) := by
  conv => lhs; unfold mrg
theorem mrg_cn (a : Int) (A : List Int) (p q : Bool) : mrg (a :: A) p [] q = (a, !p, q) :: mrg A (!p) [] q := by
  conv => lhs; unfold mrg
theorem mrg_nc (b : Int) (B : List Int) (p q : Bool) : mrg [] p (b :: B) q = (b, p, !q) :: mrg [] p B (!q) := by
  conv => lhs; unfold mrg
theorem mrg_at {A B : List Int} {p q : Nat} (hp : p ≤ A.length) (hq : q ≤ B.length) (h : p < A.length ∨ q < B.length) :
    mrg (A.drop p) (oddB p) (B.drop q) (oddB q) = (nxtT A B p q, oddB (stp A (nxtT A B p q) p), oddB (stp B (nxtT A B p q) q)) :: mrg (A.drop (stp A (nxtT A B p q) p)) (oddB (stp A (nxtT A B p q) p)) (B.drop (stp B (nxtT A B p q) q)) (oddB (stp B (nxtT A B p q) q)) := by
  by_cases h1 : p < A.length
  · by_cases h2 : q < B.length
    · rw [drop_at h1, drop_at h2, mrg_cc]
      by_cases c1 : A.getD p 0 < B.getD q 0
      · have e : nxtT A B p q = A.getD p 0 := by unfold nxtT; rw [if_pos h1, if_neg (by omega)]
        have e1 : stp A (A.getD p 0) p = p + 1 := by unfold stp; rw [if_pos ⟨h1, rfl⟩]
        have e2 : stp B (A.getD p 0) q = q := by unfold stp; rw [if_neg (by omega)]
        rw [if_pos c1, e, e1, e2, oddB_succ, drop_at h2]
      · by_cases c2 : B.getD q 0 < A.getD p 0
        · have e : nxtT A B p q = B.getD q 0 := by unfold nxtT; rw [if_pos h1, if_pos ⟨h2, c2⟩]
          have e1 : stp A (B.getD q 0) p = p := by unfold stp; rw [if_neg (by omega)]
          have e2 : stp B (B.getD q 0) q = q + 1 := by unfold stp; rw [if_pos ⟨h2, rfl⟩]
          rw [if_neg c1, if_pos c2, e, e1, e2, oddB_succ, drop_at h1]
        · have e : nxtT A B p q = A.getD p 0 := by unfold nxtT; rw [if_pos h1, if_neg (by omega)]
          have e1 : stp A (A.getD p 0) p = p + 1 := by unfold stp; rw [if_pos ⟨h1, rfl⟩]
          have e2 : stp B (A.getD p 0) q = q + 1 := by unfold stp; rw [if_pos ⟨h2, by omega⟩]
          rw [if_neg c1, if_neg c2, e, e1, e2, oddB_succ, oddB_succ]
    · have hq2 : q = B.length := by omega
      subst hq2
      have e : nxtT A B p B.length = A.getD p 0 := by unfold nxtT; rw [if_pos h1, if_neg (by omega)]
      have e1 : stp A (A.getD p 0) p = p + 1 := by unfold stp; rw [if_pos ⟨h1, rfl⟩]
      have e2 : stp B (A.getD p 0) B.length = B.length := by unfold stp; rw [if_neg (by omega)]
      rw [drop_at h1, List.drop_length, e, e1, e2, oddB_succ, List.drop_length, mrg_cn]
  · have hp2 : p = A.length := by omega
    subst hp2
    have h2 : q < B.length := by omega
    have e : nxtT A B A.length q = B.getD q 0 := by unfold nxtT; rw [if_neg h1]
    have e1 : stp A (B.getD q 0) A.length = A.length := by unfold stp; rw [if_neg (by omega)]
    have e2 : stp B (B.getD q 0) q = q + 1 := by unfold stp; rw [if_pos ⟨h2, rfl⟩]
    rw [drop_at h2, List.drop_length, e, e1, e2, oddB_succ, List.drop_length, mrg_nc]
theorem stp_go {A B : List Int} {p q : Nat} (h : p < A.length ∨ q < B.length) : p < stp A (nxtT A B p q) p ∨ q < stp B (nxtT A B p q) q := by
  by_cases h1 : p < A.length
  · by_cases h2 : q < B.length ∧ B.getD q 0 < A.getD p 0
    · have e : nxtT A B p q = B.getD q 0 := by unfold nxtT; rw [if_pos h1, if_pos h2]
      right; rw [e]; unfold stp; rw [if_pos ⟨h2.1, rfl⟩]; omega
    · have e : nxtT A B p q = A.getD p 0 := by unfold nxtT; rw [if_pos h1, if_neg h2]
      left; rw [e]; unfold stp; rw [if_pos ⟨h1, rfl⟩]; omega
  · have e : nxtT A B p q = B.getD q 0 := by unfold nxtT; rw [if_neg h1]
    right; rw [e]; unfold stp; rw [if_pos ⟨by omega, rfl⟩]; omega
theorem mrg_len : ∀ (n : Nat) (A : List Int) (p : Bool) (B : List Int) (q : Bool), A.length + B.length ≤ n → (mrg A p B q).length ≤ A.length + B.length
  | n, [], p, [], q, _ => by unfold mrg; simp
  | 0, a :: A, p, B, q, h => by simp at h
  | 0, [], p, b :: B, q, h => by simp at h
  | n + 1, a :: A, p, [], q, h => by
    rw [mrg_cn]
    have := mrg_len n A (!p) [] q (by simp at h ⊢; omega)
    simp at this ⊢
    omega
  | n + 1, [], p, b :: B, q, h => by
    rw [mrg_nc]
    have := mrg_len n [] p B (!q) (by simp at h ⊢; omega)
    simp at this ⊢
    omega
  | n + 1, a :: A, p, b :: B, q, h => by
    rw [mrg_cc]
    have h1 := mrg_len n A (!p) (b :: B) q (by simp at h ⊢; omega)
    have h2 := mrg_len n (a :: A) p B (!q) (by simp at h ⊢; omega)
    have h3 := mrg_len n A (!p) B (!q) (by simp at h ⊢; omega)
    simp at h1 h2 h3
    split
    · simp; omega
    · split <;> simp <;> omega
theorem mcomb1_len (f : Bool → Bool → Bool) (O : List Int) (e : Int × Bool × Bool) : (mcomb1 f O e).length ≤ O.length + 1 := by
  unfold mcomb1
  split
  · omega
  · simp
theorem mcomb_len (f : Bool → Bool → Bool) : ∀ (S : List (Int × Bool × Bool)) (O : List Int), (mcomb f S O).length ≤ O.length + S.length
  | [], O => by simp [mcomb]
  | e :: S, O => by
    have h1 := mcomb_len f S (mcomb1 f O e)
    have h2 := mcomb1_len f O e
    show (mcomb f S (mcomb1 f O e)).length ≤ _
    simp
    omega
theorem mcomb_next (f : Bool → Bool → Bool) {S : List (Int × Bool × Bool)} {i : Nat} {e : Int × Bool × Bool} (h : S[i]? = some e) (O : List Int) : mcomb f (S.take (i + 1)) O = mcomb1 f (mcomb f (S.take i) O) e := by
  obtain ⟨hi, rfl⟩ := List.getElem?_eq_some_iff.1 h
  rw [List.take_succ_eq_append_getElem hi]
  unfold mcomb
  rw [List.foldl_append]
  rfl
theorem mrg_end {A B : List Int} {p q : Bool} : mrg (A.drop A.length) p (B.drop B.length) q = [] := by
  rw [List.drop_length, List.drop_length]
  unfold mrg
  rfl
theorem drop_head {α : Type} {S : List α} {k : Nat} {x : α} {r : List α} (h : S.drop k = x :: r) : S[k]? = some x ∧ S.drop (k + 1) = r ∧ k < S.length := by
  have hk : k < S.length := by
    apply Nat.lt_of_not_le
    intro hc
    rw [List.drop_eq_nil_of_le hc] at h
    simp at h
  rw [List.drop_eq_getElem_cons hk, List.cons.injEq] at h
  exact ⟨by rw [List.getElem?_eq_getElem hk, h.1], h.2, hk⟩
end Go.Step
/- Arrays of small values: their elements' places, two of them built. No conditions. -/
namespace Go.Eng
variable {C : Cx} {R H : List PH} {L : Env} {dst : Option Tmp} {ty : TypeId} {pos : String} {aft : Array Edge} {g : Option (Nat × Bool)}
theorem q_idxA {x y : Operand} {t e : TypeId} {b o n i : Nat} {k : IntKind} (h : evalE L x = some (.pointer (some ⟨b, o, none⟩))) (h2 : evalE L y = some (.int k (i : Int))) (ht : C.P.underlying t = some (.array n e)) (hs : szP C.P e = some 1) (hn : i < n) :
    Quiet C R H L ⟨dst, .indexAddr t x y, ty, pos, aft, g⟩ (.pointer (some ⟨b, o + i, none⟩)) :=
  ⟨by intro c; simp, fun a w hx _ => by
    simp [execOp, hx x (by simp [Op.operands]) _ h, hx y (by simp [Op.operands]) _ h2, Instr.indexAt, Instr.sureAddr, asIntOf, run_underlying ht, hn, run_sizeOf hs, Addr.add_lit]⟩
theorem q_idxA0 {x y : Operand} {t e : TypeId} {b o n : Nat} {k : IntKind} (h : evalE L x = some (.pointer (some ⟨b, o, none⟩))) (h2 : evalE L y = some (.int k 0)) (ht : C.P.underlying t = some (.array n e)) (hs : szP C.P e = some 1) (hn : 0 < n) :
    Quiet C R H L ⟨dst, .indexAddr t x y, ty, pos, aft, g⟩ (.pointer (some ⟨b, o, none⟩)) := q_idxA (i := 0) h h2 ht hs hn
theorem q_idxA1 {x y : Operand} {t e : TypeId} {b o n : Nat} {k : IntKind} (h : evalE L x = some (.pointer (some ⟨b, o, none⟩))) (h2 : evalE L y = some (.int k 1)) (ht : C.P.underlying t = some (.array n e)) (hs : szP C.P e = some 1) (hn : 1 < n) :
    Quiet C R H L ⟨dst, .indexAddr t x y, ty, pos, aft, g⟩ (.pointer (some ⟨b, o + 1, none⟩)) := q_idxA (i := 1) h h2 ht hs hn
theorem q_buildA2 {x y : Operand} {t e : TypeId} {z0 z1 v0 v1 : Value} (h : evalE L x = some v0) (h2 : evalE L y = some v1) (ht : C.P.underlying t = some (.array 2 e)) (hs : szP C.P e = some 1) (hz : zeroP C.P t = some (.agg #[z0, z1])) (o0 : v0.oneCell' = true) (o1 : v1.oneCell' = true) :
    Quiet C R H L ⟨dst, .build t #[(0, x), (1, y)], ty, pos, aft, g⟩ (.agg #[v0, v1]) :=
  ⟨by intro c; simp, fun a w hx _ => by
    have c0 : v0.cells = #[v0] := by cases v0 <;> first | rfl | simp [Value.oneCell'] at o0
    have c1 : v1.cells = #[v1] := by cases v1 <;> first | rfl | simp [Value.oneCell'] at o1
    have cz : (Value.agg #[z0, z1]).cells = #[z0, z1] := rfl
    simp [execOp, hx x (by simp [Op.operands]) _ h, hx y (by simp [Op.operands]) _ h2, Instr.build, run_zeroValue hz, run_underlying ht, run_sizeOf hs, cz, Instr.fill, c0, c1]⟩
end Go.Eng
/- Where the ways of a test meet behind it: the test's region and the test. No conditions. -/
namespace Go.Eng
variable {C : Cx} {D : List Deferred} {R H : List PH} {L : Env} {K : List It}
end Go.Eng
/- Inside a region that draws its order: the chunks in another order. No conditions. -/
namespace Go.Eng
variable {C : Cx} {D : List Deferred} {R H Hf : List PH} {L : Env} {K : List It} {ps ls : List Nat}
theorem Quiet.perm {H' : List PH} {o : Oper} {v : Value} (hp : H'.Perm H) (h : Quiet C R H L o v) : Quiet C R H' L o v := ⟨h.1, fun a w hx hs => h.2 a w hx (hs.perm hp)⟩
theorem dj_perm {H' : List PH} {all : Array Oper} {done : List Nat} {plan : Pl} (hp : H.Perm H') (h : DJ C D R Hf H' L all done ps ls plan K) : DJ C D R Hf H L all done ps ls plan K := by
  refine ⟨fun hpl fuel listed a w hinv => h.run hpl fuel listed a w ⟨hinv.size, hinv.dc, hinv.sub, hinv.fuel, hinv.tm, hinv.df, hinv.sat.perm hp, hinv.get, fun i hi hn => ?_, fun w hw => hinv.hf w (hw.perm hp.symm), hinv.lds, hinv.data, hinv.uniq, hinv.chron⟩⟩
  obtain ⟨o, d, v, h1, h2, h3, h4, h5⟩ := hinv.prom i hi hn
  refine ⟨o, d, v, h1, h2, h3, h4, ?_⟩
  rcases h5 with ⟨k1, k2⟩ | k
  · refine .inl ⟨k1, ?_⟩
    split at k2
    · rename_i c; rw [if_pos c]; exact k2
    · rename_i c; rw [if_neg c]; exact k2.perm hp.symm
  · exact .inr k
/-- another plan for what is left -/
theorem dj_replan {all : Array Oper} {done : List Nat} {plan : Pl} (plan' : Pl) (hp : planOK all done ps ls plan' = true) (h : DJ C D R Hf H L all done ps ls plan' K) : DJ C D R Hf H L all done ps ls plan K := ⟨fun _ => h.run hp⟩
end Go.Eng
/- The ends of two sets, in their order. -/
namespace Go.Proofs.Ytjbebmealbnmgaa
open Go.Eng Go.Step
set_option maxRecDepth 100000
set_option maxHeartbeats 4000000

theorem sideNext_spec (ρ : PH) (v : Value) (l : Iv) (b p : Nat) (hv : SpAt ρ v l) (hl : l.length ≤ 4611686018427387903) (hp : p ≤ 2 * l.length) :
    Ans Try.prog (fv 88) [.pointer (some ⟨b, 0, none⟩)] [sng b (.cells #[v, int ((p / 2 : Nat) : Int), .bool (oddB p)] 129 (0, 0)), ρ] (fun r => r = .tuple #[int ((tog l).getD p 0), .bool (decide (p < 2 * l.length))]) := by
  obtain ⟨q, c, rfl, hr⟩ := hv.val encS_len
  have hod := oddB_cases p
  obtain ⟨i, hi⟩ : ∃ i, p / 2 = i := ⟨_, rfl⟩
  rw [hi] at hod ⊢
  have ct : RdN (sng b (.cells #[.slice q l.length c, int ((i : Nat) : Int), .bool (oddB p)] 129 (0, 0))) b 0 [.slice q l.length c, int ((i : Nat) : Int), .bool (oddB p)] := rdN_sng (vs := [.slice q l.length c, int ((i : Nat) : Int), .bool (oddB p)])
  have ct0 : rdc (sng b (.cells #[.slice q l.length c, int ((i : Nat) : Int), .bool (oddB p)] 129 (0, 0))) b 0 = some (.slice q l.length c) := by rw [rdc_sng]; rfl
  have ct1 : rdc (sng b (.cells #[.slice q l.length c, int ((i : Nat) : Int), .bool (oddB p)] 129 (0, 0))) b 1 = some (int ((i : Nat) : Int)) := by rw [rdc_sng]; rfl
  have ct2 : rdc (sng b (.cells #[.slice q l.length c, int ((i : Nat) : Int), .bool (oddB p)] 129 (0, 0))) b 2 = some (.bool (oddB p)) := by rw [rdc_sng]; rfl
  refine spec_in (cap := []) Try.func88 rfl rfl Try.ntmps88 rfl (by (repeat (first | exact EnvA.nil EnvI.nil | apply EnvA.cons | apply EnvA.nil | exact EnvI.nil | apply EnvI.cons)); first | done | fail) (fun N β => ?_)
  by_cases h0 : p = 2 * l.length
  · have hR : (tog l).getD p 0 = 0 := by rw [List.getD_eq_getElem?_getD, List.getElem?_eq_none (by rw [tog_len]; omega)]; rfl
    rw [hR, decide_eq_false (by omega)]
    have hil : i = l.length := by omega
    refine jk_seq ?_
    refine jk_region ?_
    refine zq_assign ?_
    refine zq_assign ?_
    refine jk_nil ?_
    refine jk_seq ?_
    refine jk_block ?_
    refine jk_seq ?_
    refine jk_draw (.q 0 (.q 1 (.q 2 (.q 3 (.q 4 (.q 5 (.q 6 (.q 7 (.q 8 (.q 9 (.q 10 .nil))))))))))) [] rfl (by kernel_rfl) selZ ?_
    refine zd_move ?_
    refine zd_nilCheck ?_
    refine zd_fld0 ?_
    refine zd_load ?_
    refine zd_move ?_
    refine zd_nilCheck ?_
    refine zd_fld0 ?_
    refine zd_load ?_
    refine zd_len ?_
    refine zd_eq ?_
    refine zd_assign ?_
    refine dj_end ?_
    refine jk_if_t rfl ?_
    refine jk_seq ?_
    refine jk_region ?_
    refine zq_assign ?_
    refine zq_assign ?_
    refine jk_nil ?_
    exact jk_ret_any (res2 rfl rfl rfl) (by (repeat (first | exact rs_nil | (refine rs_cons ?_ ?_; (focus ((repeat (first | exact .here | apply Mem.there | apply Take.there)); first | done | fail))) | exact fun ρ hρ => hρ | (intro ρ hρ; repeat (first | exact hρ | refine List.mem_cons_of_mem _ ?_)))); first | done | fail) selZ ⟨rfl, rfl⟩
  have hil : i < l.length := by omega
  obtain ⟨g1, g2⟩ := tog_get l i _ (List.getElem?_eq_getElem hil)
  rw [decide_eq_true (show p < 2 * l.length by omega)]
  obtain ⟨b4, o4, rfl, hrd, x0, x1⟩ := spRow hr (List.getElem?_eq_getElem hil)
  rcases hod with ⟨ho, hp2⟩ | ⟨ho, hp2⟩
  · have hR : (tog l).getD p 0 = l[i].2 := by rw [List.getD_eq_getElem?_getD, hp2, g2]; rfl
    rw [hR]
    rw [ho] at ct ct0 ct1 ct2 ⊢
    generalize l[i] = x at hrd x0 x1
    refine jk_seq ?_
    refine jk_region ?_
    refine zq_assign ?_
    refine zq_assign ?_
    refine jk_nil ?_
    refine jk_seq ?_
    refine jk_block ?_
    refine jk_seq ?_
    refine jk_draw (.q 0 (.q 1 (.q 2 (.q 3 (.q 4 (.q 5 (.q 6 (.q 7 (.q 8 (.q 9 (.q 10 .nil))))))))))) [] rfl (by kernel_rfl) selZ ?_
    refine zd_move ?_
    refine zd_nilCheck ?_
    refine zd_fld0 ?_
    refine zd_load ?_
    refine zd_move ?_
    refine zd_nilCheck ?_
    refine zd_fld0 ?_
    refine zd_load ?_
    refine zd_len ?_
    refine zd_eqF ?_
    refine zd_assign ?_
    refine dj_end ?_
    refine jk_if_f rfl ?_
    refine jk_seq ?_
    refine jk_region ?_
    refine zq_move ?_
    refine zq_nilCheck ?_
    refine zq_fld0 ?_
    refine zq_load ?_
    refine zq_assign ?_
    refine jk_nil ?_
    refine jk_if_t rfl ?_
    refine jk_seq ?_
    refine jk_draw (.q 0 (.q 1 (.q 2 (.q 3 (.q 4 (.q 5 (.q 6 (.q 7 (.q 8 (.q 9 (.q 10 (.q 11 (.q 12 .nil))))))))))))) [] rfl (by kernel_rfl) selZ ?_
    refine zd_move ?_
    refine zd_nilCheck ?_
    refine zd_fld0 ?_
    refine zd_load ?_
    refine zd_move ?_
    refine zd_nilCheck ?_
    refine zd_fld0 ?_
    refine zd_load ?_
    refine zd_idxN ?_
    refine zd_fld ?_
    refine zd_load ?_
    refine zd_assign ?_
    refine zd_assign ?_
    refine dj_end ?_
    skip
    exact jk_ret_any (res2 rfl rfl rfl) (by (repeat (first | exact rs_nil | (refine rs_cons ?_ ?_; (focus ((repeat (first | exact .here | apply Mem.there | apply Take.there)); first | done | fail))) | exact fun ρ hρ => hρ | (intro ρ hρ; repeat (first | exact hρ | refine List.mem_cons_of_mem _ ?_)))); first | done | fail) selZ ⟨rfl, rfl⟩
  · have hR : (tog l).getD p 0 = l[i].1 := by rw [List.getD_eq_getElem?_getD, hp2, g1]; rfl
    rw [hR]
    rw [ho] at ct ct0 ct1 ct2 ⊢
    generalize l[i] = x at hrd x0 x1
    refine jk_seq ?_
    refine jk_region ?_
    refine zq_assign ?_
    refine zq_assign ?_
    refine jk_nil ?_
    refine jk_seq ?_
    refine jk_block ?_
    refine jk_seq ?_
    refine jk_draw (.q 0 (.q 1 (.q 2 (.q 3 (.q 4 (.q 5 (.q 6 (.q 7 (.q 8 (.q 9 (.q 10 .nil))))))))))) [] rfl (by kernel_rfl) selZ ?_
    refine zd_move ?_
    refine zd_nilCheck ?_
    refine zd_fld0 ?_
    refine zd_load ?_
    refine zd_move ?_
    refine zd_nilCheck ?_
    refine zd_fld0 ?_
    refine zd_load ?_
    refine zd_len ?_
    refine zd_eqF ?_
    refine zd_assign ?_
    refine dj_end ?_
    refine jk_if_f rfl ?_
    refine jk_seq ?_
    refine jk_region ?_
    refine zq_move ?_
    refine zq_nilCheck ?_
    refine zq_fld0 ?_
    refine zq_load ?_
    refine zq_assign ?_
    refine jk_nil ?_
    refine jk_if_f rfl ?_
    refine jk_skip ?_
    refine jk_blk ?_
    refine jk_seq ?_
    refine jk_draw (.q 0 (.q 1 (.q 2 (.q 3 (.q 4 (.q 5 (.q 6 (.q 7 (.q 8 (.q 9 (.q 10 (.q 11 (.q 12 .nil))))))))))))) [] rfl (by kernel_rfl) selZ ?_
    refine zd_move ?_
    refine zd_nilCheck ?_
    refine zd_fld0 ?_
    refine zd_load ?_
    refine zd_move ?_
    refine zd_nilCheck ?_
    refine zd_fld0 ?_
    refine zd_load ?_
    refine zd_idxN ?_
    refine zd_fldZ ?_
    refine zd_load ?_
    refine zd_assign ?_
    refine zd_assign ?_
    refine dj_end ?_
    skip
    exact jk_ret_any (res2 rfl rfl rfl) (by (repeat (first | exact rs_nil | (refine rs_cons ?_ ?_; (focus ((repeat (first | exact .here | apply Mem.there | apply Take.there)); first | done | fail))) | exact fun ρ hρ => hρ | (intro ρ hρ; repeat (first | exact hρ | refine List.mem_cons_of_mem _ ?_)))); first | done | fail) selZ ⟨rfl, rfl⟩
set_option maxHeartbeats 16000000 in
theorem sidePass_spec (ρ : PH) (v : Value) (l : Iv) (b p : Nat) (t : Int) (hv : SpAt ρ v l) (hl : l.length ≤ 4611686018427387903) (hp : p ≤ 2 * l.length) :
    Eng.Spec Try.prog (fv 89) [.pointer (some ⟨b, 0, none⟩), int t] [ρ] [sng b (.cells #[v, int ((p / 2 : Nat) : Int), .bool (oddB p)] 129 (0, 0))] (fun r H' => r = .tuple #[] ∧ H' = [sng b (.cells #[v, int ((stp (tog l) t p / 2 : Nat) : Int), .bool (oddB (stp (tog l) t p))] 129 (0, 0))]) := by
  have hn := sideNext_spec ρ v l b p hv hl hp
  obtain ⟨q, c, rfl, hr⟩ := hv.val encS_len
  refine spec_in (cap := []) Try.func89 rfl rfl Try.ntmps89 rfl (by (repeat (first | exact EnvA.nil EnvI.nil | apply EnvA.cons | apply EnvA.nil | exact EnvI.nil | apply EnvI.cons)); first | done | fail) (fun N β => ?_)
  refine jk_seq ?_
  refine jk_seq ?_
  refine jk_region ?_
  refine zq_move ?_
  refine jk_call hn rfl rfl rdZ rfl rfl ?_
  rintro _ rfl
  by_cases h1 : p < 2 * l.length
  rotate_left
  · have hs : stp (tog l) t p = p := by unfold stp; rw [if_neg (by rw [tog_len]; omega)]
    rw [hs, decide_eq_false h1]
    refine zq_move ?_
    refine zq_extract ?_
    refine zq_extract ?_
    refine zq_assign ?_
    refine zq_assign ?_
    refine jk_nil ?_
    refine jk_seq ?_
    refine jk_region ?_
    refine zq_move ?_
    refine zq_not ?_
    refine zq_move ?_
    refine jk_pass rfl rfl rfl ?_
    refine jk_pass rfl rfl rfl ?_
    refine jk_pass rfl rfl rfl ?_
    refine zq_pick_t ?_
    refine jk_nil ?_
    refine jk_if_t rfl ?_
    exact jk_ret_any (res0 rfl) (by (repeat (first | exact rs_nil | (refine rs_cons ?_ ?_; (focus ((repeat (first | exact .here | apply Mem.there | apply Take.there)); first | done | fail))) | exact fun ρ hρ => hρ | (intro ρ hρ; repeat (first | exact hρ | refine List.mem_cons_of_mem _ ?_)))); first | done | fail) selZ ⟨rfl, rfl⟩
  rw [decide_eq_true h1]
  by_cases h2 : (tog l).getD p 0 = t
  rotate_left
  · have hs : stp (tog l) t p = p := by unfold stp; rw [if_neg (fun h => h2 h.2)]
    rw [hs]
    generalize (tog l).getD p 0 = z at h2
    refine zq_move ?_
    refine zq_extract ?_
    refine zq_extract ?_
    refine zq_assign ?_
    refine zq_assign ?_
    refine jk_nil ?_
    refine jk_seq ?_
    refine jk_region ?_
    refine zq_move ?_
    refine zq_not ?_
    refine zq_move ?_
    refine zq_move ?_
    refine zq_move ?_
    refine zq_ne ?_
    refine zq_pick_f ?_
    refine jk_nil ?_
    refine jk_if_t rfl ?_
    exact jk_ret_any (res0 rfl) (by (repeat (first | exact rs_nil | (refine rs_cons ?_ ?_; (focus ((repeat (first | exact .here | apply Mem.there | apply Take.there)); first | done | fail))) | exact fun ρ hρ => hρ | (intro ρ hρ; repeat (first | exact hρ | refine List.mem_cons_of_mem _ ?_)))); first | done | fail) selZ ⟨rfl, rfl⟩
  have hs : stp (tog l) t p = p + 1 := by unfold stp; rw [if_pos ⟨by rw [tog_len]; exact h1, h2⟩]
  rw [hs, h2]
  have hod := oddB_cases p
  have hi2 : (p + 1) / 2 = if oddB p = true then p / 2 + 1 else p / 2 := by
    rcases hod with ⟨ho, hp2⟩ | ⟨ho, hp2⟩
    · rw [if_pos ho]; omega
    · rw [if_neg (by rw [ho]; simp)]; omega
  rw [hi2, oddB_succ]
  obtain ⟨i, hi⟩ : ∃ i, p / 2 = i := ⟨_, rfl⟩
  rw [hi] at hod ⊢
  clear hn
  rcases hod with ⟨ho, hp2⟩ | ⟨ho, hp2⟩
  · rw [ho, if_pos rfl]
    refine zq_move ?_
    refine zq_extract ?_
    refine zq_extract ?_
    refine zq_assign ?_
    refine zq_assign ?_
    refine jk_nil ?_
    refine jk_seq ?_
    refine jk_region ?_
    refine zq_move ?_
    refine zq_not ?_
    refine zq_move ?_
    refine zq_move ?_
    refine zq_move ?_
    refine zq_neF ?_
    refine zq_pick_f ?_
    refine jk_nil ?_
    refine jk_if_f rfl ?_
    refine jk_skip ?_
    refine jk_seq ?_
    refine jk_seq ?_
    refine jk_region ?_
    refine zq_move ?_
    refine zq_nilCheck ?_
    refine zq_fld0 ?_
    refine zq_load ?_
    refine jk_nil ?_
    refine jk_if_t rfl ?_
    refine jk_region ?_
    refine zq_move ?_
    refine zq_nilCheck ?_
    refine zq_fld0 ?_
    refine zq_load ?_
    refine zq_inc ?_
    refine zq_nilCheck ?_
    refine zq_fld0 ?_
    refine zs_storeL ?_; rintro _ _ ⟨rfl, rfl⟩
    refine jk_nil ?_
    refine jk_region ?_
    refine zq_move ?_
    refine zq_move ?_
    refine zq_nilCheck ?_
    refine zq_fld0 ?_
    refine zq_load ?_
    refine zq_not ?_
    refine zq_nilCheck ?_
    refine zq_fld0 ?_
    refine zs_storeL ?_; rintro _ _ ⟨rfl, rfl⟩
    refine jk_nil ?_
    exact jk_end_any (res0 rfl) (by (repeat (first | exact rs_nil | (refine rs_cons ?_ ?_; (focus ((repeat (first | exact .here | apply Mem.there | apply Take.there)); first | done | fail))) | exact fun ρ hρ => hρ | (intro ρ hρ; repeat (first | exact hρ | refine List.mem_cons_of_mem _ ?_)))); first | done | fail) selZ ⟨rfl, rfl⟩
  · rw [ho, if_neg (by simp)]
    refine zq_move ?_
    refine zq_extract ?_
    refine zq_extract ?_
    refine zq_assign ?_
    refine zq_assign ?_
    refine jk_nil ?_
    refine jk_seq ?_
    refine jk_region ?_
    refine zq_move ?_
    refine zq_not ?_
    refine zq_move ?_
    refine zq_move ?_
    refine zq_move ?_
    refine zq_neF ?_
    refine zq_pick_f ?_
    refine jk_nil ?_
    refine jk_if_f rfl ?_
    refine jk_skip ?_
    refine jk_seq ?_
    refine jk_seq ?_
    refine jk_region ?_
    refine zq_move ?_
    refine zq_nilCheck ?_
    refine zq_fld0 ?_
    refine zq_load ?_
    refine jk_nil ?_
    refine jk_if_f rfl ?_
    refine jk_skip ?_
    refine jk_region ?_
    refine zq_move ?_
    refine zq_move ?_
    refine zq_nilCheck ?_
    refine zq_fld0 ?_
    refine zq_load ?_
    refine zq_not ?_
    refine zq_nilCheck ?_
    refine zq_fld0 ?_
    refine zs_storeL ?_; rintro _ _ ⟨rfl, rfl⟩
    refine jk_nil ?_
    exact jk_end_any (res0 rfl) (by (repeat (first | exact rs_nil | (refine rs_cons ?_ ?_; (focus ((repeat (first | exact .here | apply Mem.there | apply Take.there)); first | done | fail))) | exact fun ρ hρ => hρ | (intro ρ hρ; repeat (first | exact hρ | refine List.mem_cons_of_mem _ ?_)))); first | done | fail) selZ ⟨rfl, rfl⟩
end Go.Proofs.Ytjbebmealbnmgaa
/- The ends of two sets, in their order: an iterator. -/
namespace Go.Proofs.Ytjbebmealbnmgaa
open Go.Eng Go.Step
set_option maxRecDepth 100000
set_option maxHeartbeats 4000000

def encPt (x : Int × Bool × Bool) : List Value := [int x.1, .agg #[.bool x.2.1, .bool x.2.2]]
set_option maxHeartbeats 32000000 in
theorem points_iter (ρ τ : PH) (va vb : Value) (a b : Iv) (b1 b2 : Nat) (ha : SpAt ρ va a) (hb : SpAt τ vb b) (hla : a.length ≤ 1000000) (hlb : b.length ≤ 1000000) :
    Iter Try.prog (.func (.func 87) #[] #[.pointer (some ⟨b1, 0, none⟩), .pointer (some ⟨b2, 0, none⟩)]) [sng b1 (.cells #[va] 56 (0, 0)), sng b2 (.cells #[vb] 56 (0, 0)), ρ, τ] ((mrg (tog a) false (tog b) false).map encPt) := by
  intro y S Own Inv Stop Ry hy hyl σ0 hI0
  obtain ⟨yl, rfl⟩ := hyl
  have hna := fun bx p hp => sideNext_spec ρ va a bx p ha (by omega) hp
  have hnb := fun bx p hp => sideNext_spec τ vb b bx p hb (by omega) hp
  have hpa := fun bx p t hp => sidePass_spec ρ va a bx p t ha (by omega) hp
  have hpb := fun bx p t hp => sidePass_spec τ vb b bx p t hb (by omega) hp
  obtain ⟨qa, ca, rfl, hra⟩ := ha.val encS_len
  obtain ⟨qb, cb, rfl, hrb⟩ := hb.val encS_len
  have c1 : rdc (sng b1 (.cells #[.slice qa a.length ca] 56 (0, 0))) b1 0 = some (.slice qa a.length ca) := by rw [rdc_sng]; rfl
  have c2 : rdc (sng b2 (.cells #[.slice qb b.length cb] 56 (0, 0))) b2 0 = some (.slice qb b.length cb) := by rw [rdc_sng]; rfl
  have la := tog_len a
  have lb := tog_len b
  simp only [List.cons_append, List.nil_append]
  refine spec_in (cap := [.pointer (some ⟨b1, 0, none⟩), .pointer (some ⟨b2, 0, none⟩)]) Try.func87 rfl rfl Try.ntmps87 rfl (by (repeat (first | exact EnvA.nil EnvI.nil | apply EnvA.cons | apply EnvA.nil | exact EnvI.nil | apply EnvI.cons)); first | done | fail) (fun N β => ?_)
  refine jk_seq ?_
  refine jk_mid (X := Nat × Nat) [0, 1, 2] (fun _ => True) (fun x => [(4, .pointer (some ⟨x.1, 0, none⟩)), (5, .pointer (some ⟨x.2, 0, none⟩))]) (fun x => sng x.2 (.cells #[.slice qb b.length cb, int ((0 / 2 : Nat) : Int), .bool (oddB 0)] 129 (0, 0)) :: sng x.1 (.cells #[.slice qa a.length ca, int ((0 / 2 : Nat) : Int), .bool (oddB 0)] 129 (0, 0)) :: Own σ0) pickZ ?_ ?_
  · refine jk_draw (.q 0 (.q 1 (.q 3 (.q 4 (.l2 2 .e (.q 6 (.l 5 .e (.q 7 .nil))) 5 .e (.l 2 .e (.q 6 (.q 7 .nil)))))))) [] rfl (by kernel_rfl) Sel.nil ?_
    repeat' (first
      | (refine zd_assign ?_)
      | (refine zd_load ?_)
      | (refine zd_build ?_)
      | (refine dj_end ?_)
      | (refine dj_l2 ?_ ?_)
      | (refine ze_boxS ?_; rintro _ _ ⟨b, rfl, rfl⟩)
      | (refine zE_boxS ?_; rintro _ _ ⟨b, rfl, rfl⟩)
      | fail)
    · refine jk_meet (_, _) trivial covZ ?_
      exact Sel.refl
    · refine jk_perm (List.Perm.swap _ _ _) ?_
      refine jk_meet (_, _) trivial covZ ?_
      exact Sel.refl
  rintro ⟨bx, by_⟩ _
  dsimp only
  refine jk_block ?_
  refine jk_loop [0, 1, 2, 4, 5] (X := Nat × Nat × Nat × S) (0, 0, 0, σ0) (fun x => x.1 ≤ (mrg (tog a) false (tog b) false).length ∧ x.2.1 ≤ 2 * a.length ∧ x.2.2.1 ≤ 2 * b.length ∧ (mrg (tog a) false (tog b) false).drop x.1 = mrg ((tog a).drop x.2.1) (oddB x.2.1) ((tog b).drop x.2.2.1) (oddB x.2.2.1) ∧ Inv x.1 x.2.2.2) (fun _ => []) (fun x => sng by_ (.cells #[.slice qb b.length cb, int ((x.2.2.1 / 2 : Nat) : Int), .bool (oddB x.2.2.1)] 129 (0, 0)) :: sng bx (.cells #[.slice qa a.length ca, int ((x.2.1 / 2 : Nat) : Int), .bool (oddB x.2.1)] 129 (0, 0)) :: Own x.2.2.2) (fun x => (2 * a.length - x.2.1) + (2 * b.length - x.2.2.1)) pickZ ⟨by dsimp only; omega, by dsimp only; omega, by dsimp only; omega, rfl, hI0⟩ covZ Sel.refl ?_
  rintro ⟨k, p, q, σ'⟩ ⟨hk, hp, hq, hS, hI⟩
  dsimp only at hk hp hq hS hI ⊢
  have h1 := hna bx p hp
  have h2 := hnb by_ q hq
  refine jk_block ?_
  refine jk_seq ?_
  refine jk_region ?_
  refine zq_move ?_
  refine jk_call h1 rfl rfl rdZ rfl rfl ?_
  rintro _ rfl
  refine zq_move ?_
  refine zq_extract ?_
  refine zq_extract ?_
  refine zq_assign ?_
  refine zq_assign ?_
  refine jk_nil ?_
  refine jk_seq ?_
  refine jk_region ?_
  refine zq_move ?_
  refine jk_call h2 rfl rfl rdZ rfl rfl ?_
  rintro _ rfl
  generalize hm : (tog a).getD p 0 = m
  generalize hn : (tog b).getD q 0 = n
  by_cases h1 : p < 2 * a.length
  · rw [decide_eq_true h1]
    by_cases h2 : q < 2 * b.length ∧ n < m
    · have hX : nxtT (tog a) (tog b) p q = n := by unfold nxtT; rw [if_pos (by omega), if_pos (by rw [hm, hn]; omega), hn]
      rw [decide_eq_true h2.1]
      have h2n := h2.2
      have hlive : p < (tog a).length ∨ q < (tog b).length := by omega
      have hS' := mrg_at (by omega) (by omega) hlive
      have hgo := stp_go hlive
      rw [hX] at hS' hgo
      rw [← hS] at hS'
      obtain ⟨g1, g2, g3⟩ := drop_head hS'
      have p1 := stp_le (A := tog a) (t := n) (p := p) (by omega)
      have q1 := stp_le (A := tog b) (t := n) (p := q) (by omega)
      have hy1 := hy k σ' (encPt (n, oddB (stp (tog a) n p), oddB (stp (tog b) n q))) (by rw [List.getElem?_map, g1]; rfl) hI
      have k1 := hpa bx p n hp
      have k2 := hpb by_ q n hq
      generalize stp (tog a) n p = p' at g2 hy1 k1 p1 hgo
      generalize stp (tog b) n q = q' at g2 hy1 k2 q1 hgo
      refine zq_move ?_
      refine zq_extract ?_
      refine zq_extract ?_
      refine zq_assign ?_
      refine zq_assign ?_
      refine jk_nil ?_
      refine jk_seq ?_
      refine jk_seq ?_
      refine jk_region ?_
      refine zq_move ?_
      refine zq_not ?_
      refine zq_move ?_
      refine jk_pass rfl rfl rfl ?_
      refine jk_pass rfl rfl rfl ?_
      refine zq_pick_f ?_
      refine jk_nil ?_
      refine jk_if_f rfl ?_
      refine jk_skip ?_
      refine jk_seq ?_
      refine jk_region ?_
      refine zq_move ?_
      refine zq_assign ?_
      refine jk_nil ?_
      refine jk_seq ?_
      refine jk_seq ?_
      refine jk_region ?_
      refine zq_move ?_
      refine zq_not ?_
      refine zq_move ?_
      refine zq_move ?_
      refine zq_move ?_
      refine zq_move ?_
      refine zq_move ?_
      refine zq_lt ?_
      refine zq_pick_t ?_
      refine zq_pick_f ?_
      refine jk_nil ?_
      refine jk_if_t rfl ?_
      refine jk_region ?_
      refine zq_move ?_
      refine zq_assign ?_
      refine jk_nil ?_
      refine jk_seq ?_
      refine jk_region ?_
      refine zq_move ?_
      refine zq_move ?_
      refine jk_callH k1 rfl rfl (by (repeat (first | exact Takes.nil | (apply Takes.cons; exact (by (repeat (first | exact .here | apply Take.there)); first | done | fail)))); first | done | fail) rdZ rfl rfl ?_
      rintro _ _ ⟨rfl, rfl⟩
      refine jk_nil ?_
      refine jk_seq ?_
      refine jk_region ?_
      refine zq_move ?_
      refine zq_move ?_
      refine jk_callH k2 rfl rfl (by (repeat (first | exact Takes.nil | (apply Takes.cons; exact (by (repeat (first | exact .here | apply Take.there)); first | done | fail)))); first | done | fail) rdZ rfl rfl ?_
      rintro _ _ ⟨rfl, rfl⟩
      refine jk_nil ?_
      refine jk_seq ?_
      refine jk_draw (.q 0 (.q 1 (.q 2 (.q 3 (.q 4 (.q 5 (.q 6 (.q 7 (.q 8 (.q 9 (.q 10 (.l 11 .b (.q 12 .nil))))))))))))) [] rfl (by kernel_rfl) Sel.nil ?_
      refine zd_move ?_
      refine zd_move ?_
      refine zd_move ?_
      refine zd_nilCheck ?_
      refine zd_fld0 ?_
      refine zd_load ?_
      refine zd_move ?_
      refine zd_nilCheck ?_
      refine zd_fld0 ?_
      refine zd_load ?_
      focus ((refine' dj_q rfl _ rfl rfl rfl rfl _; rotate_left; (focus (apply q_buildA2; exact rfl; exact rfl; exact rfl; exact rfl; exact rfl; exact rfl; exact rfl))))
      refine dj_l (a_callH rfl hy1 rfl rfl (Takes.skip (Takes.skip Takes.all)) (fun τ hτ => .inl (by simp [hτ])) rfl rfl (fun _ _ _ w hw => hw.sel Sel.nil) ?_)
      rintro _ H' ⟨σ1, rfl, ⟨rfl, hI1⟩ | ⟨rfl, hSt⟩⟩
      · refine dj_perm (H' := _ :: _ :: Own σ1) (List.perm_append_comm (l₂ := [_, _])) ?_
        refine zd_not ?_
        refine dj_end ?_
        refine jk_if_f rfl ?_
        refine jk_skip ?_
        refine jk_blk ?_
        exact jk_round (k + 1, p', q', σ1) ⟨by dsimp only; omega, by dsimp only; omega, by dsimp only; omega, g2, hI1⟩ (by dsimp only; omega) covZ Sel.refl
      · refine zd_not ?_
        refine dj_end ?_
        refine jk_if_t rfl ?_
        exact jk_ret_any (res0 rfl) (fun _ h => h) Sel.left ⟨σ1, rfl, .inr hSt⟩
    · have hX : nxtT (tog a) (tog b) p q = m := by unfold nxtT; rw [if_pos (by omega), if_neg (by rw [hm, hn]; omega), hm]
      by_cases h3 : q < 2 * b.length
      · rw [decide_eq_true h3]
        have h2n : ¬ n < m := fun h => h2 ⟨h3, h⟩
        have hlive : p < (tog a).length ∨ q < (tog b).length := by omega
        have hS' := mrg_at (by omega) (by omega) hlive
        have hgo := stp_go hlive
        rw [hX] at hS' hgo
        rw [← hS] at hS'
        obtain ⟨g1, g2, g3⟩ := drop_head hS'
        have p1 := stp_le (A := tog a) (t := m) (p := p) (by omega)
        have q1 := stp_le (A := tog b) (t := m) (p := q) (by omega)
        have hy1 := hy k σ' (encPt (m, oddB (stp (tog a) m p), oddB (stp (tog b) m q))) (by rw [List.getElem?_map, g1]; rfl) hI
        have k1 := hpa bx p m hp
        have k2 := hpb by_ q m hq
        generalize stp (tog a) m p = p' at g2 hy1 k1 p1 hgo
        generalize stp (tog b) m q = q' at g2 hy1 k2 q1 hgo
        refine zq_move ?_
        refine zq_extract ?_
        refine zq_extract ?_
        refine zq_assign ?_
        refine zq_assign ?_
        refine jk_nil ?_
        refine jk_seq ?_
        refine jk_seq ?_
        refine jk_region ?_
        refine zq_move ?_
        refine zq_not ?_
        refine zq_move ?_
        refine jk_pass rfl rfl rfl ?_
        refine jk_pass rfl rfl rfl ?_
        refine zq_pick_f ?_
        refine jk_nil ?_
        refine jk_if_f rfl ?_
        refine jk_skip ?_
        refine jk_seq ?_
        refine jk_region ?_
        refine zq_move ?_
        refine zq_assign ?_
        refine jk_nil ?_
        refine jk_seq ?_
        refine jk_seq ?_
        refine jk_region ?_
        refine zq_move ?_
        refine zq_not ?_
        refine zq_move ?_
        refine zq_move ?_
        refine zq_move ?_
        refine zq_move ?_
        refine zq_move ?_
        refine zq_ltF ?_
        refine zq_pick_t ?_
        refine zq_pick_f ?_
        refine jk_nil ?_
        refine jk_if_f rfl ?_
        refine jk_skip ?_
        refine jk_seq ?_
        refine jk_region ?_
        refine zq_move ?_
        refine zq_move ?_
        refine jk_callH k1 rfl rfl (by (repeat (first | exact Takes.nil | (apply Takes.cons; exact (by (repeat (first | exact .here | apply Take.there)); first | done | fail)))); first | done | fail) rdZ rfl rfl ?_
        rintro _ _ ⟨rfl, rfl⟩
        refine jk_nil ?_
        refine jk_seq ?_
        refine jk_region ?_
        refine zq_move ?_
        refine zq_move ?_
        refine jk_callH k2 rfl rfl (by (repeat (first | exact Takes.nil | (apply Takes.cons; exact (by (repeat (first | exact .here | apply Take.there)); first | done | fail)))); first | done | fail) rdZ rfl rfl ?_
        rintro _ _ ⟨rfl, rfl⟩
        refine jk_nil ?_
        refine jk_seq ?_
        refine jk_draw (.q 0 (.q 1 (.q 2 (.q 3 (.q 4 (.q 5 (.q 6 (.q 7 (.q 8 (.q 9 (.q 10 (.l 11 .b (.q 12 .nil))))))))))))) [] rfl (by kernel_rfl) Sel.nil ?_
        refine zd_move ?_
        refine zd_move ?_
        refine zd_move ?_
        refine zd_nilCheck ?_
        refine zd_fld0 ?_
        refine zd_load ?_
        refine zd_move ?_
        refine zd_nilCheck ?_
        refine zd_fld0 ?_
        refine zd_load ?_
        focus ((refine' dj_q rfl _ rfl rfl rfl rfl _; rotate_left; (focus (apply q_buildA2; exact rfl; exact rfl; exact rfl; exact rfl; exact rfl; exact rfl; exact rfl))))
        refine dj_l (a_callH rfl hy1 rfl rfl (Takes.skip (Takes.skip Takes.all)) (fun τ hτ => .inl (by simp [hτ])) rfl rfl (fun _ _ _ w hw => hw.sel Sel.nil) ?_)
        rintro _ H' ⟨σ1, rfl, ⟨rfl, hI1⟩ | ⟨rfl, hSt⟩⟩
        · refine dj_perm (H' := _ :: _ :: Own σ1) (List.perm_append_comm (l₂ := [_, _])) ?_
          refine zd_not ?_
          refine dj_end ?_
          refine jk_if_f rfl ?_
          refine jk_skip ?_
          refine jk_blk ?_
          exact jk_round (k + 1, p', q', σ1) ⟨by dsimp only; omega, by dsimp only; omega, by dsimp only; omega, g2, hI1⟩ (by dsimp only; omega) covZ Sel.refl
        · refine zd_not ?_
          refine dj_end ?_
          refine jk_if_t rfl ?_
          exact jk_ret_any (res0 rfl) (fun _ h => h) Sel.left ⟨σ1, rfl, .inr hSt⟩
      · rw [decide_eq_false h3]
        have hlive : p < (tog a).length ∨ q < (tog b).length := by omega
        have hS' := mrg_at (by omega) (by omega) hlive
        have hgo := stp_go hlive
        rw [hX] at hS' hgo
        rw [← hS] at hS'
        obtain ⟨g1, g2, g3⟩ := drop_head hS'
        have p1 := stp_le (A := tog a) (t := m) (p := p) (by omega)
        have q1 := stp_le (A := tog b) (t := m) (p := q) (by omega)
        have hy1 := hy k σ' (encPt (m, oddB (stp (tog a) m p), oddB (stp (tog b) m q))) (by rw [List.getElem?_map, g1]; rfl) hI
        have k1 := hpa bx p m hp
        have k2 := hpb by_ q m hq
        generalize stp (tog a) m p = p' at g2 hy1 k1 p1 hgo
        generalize stp (tog b) m q = q' at g2 hy1 k2 q1 hgo
        refine zq_move ?_
        refine zq_extract ?_
        refine zq_extract ?_
        refine zq_assign ?_
        refine zq_assign ?_
        refine jk_nil ?_
        refine jk_seq ?_
        refine jk_seq ?_
        refine jk_region ?_
        refine zq_move ?_
        refine zq_not ?_
        refine zq_move ?_
        refine jk_pass rfl rfl rfl ?_
        refine jk_pass rfl rfl rfl ?_
        refine zq_pick_f ?_
        refine jk_nil ?_
        refine jk_if_f rfl ?_
        refine jk_skip ?_
        refine jk_seq ?_
        refine jk_region ?_
        refine zq_move ?_
        refine zq_assign ?_
        refine jk_nil ?_
        refine jk_seq ?_
        refine jk_seq ?_
        refine jk_region ?_
        refine zq_move ?_
        refine zq_not ?_
        refine zq_move ?_
        refine zq_move ?_
        refine zq_move ?_
        refine jk_pass rfl rfl rfl ?_
        refine jk_pass rfl rfl rfl ?_
        refine jk_pass rfl rfl rfl ?_
        refine zq_pick_f ?_
        refine zq_pick_f ?_
        refine jk_nil ?_
        refine jk_if_f rfl ?_
        refine jk_skip ?_
        refine jk_seq ?_
        refine jk_region ?_
        refine zq_move ?_
        refine zq_move ?_
        refine jk_callH k1 rfl rfl (by (repeat (first | exact Takes.nil | (apply Takes.cons; exact (by (repeat (first | exact .here | apply Take.there)); first | done | fail)))); first | done | fail) rdZ rfl rfl ?_
        rintro _ _ ⟨rfl, rfl⟩
        refine jk_nil ?_
        refine jk_seq ?_
        refine jk_region ?_
        refine zq_move ?_
        refine zq_move ?_
        refine jk_callH k2 rfl rfl (by (repeat (first | exact Takes.nil | (apply Takes.cons; exact (by (repeat (first | exact .here | apply Take.there)); first | done | fail)))); first | done | fail) rdZ rfl rfl ?_
        rintro _ _ ⟨rfl, rfl⟩
        refine jk_nil ?_
        refine jk_seq ?_
        refine jk_draw (.q 0 (.q 1 (.q 2 (.q 3 (.q 4 (.q 5 (.q 6 (.q 7 (.q 8 (.q 9 (.q 10 (.l 11 .b (.q 12 .nil))))))))))))) [] rfl (by kernel_rfl) Sel.nil ?_
        refine zd_move ?_
        refine zd_move ?_
        refine zd_move ?_
        refine zd_nilCheck ?_
        refine zd_fld0 ?_
        refine zd_load ?_
        refine zd_move ?_
        refine zd_nilCheck ?_
        refine zd_fld0 ?_
        refine zd_load ?_
        focus ((refine' dj_q rfl _ rfl rfl rfl rfl _; rotate_left; (focus (apply q_buildA2; exact rfl; exact rfl; exact rfl; exact rfl; exact rfl; exact rfl; exact rfl))))
        refine dj_l (a_callH rfl hy1 rfl rfl (Takes.skip (Takes.skip Takes.all)) (fun τ hτ => .inl (by simp [hτ])) rfl rfl (fun _ _ _ w hw => hw.sel Sel.nil) ?_)
        rintro _ H' ⟨σ1, rfl, ⟨rfl, hI1⟩ | ⟨rfl, hSt⟩⟩
        · refine dj_perm (H' := _ :: _ :: Own σ1) (List.perm_append_comm (l₂ := [_, _])) ?_
          refine zd_not ?_
          refine dj_end ?_
          refine jk_if_f rfl ?_
          refine jk_skip ?_
          refine jk_blk ?_
          exact jk_round (k + 1, p', q', σ1) ⟨by dsimp only; omega, by dsimp only; omega, by dsimp only; omega, g2, hI1⟩ (by dsimp only; omega) covZ Sel.refl
        · refine zd_not ?_
          refine dj_end ?_
          refine jk_if_t rfl ?_
          exact jk_ret_any (res0 rfl) (fun _ h => h) Sel.left ⟨σ1, rfl, .inr hSt⟩
  · rw [decide_eq_false h1]
    by_cases h2 : q < 2 * b.length
    · have hX : nxtT (tog a) (tog b) p q = n := by unfold nxtT; rw [if_neg (by omega), hn]
      rw [decide_eq_true h2]
      have hlive : p < (tog a).length ∨ q < (tog b).length := by omega
      have hS' := mrg_at (by omega) (by omega) hlive
      have hgo := stp_go hlive
      rw [hX] at hS' hgo
      rw [← hS] at hS'
      obtain ⟨g1, g2, g3⟩ := drop_head hS'
      have p1 := stp_le (A := tog a) (t := n) (p := p) (by omega)
      have q1 := stp_le (A := tog b) (t := n) (p := q) (by omega)
      have hy1 := hy k σ' (encPt (n, oddB (stp (tog a) n p), oddB (stp (tog b) n q))) (by rw [List.getElem?_map, g1]; rfl) hI
      have k1 := hpa bx p n hp
      have k2 := hpb by_ q n hq
      generalize stp (tog a) n p = p' at g2 hy1 k1 p1 hgo
      generalize stp (tog b) n q = q' at g2 hy1 k2 q1 hgo
      refine zq_move ?_
      refine zq_extract ?_
      refine zq_extract ?_
      refine zq_assign ?_
      refine zq_assign ?_
      refine jk_nil ?_
      refine jk_seq ?_
      refine jk_seq ?_
      refine jk_region ?_
      refine zq_move ?_
      refine zq_not ?_
      refine zq_move ?_
      refine zq_move ?_
      refine zq_not ?_
      refine zq_pick_t ?_
      refine jk_nil ?_
      refine jk_if_f rfl ?_
      refine jk_skip ?_
      refine jk_seq ?_
      refine jk_region ?_
      refine zq_move ?_
      refine zq_assign ?_
      refine jk_nil ?_
      refine jk_seq ?_
      refine jk_seq ?_
      refine jk_region ?_
      refine zq_move ?_
      refine zq_not ?_
      refine zq_move ?_
      refine jk_pass rfl rfl rfl ?_
      refine jk_pass rfl rfl rfl ?_
      refine jk_pass rfl rfl rfl ?_
      refine jk_pass rfl rfl rfl ?_
      refine jk_pass rfl rfl rfl ?_
      refine jk_pass rfl rfl rfl ?_
      refine zq_pick_t ?_
      refine jk_nil ?_
      refine jk_if_t rfl ?_
      refine jk_region ?_
      refine zq_move ?_
      refine zq_assign ?_
      refine jk_nil ?_
      refine jk_seq ?_
      refine jk_region ?_
      refine zq_move ?_
      refine zq_move ?_
      refine jk_callH k1 rfl rfl (by (repeat (first | exact Takes.nil | (apply Takes.cons; exact (by (repeat (first | exact .here | apply Take.there)); first | done | fail)))); first | done | fail) rdZ rfl rfl ?_
      rintro _ _ ⟨rfl, rfl⟩
      refine jk_nil ?_
      refine jk_seq ?_
      refine jk_region ?_
      refine zq_move ?_
      refine zq_move ?_
      refine jk_callH k2 rfl rfl (by (repeat (first | exact Takes.nil | (apply Takes.cons; exact (by (repeat (first | exact .here | apply Take.there)); first | done | fail)))); first | done | fail) rdZ rfl rfl ?_
      rintro _ _ ⟨rfl, rfl⟩
      refine jk_nil ?_
      refine jk_seq ?_
      refine jk_draw (.q 0 (.q 1 (.q 2 (.q 3 (.q 4 (.q 5 (.q 6 (.q 7 (.q 8 (.q 9 (.q 10 (.l 11 .b (.q 12 .nil))))))))))))) [] rfl (by kernel_rfl) Sel.nil ?_
      refine zd_move ?_
      refine zd_move ?_
      refine zd_move ?_
      refine zd_nilCheck ?_
      refine zd_fld0 ?_
      refine zd_load ?_
      refine zd_move ?_
      refine zd_nilCheck ?_
      refine zd_fld0 ?_
      refine zd_load ?_
      focus ((refine' dj_q rfl _ rfl rfl rfl rfl _; rotate_left; (focus (apply q_buildA2; exact rfl; exact rfl; exact rfl; exact rfl; exact rfl; exact rfl; exact rfl))))
      refine dj_l (a_callH rfl hy1 rfl rfl (Takes.skip (Takes.skip Takes.all)) (fun τ hτ => .inl (by simp [hτ])) rfl rfl (fun _ _ _ w hw => hw.sel Sel.nil) ?_)
      rintro _ H' ⟨σ1, rfl, ⟨rfl, hI1⟩ | ⟨rfl, hSt⟩⟩
      · refine dj_perm (H' := _ :: _ :: Own σ1) (List.perm_append_comm (l₂ := [_, _])) ?_
        refine zd_not ?_
        refine dj_end ?_
        refine jk_if_f rfl ?_
        refine jk_skip ?_
        refine jk_blk ?_
        exact jk_round (k + 1, p', q', σ1) ⟨by dsimp only; omega, by dsimp only; omega, by dsimp only; omega, g2, hI1⟩ (by dsimp only; omega) covZ Sel.refl
      · refine zd_not ?_
        refine dj_end ?_
        refine jk_if_t rfl ?_
        exact jk_ret_any (res0 rfl) (fun _ h => h) Sel.left ⟨σ1, rfl, .inr hSt⟩
    · rw [decide_eq_false h2]
      have hpe : p = (tog a).length := by omega
      have hqe : q = (tog b).length := by omega
      rw [hpe, hqe, mrg_end] at hS
      have hke : k = (mrg (tog a) false (tog b) false).length := by
        have := List.drop_eq_nil_iff.1 hS
        omega
      refine zq_move ?_
      refine zq_extract ?_
      refine zq_extract ?_
      refine zq_assign ?_
      refine zq_assign ?_
      refine jk_nil ?_
      refine jk_seq ?_
      refine jk_seq ?_
      refine jk_region ?_
      refine zq_move ?_
      refine zq_not ?_
      refine zq_move ?_
      refine zq_move ?_
      refine zq_not ?_
      refine zq_pick_t ?_
      refine jk_nil ?_
      refine jk_if_t rfl ?_
      refine jk_ret_any (res0 rfl) (fun _ h => h) (Sel.skip (Sel.skip Sel.refl)) ⟨σ', rfl, .inl ?_⟩
      rw [List.length_map, ← hke]
      exact hI
end Go.Proofs.Ytjbebmealbnmgaa
