/- A small separation logic over the kit's walk: partial heaps, frames as lists of slots, a continuation stack. Proved once, used for each function. No conditions. -/
import Derived.RangeFuncIn
import Derived.RangeFuncLeaves
import Derived.TacticsIn
import Derived.OrdersIn
import Derived.WalkKit
import Derived.KernelRfl
set_option linter.all false
namespace Go.Eng

/-- a partial heap -/
abbrev PH := Nat → Option Obj
def PH.le (ρ : PH) (w : World) : Prop := ∀ b o, ρ b = some o → w.heap[b]? = some o
def PH.disj (ρ σ : PH) : Prop := ∀ b, ρ b = none ∨ σ b = none
def sng (b : Nat) (o : Obj) : PH := fun b' => if b' = b then some o else none

theorem PH.disj.symm {ρ σ : PH} (h : ρ.disj σ) : σ.disj ρ := fun b => (h b).symm
theorem sng_self (b : Nat) (o : Obj) : sng b o b = some o := by simp [sng]
theorem sng_some {b b' : Nat} {o o' : Obj} (h : sng b o b' = some o') : b' = b ∧ o' = o := by
  unfold sng at h; split at h <;> simp_all

/-- where a call began: how much memory there was, the system, what had been printed -/
structure Bs where
  n : Nat
  os : Os
  out : Array (Nat × ByteArray)
  tape : Nat → Question → Nat
abbrev Bs.of (w : World) : Bs := ⟨w.heap.size, w.os, w.output, w.tape⟩
structure Sat (N : Bs) (R H : List PH) (w : World) : Prop where
  sz : N.n ≤ w.heap.size ∧ w.os = N.os ∧ w.output = N.out ∧ w.tape = N.tape
  r : ∀ ρ ∈ R, ρ.le w
  h : ∀ ρ ∈ H, ρ.le w
  hd : H.Pairwise PH.disj
  rd : ∀ ρ ∈ R, ∀ σ ∈ H, ρ.disj σ

/-- ρ stands in H; what is left -/
inductive Take (ρ : PH) : List PH → List PH → Prop
  | here {H : List PH} : Take ρ (ρ :: H) H
  | there {σ : PH} {H H' : List PH} : Take ρ H H' → Take ρ (σ :: H) (σ :: H')
inductive Takes : List PH → List PH → List PH → Prop
  | nil {H : List PH} : Takes H [] H
  | cons {ρ : PH} {H H1 H2 T : List PH} : Take ρ H H1 → Takes H1 T H2 → Takes H (ρ :: T) H2
inductive Sel : List PH → List PH → Prop
  | nil {H : List PH} : Sel H []
  | cons {ρ : PH} {H H1 H' : List PH} : Take ρ H H1 → Sel H1 H' → Sel H (ρ :: H')
inductive Mem (ρ : PH) : List PH → Prop
  | here {H : List PH} : Mem ρ (ρ :: H)
  | there {σ : PH} {H : List PH} : Mem ρ H → Mem ρ (σ :: H)
theorem Mem.mem {ρ : PH} {H : List PH} (h : Mem ρ H) : ρ ∈ H := by
  induction h with
  | here => simp
  | there _ ih => simp [ih]

theorem Take.mem {ρ : PH} {H H' : List PH} (h : Take ρ H H') : ρ ∈ H := by
  induction h with
  | here => simp
  | there _ ih => simp [ih]
theorem Take.sub {ρ : PH} {H H' : List PH} (h : Take ρ H H') : ∀ σ ∈ H', σ ∈ H := by
  induction h with
  | here => intro σ hs; simp [hs]
  | there _ ih => intro σ hs; simp at hs; rcases hs with hs | hs <;> simp [hs, ih]
theorem Take.of {ρ : PH} {H H' : List PH} (h : Take ρ H H') : ∀ σ ∈ H, σ = ρ ∨ σ ∈ H' := by
  induction h with
  | here => intro σ hs; simpa using hs
  | there _ ih =>
    intro σ hs; simp at hs
    rcases hs with hs | hs
    · right; simp [hs]
    · rcases ih σ hs with e | e
      · exact .inl e
      · right; simp [e]
theorem Take.pw {ρ : PH} {H H' : List PH} (h : Take ρ H H') (hp : H.Pairwise PH.disj) : H'.Pairwise PH.disj ∧ ∀ σ ∈ H', ρ.disj σ := by
  induction h with
  | here => rw [List.pairwise_cons] at hp; exact ⟨hp.2, hp.1⟩
  | @there σ H H' ht ih =>
    rw [List.pairwise_cons] at hp
    obtain ⟨h1, h2⟩ := ih hp.2
    refine ⟨List.pairwise_cons.2 ⟨fun τ hτ => hp.1 τ (ht.sub τ hτ), h1⟩, fun τ hτ => ?_⟩
    simp at hτ
    rcases hτ with rfl | hτ
    · exact (hp.1 ρ ht.mem).symm
    · exact h2 τ hτ

theorem Sat.take {N : Bs} {R H H' : List PH} {w : World} {ρ : PH} (h : Sat N R H w) (t : Take ρ H H') : Sat N R (ρ :: H') w where
  sz := h.sz
  r := h.r
  h := fun σ hs => by
    simp at hs
    rcases hs with rfl | hs
    · exact h.h _ t.mem
    · exact h.h _ (t.sub _ hs)
  hd := List.pairwise_cons.2 ⟨(t.pw h.hd).2, (t.pw h.hd).1⟩
  rd := fun ρ' hr σ hs => by
    simp at hs
    rcases hs with rfl | hs
    · exact h.rd _ hr _ t.mem
    · exact h.rd _ hr _ (t.sub _ hs)
theorem Sat.tail {N : Bs} {R H : List PH} {w : World} {ρ : PH} (h : Sat N R (ρ :: H) w) : Sat N R H w where
  sz := h.sz
  r := h.r
  h := fun σ hs => h.h σ (by simp [hs])
  hd := (List.pairwise_cons.1 h.hd).2
  rd := fun ρ' hr σ hs => h.rd ρ' hr σ (by simp [hs])
theorem Sat.sel {N : Bs} {R H H' : List PH} {w : World} (h : Sat N R H w) (s : Sel H H') : Sat N R H' w := by
  induction s with
  | nil => exact ⟨h.sz, h.r, by simp, by simp, by simp⟩
  | @cons ρ H H1 H' t s ih =>
    have h1 := h.take t
    have h2 := ih h1.tail
    have hsub : ∀ σ ∈ H', σ ∈ H1 := by
      clear ih h h1 h2 t
      induction s with
      | nil => simp
      | cons t s ih =>
        intro σ hs; simp at hs
        rcases hs with rfl | hs
        · exact t.mem
        · exact t.sub _ (ih _ hs)
    exact ⟨h.sz, h.r, fun σ hs => by
        simp at hs
        rcases hs with rfl | hs
        · exact h.h _ t.mem
        · exact h2.h _ hs,
      List.pairwise_cons.2 ⟨fun σ hs => (t.pw h.hd).2 σ (hsub σ hs), h2.hd⟩, fun ρ' hr σ hs => by
        simp at hs
        rcases hs with rfl | hs
        · exact h.rd _ hr _ t.mem
        · exact h2.rd _ hr _ hs⟩
theorem Sat.freeze {N : Bs} {R H : List PH} {w : World} {ρ : PH} (h : Sat N R (ρ :: H) w) : Sat N (ρ :: R) H w where
  sz := h.sz
  r := fun σ hs => by
    simp at hs
    rcases hs with rfl | hs
    · exact h.h _ (by simp)
    · exact h.r _ hs
  h := fun σ hs => h.h σ (by simp [hs])
  hd := (List.pairwise_cons.1 h.hd).2
  rd := fun ρ' hr σ hs => by
    simp at hr
    rcases hr with rfl | hr
    · exact (List.pairwise_cons.1 h.hd).1 σ hs
    · exact h.rd ρ' hr σ (by simp [hs])
theorem Sat.heap {N : Bs} {R H : List PH} {w w' : World} (h : Sat N R H w) (e : w'.heap = w.heap) (eo : w'.os = w.os) (ep : w'.output = w.output) (et : w'.tape = w.tape) : Sat N R H w' :=
  ⟨by rw [e, eo, ep, et]; exact h.sz, fun ρ hr b o hb => by rw [e]; exact h.r ρ hr b o hb, fun ρ hr b o hb => by rw [e]; exact h.h ρ hr b o hb, h.hd, h.rd⟩
theorem Sat.rsub {N : Bs} {R R' H : List PH} {w : World} (h : Sat N R H w) (s : ∀ ρ ∈ R', ρ ∈ R) : Sat N R' H w :=
  ⟨h.sz, fun ρ hr => h.r ρ (s ρ hr), h.h, h.hd, fun ρ hr => h.rd ρ (s ρ hr)⟩

/-- what a call leaves: H was handed over, H' comes back -/
structure Upd (H H' : List PH) (w w' : World) : Prop where
  size : w.heap.size ≤ w'.heap.size ∧ w'.os = w.os ∧ w'.output = w.output ∧ w'.tape = w.tape
  keep : ∀ b, b < w.heap.size → (∀ ρ ∈ H, ρ b = none) → w'.heap[b]? = w.heap[b]?
  own : ∀ ρ ∈ H', ρ.le w'
  hd : H'.Pairwise PH.disj
  new : ∀ ρ ∈ H', ∀ b, ρ b ≠ none → (∃ σ ∈ H, σ b ≠ none) ∨ w.heap.size ≤ b

theorem PH.le.lt {ρ : PH} {w : World} (h : ρ.le w) {b : Nat} (hb : ρ b ≠ none) : b < w.heap.size := by
  cases e : ρ b with
  | none => exact absurd e hb
  | some o =>
    have := h b o e
    exact (Array.getElem?_eq_some_iff.1 this).1

theorem Sat.upd {N : Bs} {R H1 H1' F : List PH} {w w' : World} (h : Sat N R (H1 ++ F) w) (u : Upd H1 H1' w w') : Sat N R (H1' ++ F) w' := by
  have hsplit := List.pairwise_append.1 h.hd
  have keepR : ∀ ρ ∈ R, ρ.le w' := fun ρ hr b o hb => by
    have h1 := h.r ρ hr b o hb
    rw [u.keep b ((h.r ρ hr).lt (by simp [hb])) (fun σ hs => ((h.rd ρ hr σ (by simp [hs])) b).resolve_left (by simp [hb]))]
    exact h1
  have keepF : ∀ ρ ∈ F, ρ.le w' := fun ρ hr b o hb => by
    have h1 := h.h ρ (by simp [hr]) b o hb
    rw [u.keep b ((h.h ρ (by simp [hr])).lt (by simp [hb])) (fun σ hs => ((hsplit.2.2 σ hs ρ hr) b).resolve_right (by simp [hb]))]
    exact h1
  refine ⟨⟨Nat.le_trans h.sz.1 u.size.1, u.size.2.1.trans h.sz.2.1, u.size.2.2.1.trans h.sz.2.2.1, u.size.2.2.2.trans h.sz.2.2.2⟩, keepR, fun ρ hr => ?_, List.pairwise_append.2 ⟨u.hd, hsplit.2.1, fun ρ hr σ hs b => ?_⟩, fun ρ hr σ hs b => ?_⟩
  · rcases List.mem_append.1 hr with hr | hr
    · exact u.own ρ hr
    · exact keepF ρ hr
  · by_cases e : ρ b = none
    · exact .inl e
    · right
      rcases u.new ρ hr b e with ⟨τ, hτ, hb⟩ | hb
      · exact ((hsplit.2.2 τ hτ σ hs) b).resolve_left hb
      · by_cases e2 : σ b = none
        · exact e2
        · have := (h.h σ (by simp [hs])).lt e2
          omega
  · rcases List.mem_append.1 hs with hs | hs
    · by_cases e : σ b = none
      · exact .inr e
      · left
        rcases u.new σ hs b e with ⟨τ, hτ, hb⟩ | hb
        · exact ((h.rd ρ hr τ (by simp [hτ])) b).resolve_right hb
        · by_cases e2 : ρ b = none
          · exact e2
          · have := (h.r ρ hr).lt e2
            omega
    · exact h.rd ρ hr σ (by simp [hs]) b

/-- frames -/
abbrev Env := List (Nat × Value)
def look : Env → Nat → Option Value
  | [], _ => none
  | (k, v) :: L, t => match Nat.beq k t with
    | true => some v
    | false => look L t
def evalE (L : Env) : Operand → Option Value
  | .tmp t => look L t
  | .const v => some v
  | .global g => some (.pointer (some ⟨g, 0, none⟩))
  | .func f => some (.func (.func f) #[] #[])
def evalEs (L : Env) : List Operand → Option (List Value)
  | [] => some []
  | x :: xs => match evalE L x, evalEs L xs with
    | some v, some vs => some (v :: vs)
    | _, _ => none
structure Frm (M : Nat) (L : Env) (a : Act) : Prop where
  size : a.tmps.size = M
  get : ∀ t v, look L t = some v → a.tmps.getD t undef = v
theorem look_cons (k t : Nat) (v : Value) (L : Env) : look ((k, v) :: L) t = if k = t then some v else look L t := by
  by_cases e : k = t
  · subst e
    simp only [look, if_true]
    rw [show Nat.beq k k = true from Nat.beq_refl k]
  · rw [if_neg e]
    simp only [look]
    cases hb : Nat.beq k t with
    | true => exact absurd (Nat.eq_of_beq_eq_true hb) e
    | false => rfl
/-- an operand reads in the frame as in the list -/
def OnE (L : Env) (a : Act) (x : Operand) : Prop := ∀ v, evalE L x = some v → a.eval x = v
theorem Frm.on {M : Nat} {L : Env} {a : Act} (h : Frm M L a) (x : Operand) : OnE L a x := by
  intro v hv
  cases x with
  | tmp t => exact h.get t v hv
  | const c => simp [evalE] at hv; simp [Act.eval, hv]
  | global g => simp [evalE] at hv; simp [Act.eval, hv]
  | func f => simp [evalE] at hv; simp [Act.eval, hv]
theorem Frm.put {M : Nat} {L : Env} {a : Act} (h : Frm M L a) {d : Nat} (hd : d < M) (v : Value) : Frm M ((d, v) :: L) (a.put (some d) v) where
  size := by simp [Act.put, h.size]
  get := fun t u hu => by
    rw [look_cons] at hu
    simp only [Act.put, Array.getD_eq_getD_getElem?, Array.getElem?_setIfInBounds]
    by_cases e : d = t
    · subst e
      simp only [if_true, Option.some.injEq] at hu
      simp [h.size, hd, hu]
    · rw [if_neg e] at hu
      have := h.get t u hu
      simpa [e, Array.getD_eq_getD_getElem?] using this
theorem Frm.put_none {M : Nat} {L : Env} {a : Act} (h : Frm M L a) (v : Value) : Frm M L (a.put none v) := h
def Cover (L : Env) : Env → Prop
  | [] => True
  | (k, v) :: r => look L k = some v ∧ Cover L r
theorem Cover.look {L L' : Env} (h : Cover L L') : ∀ t v, look L' t = some v → look L t = some v := by
  induction L' with
  | nil => intro t v hv; simp [Eng.look] at hv
  | cons kv r ih =>
    obtain ⟨k, u⟩ := kv
    intro t v hv
    rw [look_cons] at hv
    by_cases e : k = t
    · rw [if_pos e] at hv; subst e; rw [← hv]; exact h.1
    · rw [if_neg e] at hv; exact ih h.2 t v hv
theorem Frm.cover {M : Nat} {L L' : Env} {a : Act} (h : Frm M L a) (c : Cover L L') : Frm M L' a := ⟨h.size, fun t v hv => h.get t v (c.look t v hv)⟩
/-- the slots named, with what they hold -/
inductive Pick (L : Env) : List Nat → Env → Prop
  | nil : Pick L [] []
  | cons {k : Nat} {v : Value} {ks : List Nat} {L' : Env} : look L k = some v → Pick L ks L' → Pick L (k :: ks) ((k, v) :: L')
theorem Pick.cover {L L' : Env} {ks : List Nat} (h : Pick L ks L') : Cover L L' := by
  induction h with
  | nil => trivial
  | cons hl _ ih => exact ⟨hl, ih⟩
theorem Cover.append {L L1 L2 : Env} (h1 : Cover L L1) (h2 : Cover L L2) : Cover L (L1 ++ L2) := by
  induction L1 with
  | nil => exact h2
  | cons kv r ih => exact ⟨h1.1, ih h1.2⟩

/-- the fence that fences nothing, in a round or out of one -/
abbrev wideR (r : Option Nat) : Fence := { Fence.wide with round := r }

inductive It where
  | code (c : Code)
  | ops (all : Array Oper) (l : List Oper)
  | blk (id : Nat)
  | till (I : Act → World → Prop)
  | sem (s : Sem Unit)

structure Cx where
  r : Option Nat
  P : Program
  Q : Exit → Act → World → Prop
  N : Bs
  M : Nat

def wpK (C : Cx) : List It → Exit → Act → World → Prop
  | [], e, a, w => C.Q e a w
  | .code c :: k, .normal, a, w => c.wpIn (wideR C.r) 0 C.P (wpK C k) a w
  | .ops all l :: k, .normal, a, w => wpListIn (wideR C.r) 0 C.P all (wpK C k) l a w
  | .till I :: _, .normal, a, w => I a w
  | .sem s :: k, .normal, a, w => ∃ w', s.run C.P w = .ok () w' ∧ wpK C k .normal a w'
  | .blk _ :: k, .normal, a, w => wpK C k .normal a w
  | .blk id :: k, .exit id', a, w => if id' = id then wpK C k .normal a w else wpK C k (.exit id') a w
  | _ :: k, e, a, w => wpK C k e a w

structure JK (C : Cx) (D : List Deferred) (R H : List PH) (L : Env) (K : List It) : Prop where
  run : ∀ a w, Frm C.M L a → a.defers = D → Sat C.N R H w → wpK C K .normal a w

variable {C : Cx} {D : List Deferred} {R H : List PH} {L : Env} {K : List It}

theorem wpK_ret : ∀ (K : List It) (a : Act) (w : World), C.Q .ret a w → wpK C K .ret a w
  | [], _, _, h => h
  | .code _ :: k, a, w, h => wpK_ret k a w h
  | .ops _ _ :: k, a, w, h => wpK_ret k a w h
  | .till _ :: k, a, w, h => wpK_ret k a w h
  | .sem _ :: k, a, w, h => wpK_ret k a w h
  | .blk _ :: k, a, w, h => wpK_ret k a w h
def popK (id : Nat) : List It → Option (List It)
  | [] => none
  | .blk i :: k => match Nat.beq i id with
    | true => some k
    | false => popK id k
  | _ :: k => popK id k
theorem wpK_exit (id : Nat) : ∀ (K K' : List It) (a : Act) (w : World), popK id K = some K' → wpK C K' .normal a w → wpK C K (.exit id) a w
  | [], _, _, _, h, _ => by simp [popK] at h
  | .code _ :: k, K', a, w, h, h' => wpK_exit id k K' a w h h'
  | .ops _ _ :: k, K', a, w, h, h' => wpK_exit id k K' a w h h'
  | .till _ :: k, K', a, w, h, h' => wpK_exit id k K' a w h h'
  | .sem _ :: k, K', a, w, h, h' => wpK_exit id k K' a w h h'
  | .blk i :: k, K', a, w, h, h' => by
    simp only [popK] at h
    simp only [wpK]
    cases hb : Nat.beq i id with
    | true =>
      rw [hb] at h; simp at h; subst h
      rw [if_pos (Nat.eq_of_beq_eq_true hb).symm]; exact h'
    | false =>
      rw [hb] at h
      rw [if_neg (fun e => by subst e; simp [Nat.beq_refl] at hb)]
      exact wpK_exit id k K' a w h h'
/-- an exit that leaves the frame (a round's body) -/
theorem wpK_out (id : Nat) : ∀ (K : List It) (a : Act) (w : World), popK id K = none → C.Q (.exit id) a w → wpK C K (.exit id) a w
  | [], _, _, _, h' => h'
  | .code _ :: k, a, w, h, h' => wpK_out id k a w h h'
  | .ops _ _ :: k, a, w, h, h' => wpK_out id k a w h h'
  | .till _ :: k, a, w, h, h' => wpK_out id k a w h h'
  | .sem _ :: k, a, w, h, h' => wpK_out id k a w h h'
  | .blk i :: k, a, w, h, h' => by
    simp only [popK] at h
    simp only [wpK]
    cases hb : Nat.beq i id with
    | true => rw [hb] at h; simp at h
    | false =>
      rw [hb] at h
      rw [if_neg (fun e => by subst e; simp [Nat.beq_refl] at hb)]
      exact wpK_out id k a w h h'

theorem jk_seq {x y : Code} (h : JK C D R H L (.code x :: .code y :: K)) : JK C D R H L (.code (.seq x y) :: K) :=
  ⟨fun a w hf hd hs => wpIn_seq (wpIn_mono (h.run a w hf hd hs) (by intro e a w hq; cases e <;> exact hq))⟩
theorem jk_block {id : Nat} {c : Code} (h : JK C D R H L (.code c :: .blk id :: K)) : JK C D R H L (.code (.block id c) :: K) :=
  ⟨fun a w hf hd hs => wpIn_block (wpIn_mono (h.run a w hf hd hs) (by intro e a w hq; cases e <;> exact hq))⟩
theorem jk_blk {id : Nat} (h : JK C D R H L K) : JK C D R H L (.blk id :: K) := ⟨fun a w hf hd hs => h.run a w hf hd hs⟩
theorem jk_skip (h : JK C D R H L K) : JK C D R H L (.code .skip :: K) := ⟨fun a w hf hd hs => wpIn_skip (h.run a w hf hd hs)⟩
theorem jk_exit {id : Nat} {K' : List It} (hp : popK id K = some K') (h : JK C D R H L K') : JK C D R H L (.code (.exit id) :: K) :=
  ⟨fun a w hf hd hs => wpIn_exit (wpK_exit id K K' a w hp (h.run a w hf hd hs))⟩
theorem jk_region {id : Nat} {l : List Oper} (h : JK C D R H L (.ops l.toArray l :: K)) : JK C D R H L (.code (.region id l.toArray false) :: K) :=
  ⟨fun a w hf hd hs => wpIn_region_lit (h.run a w hf hd hs)⟩
theorem jk_nil {all : Array Oper} (h : JK C D R H L K) : JK C D R H L (.ops all [] :: K) := ⟨fun a w hf hd hs => wpListIn_nil (h.run a w hf hd hs)⟩
theorem jk_if_t {c : Operand} {x y : Code} (hc : evalE L c = some (.bool true)) (h : JK C D R H L (.code x :: K)) : JK C D R H L (.code (.cond c x y) :: K) :=
  ⟨fun a w hf hd hs => wpIn_cond_true (hf.on c _ hc) (h.run a w hf hd hs)⟩
theorem jk_if_f {c : Operand} {x y : Code} (hc : evalE L c = some (.bool false)) (h : JK C D R H L (.code y :: K)) : JK C D R H L (.code (.cond c x y) :: K) :=
  ⟨fun a w hf hd hs => wpIn_cond_false (hf.on c _ hc) (h.run a w hf hd hs)⟩
theorem jk_if {c : Operand} {x y : Code} {b : Bool} (hc : evalE L c = some (.bool b)) (h1 : b = true → JK C D R H L (.code x :: K)) (h2 : b = false → JK C D R H L (.code y :: K)) :
    JK C D R H L (.code (.cond c x y) :: K) :=
  ⟨fun a w hf hd hs => wpIn_cond_split (hf.on c _ hc) (fun e => (h1 e).run a w hf hd hs) (fun e => (h2 e).run a w hf hd hs)⟩
/-- fewer slots, fewer chunks -/
theorem jk_weak {L' : Env} {H' : List PH} (hL : Cover L L') (hH : Sel H H') (h : JK C D R H' L' K) : JK C D R H L K :=
  ⟨fun a w hf hd hs => h.run a w (hf.cover hL) hd (hs.sel hH)⟩
theorem jk_keep {L' : Env} (ks : List Nat) (hL : Pick L ks L') (h : JK C D R H L' K) : JK C D R H L K :=
  ⟨fun a w hf hd hs => h.run a w (hf.cover hL.cover) hd hs⟩
theorem jk_drop {H' : List PH} (hH : Sel H H') (h : JK C D R H' L K) : JK C D R H L K :=
  ⟨fun a w hf hd hs => h.run a w hf hd (hs.sel hH)⟩
theorem jk_freeze {ρ : PH} {H' : List PH} (t : Take ρ H H') (h : JK C D (ρ :: R) H' L K) : JK C D R H L K :=
  ⟨fun a w hf hd hs => h.run a w hf hd (hs.take t).freeze⟩

theorem least_of (p : Nat → Prop) : ∀ m, p m → ∃ k, p k ∧ ∀ j, p j → k ≤ j := by
  intro m
  induction m using Nat.strongRecOn with
  | _ m ih =>
    intro hm
    by_cases h : ∃ j, j < m ∧ p j
    · obtain ⟨j, hj, hp⟩ := h; exact ih j hj hp
    · refine ⟨m, hm, fun j hp => ?_⟩
      rcases Nat.lt_or_ge j m with hlt | hge
      · exact absurd ⟨j, hlt, hp⟩ h
      · exact hge
theorem wpIn_loop_nat {F : Fence} {n : Nat} {P : Program} {Q : Exit → Act → World → Prop} {c : Code} (I : Nat → Act → World → Prop) {m : Nat} {a : Act} {w : World} (h0 : I m a w)
    (round : ∀ m a w, I m a w → c.wpIn F n P (Exit.then (fun a' w' => ∃ m', m' < m ∧ I m' a' w') Q) a w) : (Code.loop c).wpIn F n P Q a w := by
  have hl : ∀ a w, (∃ m, I m a w) → ∃ k, I k a w ∧ ∀ j, I j a w → k ≤ j := fun a w ⟨m, hm⟩ => least_of (fun m => I m a w) m hm
  let μ : Act → World → Nat := fun a w => open Classical in if h : ∃ m, I m a w then Classical.choose (hl a w h) else 0
  refine wpIn_loop (fun a w => ∃ m, I m a w) μ ⟨m, h0⟩ (fun a w hI => ?_)
  have hμ : μ a w = Classical.choose (hl a w hI) := by simp only [μ]; rw [dif_pos hI]
  have hs := Classical.choose_spec (hl a w hI)
  rw [← hμ] at hs
  refine wpIn_mono (round _ a w hs.1) (fun e a' w' hq => ?_)
  cases e with
  | normal =>
    obtain ⟨m', hlt, hI'⟩ := hq
    have hI2 : ∃ m, I m a' w' := ⟨m', hI'⟩
    have hμ' : μ a' w' = Classical.choose (hl a' w' hI2) := by simp only [μ]; rw [dif_pos hI2]
    have hs' := (Classical.choose_spec (hl a' w' hI2)).2 m' hI'
    rw [← hμ'] at hs'
    exact ⟨hI2, by omega⟩
  | _ => exact hq

def RoundI {X : Type} (C : Cx) (D : List Deferred) (R : List PH) (Inv : X → Prop) (Lx : X → Env) (Hx : X → List PH) (μ : X → Nat) (m : Nat) (a : Act) (w : World) : Prop :=
  ∃ x, Inv x ∧ μ x < m ∧ Frm C.M (Lx x) a ∧ a.defers = D ∧ Sat C.N R (Hx x) w
theorem jk_loop {X : Type} {c : Code} {Lk : Env} (keep : List Nat) (x0 : X) (Inv : X → Prop) (Lx : X → Env) (Hx : X → List PH) (μ : X → Nat)
    (hk : Pick L keep Lk) (h0 : Inv x0) (hL : Cover L (Lx x0)) (hH : Sel H (Hx x0))
    (round : ∀ x, Inv x → JK C D R (Hx x) (Lx x ++ Lk) (.code c :: .till (RoundI C D R Inv (fun y => Lx y ++ Lk) Hx μ (μ x)) :: K)) :
    JK C D R H L (.code (.loop c) :: K) := by
  refine ⟨fun a w hf hd hs => ?_⟩
  refine wpIn_loop_nat (fun m a w => ∃ x, Inv x ∧ μ x = m ∧ Frm C.M (Lx x ++ Lk) a ∧ a.defers = D ∧ Sat C.N R (Hx x) w) (m := μ x0)
    ⟨x0, h0, rfl, hf.cover (hL.append hk.cover), hd, hs.sel hH⟩ ?_
  rintro m a w ⟨x, hI, rfl, hf, hd, hs⟩
  refine wpIn_mono ((round x hI).run a w hf hd hs) (fun e a' w' hq => ?_)
  cases e with
  | normal =>
    obtain ⟨y, h1, h2, h3, h4, h5⟩ := hq
    exact ⟨μ y, h2, y, h1, rfl, h3, h4, h5⟩
  | _ => exact hq
theorem jk_round {X : Type} {Inv : X → Prop} {Lx : X → Env} {Hx : X → List PH} {μ : X → Nat} {m : Nat} (y : X) (h1 : Inv y) (h2 : μ y < m) (h3 : Cover L (Lx y)) (h4 : Sel H (Hx y)) :
    JK C D R H L (.till (RoundI C D R Inv Lx Hx μ m) :: K) :=
  ⟨fun _ _ hf hd hs => ⟨y, h1, h2, hf.cover h3, hd, hs.sel h4⟩⟩
/-- what holds where ways meet again: the rest is proved once -/
def MidI {X : Type} (C : Cx) (D : List Deferred) (R : List PH) (Inv : X → Prop) (Lx : X → Env) (Hx : X → List PH) (a : Act) (w : World) : Prop :=
  ∃ x, Inv x ∧ Frm C.M (Lx x) a ∧ a.defers = D ∧ Sat C.N R (Hx x) w
theorem jk_mid {X : Type} {c : Code} {Lk : Env} (keep : List Nat) (Inv : X → Prop) (Lx : X → Env) (Hx : X → List PH)
    (_hk : Pick L keep Lk)
    (first : JK C D R H L (.code c :: .till (MidI C D R Inv (fun y => Lx y ++ Lk) Hx) :: K))
    (rest : ∀ x, Inv x → JK C D R (Hx x) (Lx x ++ Lk) K) : JK C D R H L (.code c :: K) := by
  refine ⟨fun a w hf hd hs => wpIn_mono (first.run a w hf hd hs) (fun e a' w' hq => ?_)⟩
  cases e with
  | normal =>
    obtain ⟨y, h1, h3, h4, h5⟩ := hq
    exact (rest y h1).run a' w' h3 h4 h5
  | _ => exact hq
theorem jk_meet {X : Type} {Inv : X → Prop} {Lx : X → Env} {Hx : X → List PH} (y : X) (h1 : Inv y) (h3 : Cover L (Lx y)) (h4 : Sel H (Hx y)) :
    JK C D R H L (.till (MidI C D R Inv Lx Hx) :: K) :=
  ⟨fun _ _ hf hd hs => ⟨y, h1, hf.cover h3, hd, hs.sel h4⟩⟩

/-! ### operations -/

/-- is the operation carried out, as far as the list tells? -/
def wantE (all : Array Oper) (L : Env) (o : Oper) : Option Bool :=
  match o.guard with
  | none => some true
  | some (j, want) =>
    match (all[j]?).bind (·.dst) with
    | none => none
    | some d =>
      match look L d with
      | some (.bool b) => some (b == want)
      | some (.tuple _) => some false
      | _ => none
/-- the slots that an operation reads, its guard's among them -/
def readsOf (all : Array Oper) (o : Oper) : List Nat :=
  (o.op.operands.toList.filterMap fun | .tmp t => some t | _ => none) ++
  (match o.guard with
   | some (g, _) => ((all[g]?).bind (·.dst)).toList
   | none => [])
theorem want_of {all : Array Oper} {L : Env} {o : Oper} {a : Act} {b : Bool} (h : wantE all L o = some b)
    (hf : ∀ t ∈ readsOf all o, ∀ v, look L t = some v → a.tmps.getD t undef = v) : Region.wanted o (yielded all a.tmps) = b := by
  unfold wantE at h
  unfold Region.wanted
  cases hg : o.guard with
  | none => rw [hg] at h; simpa using h
  | some jw =>
    obtain ⟨j, want⟩ := jw
    rw [hg] at h
    simp only at h ⊢
    unfold yielded
    cases hd : (all[j]?).bind (·.dst) with
    | none => rw [hd] at h; simp at h
    | some d =>
      rw [hd] at h
      simp only at h
      have hmem : d ∈ readsOf all o := by
        unfold readsOf
        rw [hg]
        simp [hd]
      have hv := hf d hmem
      simp only [Option.bind_some]
      cases hl : look L d with
      | none => rw [hl] at h; simp at h
      | some v =>
        have hv := hv v hl
        rw [hl] at h
        have hget : a.tmps.getD d undef = (a.tmps[d]?).getD undef := by simp [Array.getD_eq_getD_getElem?]
        rw [hget] at hv
        cases hx : a.tmps[d]? with
        | none =>
          rw [hx] at hv; simp at hv
          subst hv
          simp [undef] at h
          simp [h]
        | some u =>
          rw [hx] at hv; simp at hv; subst hv
          cases u with
          | bool c => simp at h ⊢; exact h
          | tuple vs => simp at h ⊢; simp [h]
          | _ => simp at h

/-- what an operation gives without touching memory -/
structure Quiet (C : Cx) (R H : List PH) (L : Env) (o : Oper) (v : Value) : Prop where
  nd : ∀ c, o.op ≠ .defer c
  run : ∀ a w, (∀ x ∈ o.op.operands, OnE L a x) → Sat C.N R H w → (execOp a.eval o).run C.P w = .ok (.value v) w
/-- what an operation may do -/
structure Loud (C : Cx) (R H : List PH) (L : Env) (o : Oper) (post : Value → List PH → Prop) : Prop where
  run : ∀ a w, (∀ x ∈ o.op.operands, OnE L a x) → Sat C.N R H w → ∀ (next : Act → World → Prop) (Q : Exit → Act → World → Prop),
    (∀ v H' w', post v H' → Sat C.N R H' w' → next (a.put o.dst v) w') → o.wpIn (wideR C.r) 0 C.P a w next Q

theorem wpIn_quiet {o : Oper} {v : Value} {a : Act} {w : World} (hq : Quiet C R H L o v) (hx : ∀ x ∈ o.op.operands, OnE L a x) (hs : Sat C.N R H w)
    {next : Act → World → Prop} {Q : Exit → Act → World → Prop} (h : next (a.put o.dst v) w) : o.wpIn (wideR C.r) 0 C.P a w next Q := by
  refine ⟨fun _ _ => trivial, ?_⟩
  rw [Oper.semAt_eq _ _ _ hq.nd, hq.run a w hx hs]
  exact h
theorem Quiet.loud {o : Oper} {v : Value} (hq : Quiet C R H L o v) : Loud C R H L o (fun u H' => u = v ∧ H' = H) :=
  ⟨fun _ _ hx hs _ _ h => wpIn_quiet hq hx hs (h v H _ ⟨rfl, rfl⟩ hs)⟩

theorem jk_op {all : Array Oper} {o : Oper} {rest : List Oper} {post : Value → List PH → Prop} {d : Nat} (hl : Loud C R H L o post) (hg : wantE all L o = some true) (hd : o.dst = some d) (hM : Nat.blt d C.M = true)
    (h : ∀ v H', post v H' → JK C D R H' ((d, v) :: L) (.ops all rest :: K)) : JK C D R H L (.ops all (o :: rest) :: K) := by
  refine ⟨fun a w hf hdf hs => ?_⟩
  show wpListIn _ _ _ _ _ (o :: rest) a w
  unfold wpListIn
  rw [if_pos (want_of hg (fun t _ v => hf.get t v))]
  refine hl.run a w (fun x _ => hf.on x) hs _ _ (fun v H' w' hp hs' => ?_)
  rw [hd]
  exact (h v H' hp).run _ w' (hf.put (Nat.le_of_ble_eq_true hM) v) hdf hs'
theorem jk_op_none {all : Array Oper} {o : Oper} {rest : List Oper} {post : Value → List PH → Prop} (hl : Loud C R H L o post) (hg : wantE all L o = some true) (hd : o.dst = none)
    (h : ∀ v H', post v H' → JK C D R H' L (.ops all rest :: K)) : JK C D R H L (.ops all (o :: rest) :: K) := by
  refine ⟨fun a w hf hdf hs => ?_⟩
  show wpListIn _ _ _ _ _ (o :: rest) a w
  unfold wpListIn
  rw [if_pos (want_of hg (fun t _ v => hf.get t v))]
  refine hl.run a w (fun x _ => hf.on x) hs _ _ (fun v H' w' hp hs' => ?_)
  rw [hd]
  exact (h v H' hp).run _ w' hf hdf hs'
theorem jk_q {all : Array Oper} {o : Oper} {rest : List Oper} {v : Value} {d : Nat} (hq : Quiet C R H L o v) (hg : wantE all L o = some true) (hd : o.dst = some d) (hM : Nat.blt d C.M = true)
    (h : JK C D R H ((d, v) :: L) (.ops all rest :: K)) : JK C D R H L (.ops all (o :: rest) :: K) :=
  jk_op hq.loud hg hd hM (fun u H' ⟨e1, e2⟩ => by subst e1; subst e2; exact h)
theorem jk_pass {all : Array Oper} {o : Oper} {rest : List Oper} {d : Nat} (hg : wantE all L o = some false) (hd : o.dst = some d) (hM : Nat.blt d C.M = true)
    (h : JK C D R H ((d, undef) :: L) (.ops all rest :: K)) : JK C D R H L (.ops all (o :: rest) :: K) := by
  refine ⟨fun a w hf hdf hs => ?_⟩
  show wpListIn _ _ _ _ _ (o :: rest) a w
  unfold wpListIn
  rw [if_neg (by rw [want_of hg (fun t _ v => hf.get t v)]; simp)]
  refine ⟨fun _ _ => trivial, ?_⟩
  rw [hd]
  exact h.run _ w (hf.put (Nat.le_of_ble_eq_true hM) undef) hdf hs

/-! ### calls -/

/-- the call of a function's value -/
def CallsV (P : Program) (fv : Value) (args : List Value) (w : World) (R : Value → World → Prop) : Prop :=
  match ((do let d ← Deferred.ofValue fv args.toArray; invoke d.target d.args : Sem Next).run P w) with
  | .ok (.enter f as) w1 => CallsIn Fence.wide 0 P f as w1 (fun e w' => ∃ v, e = .returned v ∧ R v w')
  | .ok (.round l f tmps asg body) w1 => RoundIn Fence.wide 0 P l f tmps asg body w1 (fun e w' => ∃ v, e = .returned v ∧ R v w')
  | _ => False
theorem CallsV.mono {P : Program} {fv : Value} {args : List Value} {w : World} {R R' : Value → World → Prop} (h : CallsV P fv args w R) (hr : ∀ v w', R v w' → R' v w') : CallsV P fv args w R' := by
  unfold CallsV at *
  split
  · rename_i e
    rw [e] at h
    exact CallsIn.mono h (fun e w' ⟨v, h1, h2⟩ => ⟨v, h1, hr _ _ h2⟩)
  · rename_i e
    rw [e] at h
    exact RoundIn.mono h (fun e w' ⟨v, h1, h2⟩ => ⟨v, h1, hr _ _ h2⟩)
  · rename_i h1 h2
    revert h
    split
    · rename_i e; intro _; exact h1 _ _ _ e
    · rename_i e; intro _; exact h2 _ _ _ _ _ _ e
    · exact id
/-- a function's contract: what it may read (R), what is handed over (H); what comes back -/
def Spec (P : Program) (fv : Value) (args : List Value) (R H : List PH) (post : Value → List PH → Prop) : Prop :=
  ∀ N w, Sat N R H w → CallsV P fv args w (fun v w' => ∃ H', post v H' ∧ Upd H H' w w')
theorem Spec.mono {P : Program} {fv : Value} {args : List Value} {R H : List PH} {post post' : Value → List PH → Prop} (h : Spec P fv args R H post) (hp : ∀ v H', post v H' → post' v H') :
    Spec P fv args R H post' := fun N w hs => (h N w hs).mono (fun _ _ ⟨H', h1, h2⟩ => ⟨H', hp _ _ h1, h2⟩)
theorem Spec.rsub {P : Program} {fv : Value} {args : List Value} {R R' H : List PH} {post : Value → List PH → Prop} (h : Spec P fv args R H post) (hp : ∀ ρ ∈ R, ρ ∈ R') :
    Spec P fv args R' H post := fun N w hs => h N w (hs.rsub hp)

theorem Takes.sat {N : Bs} {R H H1 H2 : List PH} {w : World} (t : Takes H H1 H2) (h : Sat N R H w) : Sat N R (H1 ++ H2) w := by
  induction t with
  | nil => exact h
  | @cons ρ H H1 H2 T t ts ih =>
    have h1 := h.take t
    have h2 := ih h1.tail
    have hsub : ∀ σ ∈ T ++ H2, σ ∈ H1 := by
      clear ih h h1 h2 t
      induction ts with
      | nil => simp
      | cons t ts ih =>
        intro σ hs; simp at hs
        rcases hs with rfl | hs
        · exact t.mem
        · exact t.sub _ (ih σ (by simpa using hs))
    exact ⟨h.sz, h.r, fun σ hs => by
        simp at hs
        rcases hs with rfl | hs
        · exact h.h _ t.mem
        · exact h2.h _ (by simpa using hs),
      List.pairwise_cons.2 ⟨fun σ hs => (t.pw h.hd).2 σ (hsub σ hs), h2.hd⟩, fun ρ' hr σ hs => by
        simp at hs
        rcases hs with rfl | hs
        · exact h.rd _ hr _ t.mem
        · exact h2.rd _ hr _ (by simpa using hs)⟩

/-- chunks that may be read: those that are never written, those that stay here -/
def RdOK (R1 R H : List PH) : Prop := ∀ ρ ∈ R1, ρ ∈ R ∨ ρ ∈ H
theorem RdOK.nil {R H : List PH} : RdOK [] R H := by intro ρ h; simp at h
theorem RdOK.consR {ρ : PH} {R1 R H : List PH} (m : Mem ρ R) (h : RdOK R1 R H) : RdOK (ρ :: R1) R H := by
  intro σ hs; simp at hs
  rcases hs with rfl | hs
  · exact .inl m.mem
  · exact h σ hs
theorem RdOK.consH {ρ : PH} {R1 R H : List PH} (m : Mem ρ H) (h : RdOK R1 R H) : RdOK (ρ :: R1) R H := by
  intro σ hs; simp at hs
  rcases hs with rfl | hs
  · exact .inr m.mem
  · exact h σ hs
theorem Sat.sub {N : Bs} {R H1 H2 R1 : List PH} {w : World} (h : Sat N R (H1 ++ H2) w) (hr : RdOK R1 R H2) : Sat N R1 H1 w where
  sz := h.sz
  r := fun ρ hρ => (hr ρ hρ).elim (h.r ρ) (fun hm => h.h ρ (by simp [hm]))
  h := fun ρ hρ => h.h ρ (by simp [hρ])
  hd := (List.pairwise_append.1 h.hd).1
  rd := fun ρ hρ σ hσ => (hr ρ hρ).elim (fun hm => h.rd ρ hm σ (by simp [hσ])) (fun hm => ((List.pairwise_append.1 h.hd).2.2 σ hσ ρ hm).symm)

theorem evalEs_map {L : Env} {a : Act} : ∀ {xs : List Operand} {vs : List Value}, evalEs L xs = some vs → (∀ x ∈ xs, OnE L a x) → xs.map a.eval = vs := by
  intro xs
  induction xs with
  | nil => intro vs h _; simp [evalEs] at h; simp [h]
  | cons x xs ih =>
    intro vs h hx
    simp only [evalEs] at h
    cases h1 : evalE L x with
    | none => simp [h1] at h
    | some v =>
      cases h2 : evalEs L xs with
      | none => simp [h1, h2] at h
      | some us =>
        simp [h1, h2] at h
        subst h
        rw [List.map_cons, hx x (by simp) v h1, ih h2 (fun y hy => hx y (by simp [hy]))]

theorem loud_call {x : Operand} {xs : Array Operand} {ts : Array TypeId} {dst : Option Tmp} {ty : TypeId} {pos : String} {aft : Array Edge} {g : Option (Nat × Bool)} {fv : Value} {vs : List Value} {R1 H1 H2 : List PH} {post : Value → List PH → Prop}
    (hs : Spec C.P fv vs R1 H1 post) (hf : evalE L x = some fv) (ha : evalEs L xs.toList = some vs) (ht : Takes H H1 H2) (hr : RdOK R1 R H2) :
    Loud C R H L ⟨dst, .call ⟨.value x, xs, ts⟩, ty, pos, aft, g⟩ (fun v H' => ∃ H1', H' = H1' ++ H2 ∧ post v H1') := by
  refine ⟨fun a w hx hsat next Q hnext => ?_⟩
  have hsat2 := ht.sat hsat
  have hc := hs C.N w (hsat2.sub hr)
  have hxv : a.eval x = fv := hx x (by simp [Op.operands, Call.operands]) fv hf
  have hargs : xs.map a.eval = vs.toArray := by
    have := evalEs_map (a := a) ha (fun y hy => hx y (by simp [Op.operands, Call.operands]; right; simpa using hy))
    have h2 : (xs.map a.eval).toList = vs := by rw [Array.toList_map]; exact this
    rw [← h2]
  have hex : execOp a.eval ⟨dst, .call ⟨.value x, xs, ts⟩, ty, pos, aft, g⟩ = (do let d ← Deferred.ofValue fv vs.toArray; invoke d.target d.args : Sem Next) := by
    simp only [execOp, resolve, hargs, hxv]
  refine ⟨fun _ _ => trivial, ?_⟩
  rw [Oper.semAt_eq _ _ _ (by intro c; simp)]
  rw [hex]
  unfold CallsV at hc
  generalize ((do let d ← Deferred.ofValue fv vs.toArray; invoke d.target d.args : Sem Next).run C.P w) = res at hc
  split at hc
  · rename_i f as w1
    refine ⟨fun h => by simp [Fence.wide] at h, ?_⟩
    refine CallsIn.mono (show CallsIn (wideR C.r) 0 C.P f as w1 _ from hc) ?_
    rintro e w' ⟨v, rfl, H', hp, hu⟩
    exact hnext v (H' ++ H2) w' ⟨H', rfl, hp⟩ (hsat2.upd hu)
  · rename_i l f tmps asg body w1
    refine ⟨fun h => by simp [Fence.wide] at h, ?_⟩
    refine RoundIn.mono (show RoundIn (wideR C.r) 0 C.P l f tmps asg body w1 _ from hc) ?_
    rintro e w' ⟨v, rfl, H', hp, hu⟩
    exact hnext v (H' ++ H2) w' ⟨H', rfl, hp⟩ (hsat2.upd hu)
  · exact hc.elim

/-! ### functions -/

/-- what a body owes: R: what must be as it was -/
def MarksQ (P : Program) (fn : Func) (tmps : Array Value) (S : Value → World → Prop) : List Deferred → World → Prop
  | [], w => ∃ v, (results fn tmps).run P w = .ok v w ∧ S v w
  | d :: ds, w => ∃ r w', d.target = .collected r ∧ (Instr.takeDeferred r).run P w = .ok [] w' ∧ MarksQ P fn tmps S ds w'
theorem MarksQ.leaves {P : Program} {fn : Func} {tmps : Array Value} {S : Value → World → Prop} {T : Ending → World → Prop} (hT : ∀ v w, S v w → T (.returned v) w) :
    ∀ (ds : List Deferred) (w : World), MarksQ P fn tmps S ds w → LeavesInM Fence.wide 0 P fn tmps T ds .returning w
  | [], w, ⟨v, h1, h2⟩ => ⟨v, h1, hT v w h2⟩
  | _ :: ds, w, ⟨r, w', h1, h2, h3⟩ => ⟨by simp, .inl ⟨r, w', h1, h2, MarksQ.leaves hT ds w' h3⟩⟩
def FnQ (P : Program) (fn : Func) (N : Bs) (R : List PH) (post : Value → List PH → Prop) : Exit → Act → World → Prop
  | .normal, a, w => MarksQ P fn a.tmps (fun v w' => ∃ H', post v H' ∧ Sat N R H' w') a.defers w
  | .ret, a, w => MarksQ P fn a.tmps (fun v w' => ∃ H', post v H' ∧ Sat N R H' w') a.defers w
  | _, _, _ => False
def env0 : Nat → List Value → Env
  | _, [] => []
  | k, v :: vs => (k, v) :: env0 (k + 1) vs
theorem look_env0 : ∀ (vs : List Value) (k t : Nat), look (env0 k vs) t = if k ≤ t then vs[t - k]? else none := by
  intro vs
  induction vs with
  | nil => intro k t; simp [env0, look]
  | cons v vs ih =>
    intro k t
    rw [env0, look_cons, ih]
    by_cases e : k = t
    · subst e; simp
    · rw [if_neg e]
      by_cases h : k ≤ t
      · have h1 : k + 1 ≤ t := by omega
        rw [if_pos h, if_pos h1]
        have : t - k = (t - (k + 1)) + 1 := by omega
        rw [this, List.getElem?_cons_succ]
      · rw [if_neg h, if_neg (by omega)]
theorem exists_base {N : Bs} {R H : List PH} {w : World} (hs : Sat N R H w) : ∃ β, Sat (Bs.of w) (β :: R) H w ∧ ∀ H' w', Sat (Bs.of w) (β :: R) H' w' → Upd H H' w w' := by
  let β : PH := fun b => open Classical in if ∃ ρ ∈ H, ρ b ≠ none then none else w.heap[b]?
  have hβ : ∀ b, (∀ ρ ∈ H, ρ b = none) → β b = w.heap[b]? := fun b hb => by
    simp only [β]
    rw [if_neg]
    rintro ⟨ρ, hρ, hne⟩
    exact hne (hb ρ hρ)
  have hβle : β.le w := fun b o hbo => by
    simp only [β] at hbo
    split at hbo
    · simp at hbo
    · exact hbo
  have hβd : ∀ σ ∈ H, β.disj σ := fun σ hσ b => by
    by_cases e : σ b = none
    · exact .inr e
    · left
      simp only [β]
      rw [if_pos ⟨σ, hσ, e⟩]
  have hsat : Sat (Bs.of w) (β :: R) H w := ⟨⟨Nat.le_refl _, rfl, rfl, rfl⟩, fun ρ hr => by
      simp at hr
      rcases hr with rfl | hr
      · exact hβle
      · exact hs.r ρ hr, hs.h, hs.hd, fun ρ hr => by
      simp at hr
      rcases hr with rfl | hr
      · exact hβd
      · exact hs.rd ρ hr⟩
  refine ⟨β, hsat, fun H' w' hsat' => ⟨hsat'.sz, fun b hb hno => ?_, hsat'.h, hsat'.hd, fun ρ hρ b hne => ?_⟩⟩
  · have h1 := hβ b hno
    have h2 : w.heap[b]? = some w.heap[b] := Array.getElem?_eq_getElem hb
    rw [h2] at h1 ⊢
    exact hsat'.r β (by simp) b _ h1
  · by_cases hno : ∀ σ ∈ H, σ b = none
    · right
      have h1 := hβ b hno
      have h3 := (hsat'.rd β (by simp) ρ hρ b).resolve_right hne
      rw [h1] at h3
      exact Array.getElem?_eq_none_iff.1 h3
    · left
      simp only [Classical.not_forall] at hno
      obtain ⟨σ, hσ, hne2⟩ := hno
      exact ⟨σ, hσ, hne2⟩
theorem spec_of_jk {P : Program} {f : FuncId} {fn : Func} {c : Code} {args cap : List Value} {R H : List PH} {post : Value → List PH → Prop} (hf : P.funcs[f]? = some fn) (hb : fn.body = some c)
    (hname : (fn.name == "runtime.NumGoroutine") = false) (hM : Nat.ble (args ++ cap).length fn.ntmps = true)
    (h : ∀ N β, JK ⟨none, P, FnQ P fn N (β :: R) post, N, fn.ntmps⟩ [] (β :: R) H (env0 0 (args ++ cap)) [.code c]) : Spec P (.func (.func f) #[] cap.toArray) args R H post := by
  intro N0 w hs
  unfold CallsV
  have hrun : ((do let d ← Deferred.ofValue (.func (.func f) #[] cap.toArray) args.toArray; invoke d.target d.args : Sem Next).run P w) = .ok (.enter f (args ++ cap).toArray) w := by
    have hname' : ¬ fn.name = "runtime.NumGoroutine" := by simpa using hname
    simp [Deferred.ofValue, invoke, callFunc, program, Sem.run, bind, Sem.bind, pure, hf, hb, hname']
  rw [hrun]
  simp only
  obtain ⟨β, hsat, hup⟩ := exists_base hs
  have hj := h (.of w) β
  refine callsIn_of_wp_marks hf hb trivial ?_
  have hM' := Nat.le_of_ble_eq_true hM
  have hrun := hj.run { tmps := (args ++ cap).toArray ++ Array.replicate (fn.ntmps - (args ++ cap).toArray.size) undef, defers := [] } w
    ⟨by simp at hM' ⊢; omega, fun t v hv => by
      rw [look_env0] at hv
      simp only [Nat.zero_le, if_true, Nat.sub_zero] at hv
      have hlt : t < (args ++ cap).length := (List.getElem?_eq_some_iff.1 hv).1
      simp only [Array.getD_eq_getD_getElem?]
      rw [Array.getElem?_append_left (by simpa using hlt)]
      simp only [List.getElem?_toArray]
      rw [hv]; rfl⟩ rfl hsat
  refine wpIn_mono (show c.wpIn Fence.wide 0 P (wpK _ []) _ w from hrun) (fun e a' w' hq => ?_)
  have hq : FnQ P fn (.of w) (β :: R) post e a' w' := hq
  have mono : ∀ v w', (∃ H', post v H' ∧ Sat (.of w) (β :: R) H' w') → (∃ u, Ending.returned v = Ending.returned u ∧ ∃ H', post u H' ∧ Upd H H' w w') :=
    fun v w' ⟨H', hp, hsat'⟩ => ⟨v, rfl, H', hp, hup H' w' hsat'⟩
  cases e with
  | normal => exact hq.leaves mono
  | ret => exact hq.leaves mono
  | _ => exact hq.elim
theorem jk_ret_any {P : Program} {fn : Func} {N : Bs} {M : Nat} {R R0 H H' : List PH} {L : Env} {K : List It} {post : Value → List PH → Prop} {v : Value}
    (hv : ∀ a w, Frm M L a → Sat N R H w → (results fn a.tmps).run P w = .ok v w) (hR : ∀ ρ ∈ R0, ρ ∈ R) (hH : Sel H H') (hp : post v H') :
    JK ⟨none, P, FnQ P fn N R0 post, N, M⟩ [] R H L (.code .ret :: K) := by
  refine ⟨fun a w hf hd hs => wpIn_ret (wpK_ret K a w ?_)⟩
  show MarksQ _ _ _ _ a.defers w
  rw [hd]
  exact ⟨v, hv a w hf hs, H', hp, (hs.rsub hR).sel hH⟩
theorem jk_end_any {P : Program} {fn : Func} {N : Bs} {M : Nat} {R R0 H H' : List PH} {L : Env} {post : Value → List PH → Prop} {v : Value}
    (hv : ∀ a w, Frm M L a → Sat N R H w → (results fn a.tmps).run P w = .ok v w) (hR : ∀ ρ ∈ R0, ρ ∈ R) (hH : Sel H H') (hp : post v H') :
    JK ⟨none, P, FnQ P fn N R0 post, N, M⟩ [] R H L [] := by
  refine ⟨fun a w hf hd hs => ?_⟩
  show MarksQ _ _ _ _ a.defers w
  rw [hd]
  exact ⟨v, hv a w hf hs, H', hp, (hs.rsub hR).sel hH⟩
theorem res0 {fn : Func} {N : Bs} {M : Nat} {R H : List PH} {P : Program} (hr : fn.results = #[]) :
    ∀ a w, Frm M L a → Sat N R H w → (results fn a.tmps).run P w = .ok (.tuple #[]) w := by
  intro a w _ _; simp [results, hr]
theorem res1 {fn : Func} {N : Bs} {M : Nat} {R H : List PH} {P : Program} {t : Nat} {v : Value} (hr : fn.results = #[.tmp t]) (hv : look L t = some v) :
    ∀ a w, Frm M L a → Sat N R H w → (results fn a.tmps).run P w = .ok v w := by
  intro a w hf _; rw [results_tmp hr, hf.get t v hv]
theorem res2 {fn : Func} {N : Bs} {M : Nat} {R H : List PH} {P : Program} {t u : Nat} {v1 v2 : Value} (hr : fn.results = #[.tmp t, .tmp u]) (hv : look L t = some v1) (hu : look L u = some v2) :
    ∀ a w, Frm M L a → Sat N R H w → (results fn a.tmps).run P w = .ok (.tuple #[v1, v2]) w := by
  intro a w hf _; rw [results_tmp2 hr, hf.get t v1 hv, hf.get u v2 hu]
theorem res3 {fn : Func} {N : Bs} {M : Nat} {R H : List PH} {P : Program} {t u s : Nat} {v1 v2 v3 : Value} (hr : fn.results = #[.tmp t, .tmp u, .tmp s]) (hv : look L t = some v1) (hu : look L u = some v2) (h3 : look L s = some v3) :
    ∀ a w, Frm M L a → Sat N R H w → (results fn a.tmps).run P w = .ok (.tuple #[v1, v2, v3]) w := by
  intro a w hf _
  have : (results fn a.tmps).run P w = .ok (.tuple #[a.tmps.getD t undef, a.tmps.getD u undef, a.tmps.getD s undef]) w := by simp [results, hr]
  rw [this, hf.get t v1 hv, hf.get u v2 hu, hf.get s v3 h3]
end Go.Eng
