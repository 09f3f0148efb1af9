/- Texts of this proof, one after the other; no conditions. -/
import Derived.Test.YtnijkofdlepfjaaGreatWA
import Derived.RangeFuncIn
import Derived.RangeFuncLeaves
import Derived.TacticsIn
import Derived.OrdersIn
import Derived.WalkKit
import Derived.KernelRfl
import Derived.IntWalk
set_option linter.all false
namespace Go.Eng
section

abbrev PH := Nat -> Option Obj
def PH.le (ρ : PH) (w : World) : Prop := ∀ b o, ρ b = some o -> w.heap[b]? = some o
def PH.disj (ρ σ : PH) : Prop := ∀ b, ρ b = none \/ σ b = none
def sng (b : Nat) (o : Obj) : PH := fun b' => if b' = b then some o else none

theorem PH.disj.symm {ρ σ : PH} (h : ρ.disj σ) : σ.disj ρ := fun b => (h b).symm
theorem jT (b : Nat) (o : Obj) : sng b o b = some o := by simp [sng]
theorem oW {b b' : Nat} {o o' : Obj} (h : sng b o b' = some o') : b' = b /\ o' = o := by
  unfold sng at h; split at h <;> simp_all

structure Bs where
  n : Nat
  os : Os
  out : Array (Nat × ByteArray)
  tape : Nat -> Question -> Nat
  dr : Nat
abbrev Bs.of (w : World) : Bs := ⟨w.heap.size, w.os, w.output, w.tape, w.drawn⟩
structure Sat (N : Bs) (R H : List PH) (w : World) : Prop where
  sz : N.n <= w.heap.size /\ w.os = N.os /\ w.output = N.out /\ w.tape = N.tape /\ N.dr <= w.drawn
  r : ∀ ρ ∈ R, ρ.le w
  h : ∀ ρ ∈ H, ρ.le w
  hd : H.Pairwise PH.disj
  rd : ∀ ρ ∈ R, ∀ σ ∈ H, ρ.disj σ

inductive gU (ρ : PH) : List PH -> List PH -> Prop
  | here {H : List PH} : gU ρ (ρ :: H) H
  | there {σ : PH} {H H' : List PH} : gU ρ H H' -> gU ρ (σ :: H) (σ :: H')
inductive gA : List PH -> List PH -> List PH -> Prop
  | nil {H : List PH} : gA H [] H
  | cons {ρ : PH} {H H1 H2 T : List PH} : gU ρ H H1 -> gA H1 T H2 -> gA H (ρ :: T) H2
inductive Sel : List PH -> List PH -> Prop
  | nil {H : List PH} : Sel H []
  | cons {ρ : PH} {H H1 H' : List PH} : gU ρ H H1 -> Sel H1 H' -> Sel H (ρ :: H')
inductive Mem (ρ : PH) : List PH -> Prop
  | here {H : List PH} : Mem ρ (ρ :: H)
  | there {σ : PH} {H : List PH} : Mem ρ H -> Mem ρ (σ :: H)
theorem Mem.mem {ρ : PH} {H : List PH} (h : Mem ρ H) : ρ ∈ H := by
  induction h with
  | here => simp
  | there _ ih => simp [ih]

theorem gU.mem {ρ : PH} {H H' : List PH} (h : gU ρ H H') : ρ ∈ H := by
  induction h with
  | here => simp
  | there _ ih => simp [ih]
theorem gU.sub {ρ : PH} {H H' : List PH} (h : gU ρ H H') : ∀ σ ∈ H', σ ∈ H := by
  induction h with
  | here => intro σ hs; simp [hs]
  | there _ ih => intro σ hs; simp at hs; rcases hs with hs | hs <;> simp [hs, ih]
theorem gU.pw {ρ : PH} {H H' : List PH} (h : gU ρ H H') (hp : H.Pairwise PH.disj) : H'.Pairwise PH.disj /\ ∀ σ ∈ H', ρ.disj σ := by
  induction h with
  | here => rw [aW] at hp; exact ⟨hp.2, hp.1⟩
  | @there σ H H' ht ih =>
    rw [aW] at hp
    obtain ⟨h1, h2⟩ := ih hp.2
    refine ⟨aW.2 ⟨fun τ hτ => hp.1 τ (ht.sub τ hτ), h1⟩, fun τ hτ => ?_⟩
    simp at hτ
    rcases hτ with rfl | hτ
    · exact (hp.1 ρ ht.mem).symm
    · exact h2 τ hτ

theorem Sat.take {N : Bs} {R H H' : List PH} {w : World} {ρ : PH} (h : Sat N R H w) (t : gU ρ H H') : Sat N R (ρ :: H') w where
  sz := h.sz
  r := h.r
  h := fun σ hs => by
    simp at hs
    rcases hs with rfl | hs
    · exact h.h _ t.mem
    · exact h.h _ (t.sub _ hs)
  hd := aW.2 ⟨(t.pw h.hd).2, (t.pw h.hd).1⟩
  rd := fun ρ' hr σ hs => by
    simp at hs
    rcases hs with rfl | hs
    · exact h.rd _ hr _ t.mem
    · exact h.rd _ hr _ (t.sub _ hs)
theorem Sat.tail {N : Bs} {R H : List PH} {w : World} {ρ : PH} (h : Sat N R (ρ :: H) w) : Sat N R H w where
  sz := h.sz
  r := h.r
  h := fun σ hs => h.h σ (by simp [hs])
  hd := (aW.1 h.hd).2
  rd := fun ρ' hr σ hs => h.rd ρ' hr σ (by simp [hs])
theorem Sat.sel {N : Bs} {R H H' : List PH} {w : World} (h : Sat N R H w) (s : Sel H H') : Sat N R H' w := by
  induction s with
  | nil => exact ⟨h.sz, h.r, by simp, by simp, by simp⟩
  | @cons ρ H H1 H' t s ih =>
    have h1 := h.take t
    have h2 := ih h1.tail
    have hsub : ∀ σ ∈ H', σ ∈ H1 := by
      clear ih h h1 h2 t
      induction s with
      | nil => simp
      | cons t s ih =>
        intro σ hs; simp at hs
        rcases hs with rfl | hs
        · exact t.mem
        · exact t.sub _ (ih _ hs)
    exact ⟨h.sz, h.r, fun σ hs => by
        simp at hs
        rcases hs with rfl | hs
        · exact h.h _ t.mem
        · exact h2.h _ hs,
      aW.2 ⟨fun σ hs => (t.pw h.hd).2 σ (hsub σ hs), h2.hd⟩, fun ρ' hr σ hs => by
        simp at hs
        rcases hs with rfl | hs
        · exact h.rd _ hr _ t.mem
        · exact h2.rd _ hr _ hs⟩
theorem Sat.freeze {N : Bs} {R H : List PH} {w : World} {ρ : PH} (h : Sat N R (ρ :: H) w) : Sat N (ρ :: R) H w where
  sz := h.sz
  r := fun σ hs => by
    simp at hs
    rcases hs with rfl | hs
    · exact h.h _ (by simp)
    · exact h.r _ hs
  h := fun σ hs => h.h σ (by simp [hs])
  hd := (aW.1 h.hd).2
  rd := fun ρ' hr σ hs => by
    simp at hr
    rcases hr with rfl | hr
    · exact (aW.1 h.hd).1 σ hs
    · exact h.rd ρ' hr σ (by simp [hs])
theorem Sat.heap {N : Bs} {R H : List PH} {w w' : World} (h : Sat N R H w) (e : w'.heap = w.heap) (eo : w'.os = w.os) (ep : w'.output = w.output) (et : w'.tape = w.tape) (ed : w.drawn <= w'.drawn) : Sat N R H w' :=
  ⟨by rw [e, eo, ep, et]; exact ⟨h.sz.1, h.sz.2.1, h.sz.2.2.1, h.sz.2.2.2.1, cT h.sz.2.2.2.2 ed⟩, fun ρ hr b o hb => by rw [e]; exact h.r ρ hr b o hb, fun ρ hr b o hb => by rw [e]; exact h.h ρ hr b o hb, h.hd, h.rd⟩
theorem Sat.rsub {N : Bs} {R R' H : List PH} {w : World} (h : Sat N R H w) (s : ∀ ρ ∈ R', ρ ∈ R) : Sat N R' H w :=
  ⟨h.sz, fun ρ hr => h.r ρ (s ρ hr), h.h, h.hd, fun ρ hr => h.rd ρ (s ρ hr)⟩

structure Upd (H H' : List PH) (w w' : World) : Prop where
  size : w.heap.size <= w'.heap.size /\ w'.os = w.os /\ w'.output = w.output /\ w'.tape = w.tape /\ w.drawn <= w'.drawn
  keep : ∀ b, b < w.heap.size -> (∀ ρ ∈ H, ρ b = none) -> w'.heap[b]? = w.heap[b]?
  own : ∀ ρ ∈ H', ρ.le w'
  hd : H'.Pairwise PH.disj
  new : ∀ ρ ∈ H', ∀ b, ρ b ≠ none -> (∃ σ ∈ H, σ b ≠ none) \/ w.heap.size <= b

theorem PH.le.lt {ρ : PH} {w : World} (h : ρ.le w) {b : Nat} (hb : ρ b ≠ none) : b < w.heap.size := by
  cases e : ρ b with
  | none => exact absurd e hb
  | some o =>
    have := h b o e
    exact (bP.1 this).1

theorem Sat.upd {N : Bs} {R H1 H1' F : List PH} {w w' : World} (h : Sat N R (H1 ++ F) w) (u : Upd H1 H1' w w') : Sat N R (H1' ++ F) w' := by
  have hsplit := cC.1 h.hd
  have keepR : ∀ ρ ∈ R, ρ.le w' := fun ρ hr b o hb => by
    have h1 := h.r ρ hr b o hb
    rw [u.keep b ((h.r ρ hr).lt (by simp [hb])) (fun σ hs => ((h.rd ρ hr σ (by simp [hs])) b).resolve_left (by simp [hb]))]
    exact h1
  have keepF : ∀ ρ ∈ F, ρ.le w' := fun ρ hr b o hb => by
    have h1 := h.h ρ (by simp [hr]) b o hb
    rw [u.keep b ((h.h ρ (by simp [hr])).lt (by simp [hb])) (fun σ hs => ((hsplit.2.2 σ hs ρ hr) b).resolve_right (by simp [hb]))]
    exact h1
  refine ⟨⟨cT h.sz.1 u.size.1, u.size.2.1.trans h.sz.2.1, u.size.2.2.1.trans h.sz.2.2.1, u.size.2.2.2.1.trans h.sz.2.2.2.1, cT h.sz.2.2.2.2 u.size.2.2.2.2⟩, keepR, fun ρ hr => ?_, cC.2 ⟨u.hd, hsplit.2.1, fun ρ hr σ hs b => ?_⟩, fun ρ hr σ hs b => ?_⟩
  · rcases aM.1 hr with hr | hr
    · exact u.own ρ hr
    · exact keepF ρ hr
  · by_cases e : ρ b = none
    · exact .inl e
    · right
      rcases u.new ρ hr b e with ⟨τ, hτ, hb⟩ | hb
      · exact ((hsplit.2.2 τ hτ σ hs) b).resolve_left hb
      · by_cases e2 : σ b = none
        · exact e2
        · have := (h.h σ (by simp [hs])).lt e2
          omega
  · rcases aM.1 hs with hs | hs
    · by_cases e : σ b = none
      · exact .inr e
      · left
        rcases u.new σ hs b e with ⟨τ, hτ, hb⟩ | hb
        · exact ((h.rd ρ hr τ (by simp [hτ])) b).resolve_right hb
        · by_cases e2 : ρ b = none
          · exact e2
          · have := (h.r ρ hr).lt e2
            omega
    · exact h.rd ρ hr σ (by simp [hs]) b

abbrev Env := List (Nat × Value)
def look : Env -> Nat -> Option Value
  | [], _ => none
  | (k, v) :: L, t => match Nat.beq k t with
    | true => some v
    | false => look L t
def fM (L : Env) : Operand -> Option Value
  | .tmp t => look L t
  | .const v => some v
  | .global g => some (.pointer (some ⟨g, 0, none⟩))
  | .func f => some (.func (.func f) #[] #[])
def jP (L : Env) : List Operand -> Option (List Value)
  | [] => some []
  | x :: xs => match fM L x, jP L xs with
    | some v, some vs => some (v :: vs)
    | _, _ => none
structure Frm (M : Nat) (L : Env) (a : Act) : Prop where
  size : a.tmps.size = M
  get : ∀ t v, look L t = some v -> a.tmps.getD t undef = v
theorem gV (k t : Nat) (v : Value) (L : Env) : look ((k, v) :: L) t = if k = t then some v else look L t := by
  by_cases e : k = t
  · subst e
    simp only [look, if_true]
    rw [show Nat.beq k k = true from eN k]
  · rw [if_neg e]
    simp only [look]
    cases hb : Nat.beq k t with
    | true => exact absurd (aO hb) e
    | false => rfl
def OnE (L : Env) (a : Act) (x : Operand) : Prop := ∀ v, fM L x = some v -> a.eval x = v
theorem Frm.on {M : Nat} {L : Env} {a : Act} (h : Frm M L a) (x : Operand) : OnE L a x := by
  intro v hv
  cases x with
  | tmp t => exact h.get t v hv
  | const c => simp [fM] at hv; simp [Act.eval, hv]
  | global g => simp [fM] at hv; simp [Act.eval, hv]
  | func f => simp [fM] at hv; simp [Act.eval, hv]
theorem Frm.put {M : Nat} {L : Env} {a : Act} (h : Frm M L a) {d : Nat} (hd : d < M) (v : Value) : Frm M ((d, v) :: L) (a.put (some d) v) where
  size := by simp [Act.put, h.size]
  get := fun t u hu => by
    rw [gV] at hu;simp only [Act.put, aP, cG]
    by_cases e : d = t
    · subst e
      simp only [if_true, aD] at hu
      simp [h.size, hd, hu]
    · rw [if_neg e] at hu
      have := h.get t u hu
      simpa [e, aP] using this
def nG (L : Env) : Env -> Prop
  | [] => True
  | (k, v) :: r => look L k = some v /\ nG L r
theorem nG.look {L L' : Env} (h : nG L L') : ∀ t v, look L' t = some v -> look L t = some v := by
  induction L' with
  | nil => intro t v hv; simp [Eng.look] at hv
  | cons kv r ih =>
    obtain ⟨k, u⟩ := kv
    intro t v hv
    rw [gV] at hv
    by_cases e : k = t
    · rw [if_pos e] at hv; subst e; rw [← hv]; exact h.1
    · rw [if_neg e] at hv; exact ih h.2 t v hv
theorem Frm.cover {M : Nat} {L L' : Env} {a : Act} (h : Frm M L a) (c : nG L L') : Frm M L' a := ⟨h.size, fun t v hv => h.get t v (c.look t v hv)⟩
inductive wP (L : Env) : List Nat -> Env -> Prop
  | nil : wP L [] []
  | cons {k : Nat} {v : Value} {ks : List Nat} {L' : Env} : look L k = some v -> wP L ks L' -> wP L (k :: ks) ((k, v) :: L')
theorem wP.cover {L L' : Env} {ks : List Nat} (h : wP L ks L') : nG L L' := by
  induction h with
  | nil => trivial
  | cons hl _ ih => exact ⟨hl, ih⟩
theorem nG.append {L L1 L2 : Env} (h1 : nG L L1) (h2 : nG L L2) : nG L (L1 ++ L2) := by
  induction L1 with
  | nil => exact h2
  | cons kv r ih => exact ⟨h1.1, ih h1.2⟩

abbrev gS (r : Option Nat) : Fence := { Fence.wide with round := r }

inductive It where
  | code (c : Code)
  | ops (all : Array Oper) (l : List Oper)
  | blk (id : Nat)
  | till (I : Act -> World -> Prop)
  | sem (s : Sem Unit)

structure Cx where
  r : Option Nat
  P : Program
  Q : Exit -> Act -> World -> Prop
  N : Bs
  M : Nat

def wpK (C : Cx) : List It -> Exit -> Act -> World -> Prop
  | [], e, a, w => C.Q e a w
  | .code c :: k, .normal, a, w => c.wpIn (gS C.r) 0 C.P (wpK C k) a w
  | .ops all l :: k, .normal, a, w => wpListIn (gS C.r) 0 C.P all (wpK C k) l a w
  | .till I :: _, .normal, a, w => I a w
  | .sem s :: k, .normal, a, w => ∃ w', s.run C.P w = .ok () w' /\ wpK C k .normal a w'
  | .blk _ :: k, .normal, a, w => wpK C k .normal a w
  | .blk id :: k, .exit id', a, w => if id' = id then wpK C k .normal a w else wpK C k (.exit id') a w
  | _ :: k, e, a, w => wpK C k e a w

structure JK (C : Cx) (D : List Deferred) (R H : List PH) (L : Env) (K : List It) : Prop where
  run : ∀ a w, Frm C.M L a -> a.defers = D -> Sat C.N R H w -> wpK C K .normal a w

variable {C : Cx} {D : List Deferred} {R H : List PH} {L : Env} {K : List It}

theorem lO : ∀ (K : List It) (a : Act) (w : World), C.Q .ret a w -> wpK C K .ret a w
  | [], _, _, h => h
  | .code _ :: k, a, w, h => lO k a w h
  | .ops _ _ :: k, a, w, h => lO k a w h
  | .till _ :: k, a, w, h => lO k a w h
  | .sem _ :: k, a, w, h => lO k a w h
  | .blk _ :: k, a, w, h => lO k a w h
def aN0 (id : Nat) : List It -> Option (List It)
  | [] => none
  | .blk i :: k => match Nat.beq i id with
    | true => some k
    | false => aN0 id k
  | _ :: k => aN0 id k
theorem oX (id : Nat) : ∀ (K K' : List It) (a : Act) (w : World), aN0 id K = some K' -> wpK C K' .normal a w -> wpK C K (.exit id) a w
  | [], _, _, _, h, _ => by simp [aN0] at h
  | .code _ :: k, K', a, w, h, h' => oX id k K' a w h h'
  | .ops _ _ :: k, K', a, w, h, h' => oX id k K' a w h h'
  | .till _ :: k, K', a, w, h, h' => oX id k K' a w h h'
  | .sem _ :: k, K', a, w, h, h' => oX id k K' a w h h'
  | .blk i :: k, K', a, w, h, h' => by
    simp only [aN0] at h;simp only [wpK]
    cases hb : Nat.beq i id with
    | true =>
      rw [hb] at h; simp at h; subst h;rw [if_pos (aO hb).symm]; exact h'
    | false =>
      rw [hb] at h
      rw [if_neg (fun e => by subst e; simp [eN] at hb)]
      exact oX id k K' a w h h'
theorem AC {x y : Code} (h : JK C D R H L (.code x :: .code y :: K)) : JK C D R H L (.code (.seq x y) :: K) :=
  ⟨fun a w hf hd hs => wpIn_seq (wpIn_mono (h.run a w hf hd hs) (by intro e a w hq; cases e <;> exact hq))⟩
theorem AM {id : Nat} {c : Code} (h : JK C D R H L (.code c :: .blk id :: K)) : JK C D R H L (.code (.block id c) :: K) :=
  ⟨fun a w hf hd hs => wpIn_block (wpIn_mono (h.run a w hf hd hs) (by intro e a w hq; cases e <;> exact hq))⟩
theorem BB {id : Nat} (h : JK C D R H L K) : JK C D R H L (.blk id :: K) := ⟨fun a w hf hd hs => h.run a w hf hd hs⟩
theorem AK (h : JK C D R H L K) : JK C D R H L (.code .skip :: K) := ⟨fun a w hf hd hs => wpIn_skip (h.run a w hf hd hs)⟩
theorem BA {id : Nat} {K' : List It} (hp : aN0 id K = some K') (h : JK C D R H L K') : JK C D R H L (.code (.exit id) :: K) :=
  ⟨fun a w hf hd hs => wpIn_exit (oX id K K' a w hp (h.run a w hf hd hs))⟩
theorem AA {id : Nat} {l : List Oper} (h : JK C D R H L (.ops l.toArray l :: K)) : JK C D R H L (.code (.region id l.toArray false) :: K) :=
  ⟨fun a w hf hd hs => wpIn_region_lit (h.run a w hf hd hs)⟩
theorem AE {all : Array Oper} (h : JK C D R H L K) : JK C D R H L (.ops all [] :: K) := ⟨fun a w hf hd hs => wpListIn_nil (h.run a w hf hd hs)⟩
theorem AQ {c : Operand} {x y : Code} (hc : fM L c = some (.bool true)) (h : JK C D R H L (.code x :: K)) : JK C D R H L (.code (.cond c x y) :: K) :=
  ⟨fun a w hf hd hs => wpIn_cond_true (hf.on c _ hc) (h.run a w hf hd hs)⟩
theorem AJ {c : Operand} {x y : Code} (hc : fM L c = some (.bool false)) (h : JK C D R H L (.code y :: K)) : JK C D R H L (.code (.cond c x y) :: K) :=
  ⟨fun a w hf hd hs => wpIn_cond_false (hf.on c _ hc) (h.run a w hf hd hs)⟩
theorem AW {ρ : PH} {H' : List PH} (t : gU ρ H H') (h : JK C D (ρ :: R) H' L K) : JK C D R H L K :=
  ⟨fun a w hf hd hs => h.run a w hf hd (hs.take t).freeze⟩

theorem aPu (p : Nat -> Prop) : ∀ m, p m -> ∃ k, p k /\ ∀ j, p j -> k <= j := by
  intro m
  induction m using Nat.strongRecOn with
  | _ m ih =>
    intro hm
    by_cases h : ∃ j, j < m /\ p j
    · obtain ⟨j, hj, hp⟩ := h; exact ih j hj hp
    · refine ⟨m, hm, fun j hp => ?_⟩
      rcases dP j m with hlt | hge
      · exact absurd ⟨j, hlt, hp⟩ h
      · exact hge
theorem tC {F : Fence} {n : Nat} {P : Program} {Q : Exit -> Act -> World -> Prop} {c : Code} (I : Nat -> Act -> World -> Prop) {m : Nat} {a : Act} {w : World} (h0 : I m a w)
    (round : ∀ m a w, I m a w -> c.wpIn F n P (Exit.then (fun a' w' => ∃ m', m' < m /\ I m' a' w') Q) a w) : (Code.loop c).wpIn F n P Q a w := by
  have hl : ∀ a w, (∃ m, I m a w) -> ∃ k, I k a w /\ ∀ j, I j a w -> k <= j := fun a w ⟨m, hm⟩ => aPu (fun m => I m a w) m hm
  let μ : Act -> World -> Nat := fun a w => open Classical in if h : ∃ m, I m a w then Classical.choose (hl a w h) else 0
  refine wpIn_loop (fun a w => ∃ m, I m a w) μ ⟨m, h0⟩ (fun a w hI => ?_)
  have hμ : μ a w = Classical.choose (hl a w hI) := by simp only [μ]; rw [dif_pos hI]
  have hs := Classical.choose_spec (hl a w hI)
  rw [← hμ] at hs
  refine wpIn_mono (round _ a w hs.1) (fun e a' w' hq => ?_)
  cases e with
  | normal =>
    obtain ⟨m', hlt, hI'⟩ := hq
    have hI2 : ∃ m, I m a' w' := ⟨m', hI'⟩
    have hμ' : μ a' w' = Classical.choose (hl a' w' hI2) := by simp only [μ]; rw [dif_pos hI2]
    have hs' := (Classical.choose_spec (hl a' w' hI2)).2 m' hI'
    rw [← hμ'] at hs'
    exact ⟨hI2, by omega⟩
  | _ => exact hq

def aPv {X : Type} (C : Cx) (D : List Deferred) (R : List PH) (Inv : X -> Prop) (Lx : X -> Env) (Hx : X -> List PH) (μ : X -> Nat) (m : Nat) (a : Act) (w : World) : Prop :=
  ∃ x, Inv x /\ μ x < m /\ Frm C.M (Lx x) a /\ a.defers = D /\ Sat C.N R (Hx x) w
theorem BE {X : Type} {c : Code} {Lk : Env} (keep : List Nat) (x0 : X) (Inv : X -> Prop) (Lx : X -> Env) (Hx : X -> List PH) (μ : X -> Nat)
    (hk : wP L keep Lk) (h0 : Inv x0) (hL : nG L (Lx x0)) (hH : Sel H (Hx x0))
    (round : ∀ x, Inv x -> JK C D R (Hx x) (Lx x ++ Lk) (.code c :: .till (aPv C D R Inv (fun y => Lx y ++ Lk) Hx μ (μ x)) :: K)) :
    JK C D R H L (.code (.loop c) :: K) := by
  refine ⟨fun a w hf hd hs => ?_⟩
  refine tC (fun m a w => ∃ x, Inv x /\ μ x = m /\ Frm C.M (Lx x ++ Lk) a /\ a.defers = D /\ Sat C.N R (Hx x) w) (m := μ x0)
    ⟨x0, h0, rfl, hf.cover (hL.append hk.cover), hd, hs.sel hH⟩ ?_
  rintro m a w ⟨x, hI, rfl, hf, hd, hs⟩
  refine wpIn_mono ((round x hI).run a w hf hd hs) (fun e a' w' hq => ?_)
  cases e with
  | normal =>
    obtain ⟨y, h1, h2, h3, h4, h5⟩ := hq
    exact ⟨μ y, h2, y, h1, rfl, h3, h4, h5⟩
  | _ => exact hq
theorem AZ {X : Type} {Inv : X -> Prop} {Lx : X -> Env} {Hx : X -> List PH} {μ : X -> Nat} {m : Nat} (y : X) (h1 : Inv y) (h2 : μ y < m) (h3 : nG L (Lx y)) (h4 : Sel H (Hx y)) :
    JK C D R H L (.till (aPv C D R Inv Lx Hx μ m) :: K) :=
  ⟨fun _ _ hf hd hs => ⟨y, h1, h2, hf.cover h3, hd, hs.sel h4⟩⟩
def MidI {X : Type} (C : Cx) (D : List Deferred) (R : List PH) (Inv : X -> Prop) (Lx : X -> Env) (Hx : X -> List PH) (a : Act) (w : World) : Prop :=
  ∃ x, Inv x /\ Frm C.M (Lx x) a /\ a.defers = D /\ Sat C.N R (Hx x) w
theorem DG {X : Type} {c : Code} {Lk : Env} (keep : List Nat) (Inv : X -> Prop) (Lx : X -> Env) (Hx : X -> List PH)
    (_hk : wP L keep Lk)
    (first : JK C D R H L (.code c :: .till (MidI C D R Inv (fun y => Lx y ++ Lk) Hx) :: K))
    (rest : ∀ x, Inv x -> JK C D R (Hx x) (Lx x ++ Lk) K) : JK C D R H L (.code c :: K) := by
  refine ⟨fun a w hf hd hs => wpIn_mono (first.run a w hf hd hs) (fun e a' w' hq => ?_)⟩
  cases e with
  | normal =>
    obtain ⟨y, h1, h3, h4, h5⟩ := hq
    exact (rest y h1).run a' w' h3 h4 h5
  | _ => exact hq
theorem CK {X : Type} {Inv : X -> Prop} {Lx : X -> Env} {Hx : X -> List PH} (y : X) (h1 : Inv y) (h3 : nG L (Lx y)) (h4 : Sel H (Hx y)) :
    JK C D R H L (.till (MidI C D R Inv Lx Hx) :: K) :=
  ⟨fun _ _ hf hd hs => ⟨y, h1, hf.cover h3, hd, hs.sel h4⟩⟩

/-! ### operations -/

def gT (all : Array Oper) (L : Env) (o : Oper) : Option Bool :=
  match o.guard with
  | none => some true
  | some (j, pS) =>
    match (all[j]?).bind (·.dst) with
    | none => none
    | some d =>
      match look L d with
      | some (.bool b) => some (b == pS)
      | some (.tuple _) => some false
      | _ => none
def iK (all : Array Oper) (o : Oper) : List Nat :=
  (o.op.operands.toList.filterMap fun | .tmp t => some t | _ => none) ++
  (match o.guard with
   | some (g, _) => ((all[g]?).bind (·.dst)).toList
   | none => [])
theorem lA {all : Array Oper} {L : Env} {o : Oper} {a : Act} {b : Bool} (h : gT all L o = some b)
    (hf : ∀ t ∈ iK all o, ∀ v, look L t = some v -> a.tmps.getD t undef = v) : Region.wanted o (yielded all a.tmps) = b := by
  unfold gT at h;unfold Region.wanted
  cases hg : o.guard with
  | none => rw [hg] at h; simpa using h
  | some jw =>
    obtain ⟨j, pS⟩ := jw
    rw [hg] at h;simp only at h ⊢;unfold yielded
    cases hd : (all[j]?).bind (·.dst) with
    | none => rw [hd] at h; simp at h
    | some d =>
      rw [hd] at h;simp only at h
      have hmem : d ∈ iK all o := by
        unfold iK;rw [hg]
        simp [hd]
      have hv := hf d hmem
      simp only [Option.bind_some]
      cases hl : look L d with
      | none => rw [hl] at h; simp at h
      | some v =>
        have hv := hv v hl
        rw [hl] at h
        have hget : a.tmps.getD d undef = (a.tmps[d]?).getD undef := by simp [aP]
        rw [hget] at hv
        cases hx : a.tmps[d]? with
        | none =>
          rw [hx] at hv; simp at hv;subst hv
          simp [undef] at h
          simp [h]
        | some u =>
          rw [hx] at hv; simp at hv; subst hv
          cases u with
          | bool c => simp at h ⊢; exact h
          | tuple vs => simp at h ⊢; simp [h]
          | _ => simp at h

structure fO (C : Cx) (R H : List PH) (L : Env) (o : Oper) (v : Value) : Prop where
  nd : ∀ c, o.op ≠ .defer c
  run : ∀ a w, (∀ x ∈ o.op.operands, OnE L a x) -> Sat C.N R H w -> (execOp a.eval o).run C.P w = .ok (.value v) w
structure iX (C : Cx) (R H : List PH) (L : Env) (o : Oper) (post : Value -> List PH -> Prop) : Prop where
  run : ∀ a w, (∀ x ∈ o.op.operands, OnE L a x) -> Sat C.N R H w -> ∀ (next : Act -> World -> Prop) (Q : Exit -> Act -> World -> Prop),
    (∀ v H' w', post v H' -> Sat C.N R H' w' -> next (a.put o.dst v) w') -> o.wpIn (gS C.r) 0 C.P a w next Q

theorem aAh {o : Oper} {v : Value} {a : Act} {w : World} (hq : fO C R H L o v) (hx : ∀ x ∈ o.op.operands, OnE L a x) (hs : Sat C.N R H w)
    {next : Act -> World -> Prop} {Q : Exit -> Act -> World -> Prop} (h : next (a.put o.dst v) w) : o.wpIn (gS C.r) 0 C.P a w next Q := by
  refine ⟨fun _ _ => trivial, ?_⟩
  rw [Oper.semAt_eq _ _ _ hq.nd, hq.run a w hx hs];exact h
theorem fO.loud {o : Oper} {v : Value} (hq : fO C R H L o v) : iX C R H L o (fun u H' => u = v /\ H' = H) :=
  ⟨fun _ _ hx hs _ _ h => aAh hq hx hs (h v H _ ⟨rfl, rfl⟩ hs)⟩

theorem CR {all : Array Oper} {o : Oper} {rest : List Oper} {post : Value -> List PH -> Prop} {d : Nat} (hl : iX C R H L o post) (hg : gT all L o = some true) (hd : o.dst = some d) (hM : Nat.blt d C.M = true)
    (h : ∀ v H', post v H' -> JK C D R H' ((d, v) :: L) (.ops all rest :: K)) : JK C D R H L (.ops all (o :: rest) :: K) := by
  refine ⟨fun a w hf hdf hs => ?_⟩
  show wpListIn _ _ _ _ _ (o :: rest) a w
  unfold wpListIn
  rw [if_pos (lA hg (fun t _ v => hf.get t v))]
  refine hl.run a w (fun x _ => hf.on x) hs _ _ (fun v H' w' hp hs' => ?_)
  rw [hd];exact (h v H' hp).run _ w' (hf.put (aT hM) v) hdf hs'
theorem CY {all : Array Oper} {o : Oper} {rest : List Oper} {post : Value -> List PH -> Prop} (hl : iX C R H L o post) (hg : gT all L o = some true) (hd : o.dst = none)
    (h : ∀ v H', post v H' -> JK C D R H' L (.ops all rest :: K)) : JK C D R H L (.ops all (o :: rest) :: K) := by
  refine ⟨fun a w hf hdf hs => ?_⟩
  show wpListIn _ _ _ _ _ (o :: rest) a w
  unfold wpListIn
  rw [if_pos (lA hg (fun t _ v => hf.get t v))]
  refine hl.run a w (fun x _ => hf.on x) hs _ _ (fun v H' w' hp hs' => ?_)
  rw [hd];exact (h v H' hp).run _ w' hf hdf hs'
theorem CN {all : Array Oper} {o : Oper} {rest : List Oper} {v : Value} {d : Nat} (hq : fO C R H L o v) (hg : gT all L o = some true) (hd : o.dst = some d) (hM : Nat.blt d C.M = true)
    (h : JK C D R H ((d, v) :: L) (.ops all rest :: K)) : JK C D R H L (.ops all (o :: rest) :: K) :=
  CR hq.loud hg hd hM (fun u H' ⟨e1, e2⟩ => by subst e1; subst e2; exact h)
theorem AL {all : Array Oper} {o : Oper} {rest : List Oper} {d : Nat} (hg : gT all L o = some false) (hd : o.dst = some d) (hM : Nat.blt d C.M = true)
    (h : JK C D R H ((d, undef) :: L) (.ops all rest :: K)) : JK C D R H L (.ops all (o :: rest) :: K) := by
  refine ⟨fun a w hf hdf hs => ?_⟩
  show wpListIn _ _ _ _ _ (o :: rest) a w
  unfold wpListIn
  rw [if_neg (by rw [lA hg (fun t _ v => hf.get t v)]; simp)]
  refine ⟨fun _ _ => trivial, ?_⟩
  rw [hd];exact h.run _ w (hf.put (aT hM) undef) hdf hs

/-! ### calls -/

def kG (P : Program) (fv : Value) (args : List Value) (w : World) (R : Value -> World -> Prop) : Prop :=
  match ((do let d ← Deferred.ofValue fv args.toArray; invoke d.target d.args : Sem Next).run P w) with
  | .ok (.enter f az) w1 => CallsIn Fence.wide 0 P f az w1 (fun e w' => ∃ v, e = .returned v /\ R v w')
  | .ok (.round l f tmps asg body) w1 => RoundIn Fence.wide 0 P l f tmps asg body w1 (fun e w' => ∃ v, e = .returned v /\ R v w')
  | _ => False
theorem kG.mono {P : Program} {fv : Value} {args : List Value} {w : World} {R R' : Value -> World -> Prop} (h : kG P fv args w R) (hr : ∀ v w', R v w' -> R' v w') : kG P fv args w R' := by
  unfold kG at *
  split
  · rename_i e
    rw [e] at h
    exact CallsIn.mono h (fun e w' ⟨v, h1, h2⟩ => ⟨v, h1, hr _ _ h2⟩)
  · rename_i e
    rw [e] at h
    exact RoundIn.mono h (fun e w' ⟨v, h1, h2⟩ => ⟨v, h1, hr _ _ h2⟩)
  · rename_i h1 h2
    revert h
    split
    · rename_i e; intro _; exact h1 _ _ _ e
    · rename_i e; intro _; exact h2 _ _ _ _ _ _ e
    · exact id
def Spec (P : Program) (fv : Value) (args : List Value) (R H : List PH) (post : Value -> List PH -> Prop) : Prop :=
  ∀ N w, Sat N R H w -> kG P fv args w (fun v w' => ∃ H', post v H' /\ Upd H H' w w')
theorem Spec.mono {P : Program} {fv : Value} {args : List Value} {R H : List PH} {post post' : Value -> List PH -> Prop} (h : Spec P fv args R H post) (hp : ∀ v H', post v H' -> post' v H') :
    Spec P fv args R H post' := fun N w hs => (h N w hs).mono (fun _ _ ⟨H', h1, h2⟩ => ⟨H', hp _ _ h1, h2⟩)
theorem Spec.rsub {P : Program} {fv : Value} {args : List Value} {R R' H : List PH} {post : Value -> List PH -> Prop} (h : Spec P fv args R H post) (hp : ∀ ρ ∈ R, ρ ∈ R') :
    Spec P fv args R' H post := fun N w hs => h N w (hs.rsub hp)

theorem gA.sat {N : Bs} {R H H1 H2 : List PH} {w : World} (t : gA H H1 H2) (h : Sat N R H w) : Sat N R (H1 ++ H2) w := by
  induction t with
  | nil => exact h
  | @cons ρ H H1 H2 T t ts ih =>
    have h1 := h.take t
    have h2 := ih h1.tail
    have hsub : ∀ σ ∈ T ++ H2, σ ∈ H1 := by
      clear ih h h1 h2 t
      induction ts with
      | nil => simp
      | cons t ts ih =>
        intro σ hs; simp at hs
        rcases hs with rfl | hs
        · exact t.mem
        · exact t.sub _ (ih σ (by simpa using hs))
    exact ⟨h.sz, h.r, fun σ hs => by
        simp at hs
        rcases hs with rfl | hs
        · exact h.h _ t.mem
        · exact h2.h _ (by simpa using hs),
      aW.2 ⟨fun σ hs => (t.pw h.hd).2 σ (hsub σ hs), h2.hd⟩, fun ρ' hr σ hs => by
        simp at hs
        rcases hs with rfl | hs
        · exact h.rd _ hr _ t.mem
        · exact h2.rd _ hr _ (by simpa using hs)⟩

def jK (R1 R H : List PH) : Prop := ∀ ρ ∈ R1, ρ ∈ R \/ ρ ∈ H
theorem jK.nil {R H : List PH} : jK [] R H := by intro ρ h; simp at h
theorem jK.consR {ρ : PH} {R1 R H : List PH} (m : Mem ρ R) (h : jK R1 R H) : jK (ρ :: R1) R H := by
  intro σ hs; simp at hs
  rcases hs with rfl | hs
  · exact .inl m.mem
  · exact h σ hs
theorem jK.consH {ρ : PH} {R1 R H : List PH} (m : Mem ρ H) (h : jK R1 R H) : jK (ρ :: R1) R H := by
  intro σ hs; simp at hs
  rcases hs with rfl | hs
  · exact .inr m.mem
  · exact h σ hs
theorem Sat.sub {N : Bs} {R H1 H2 R1 : List PH} {w : World} (h : Sat N R (H1 ++ H2) w) (hr : jK R1 R H2) : Sat N R1 H1 w where
  sz := h.sz
  r := fun ρ hρ => (hr ρ hρ).elim (h.r ρ) (fun hm => h.h ρ (by simp [hm]))
  h := fun ρ hρ => h.h ρ (by simp [hρ])
  hd := (cC.1 h.hd).1
  rd := fun ρ hρ σ hσ => (hr ρ hρ).elim (fun hm => h.rd ρ hm σ (by simp [hσ])) (fun hm => ((cC.1 h.hd).2.2 σ hσ ρ hm).symm)

theorem nT {L : Env} {a : Act} : ∀ {xs : List Operand} {vs : List Value}, jP L xs = some vs -> (∀ x ∈ xs, OnE L a x) -> xs.map a.eval = vs := by
  intro xs
  induction xs with
  | nil => intro vs h _; simp [jP] at h; simp [h]
  | cons x xs ih =>
    intro vs h hx
    simp only [jP] at h
    cases h1 : fM L x with
    | none => simp [h1] at h
    | some v =>
      cases h2 : jP L xs with
      | none => simp [h1, h2] at h
      | some us =>
        simp [h1, h2] at h
        subst h
        rw [dK, hx x (by simp) v h1, ih h2 (fun y hy => hx y (by simp [hy]))]

theorem mI {x : Operand} {xs : Array Operand} {ts : Array TypeId} {dst : Option Tmp} {ty : TypeId} {pos : String} {aft : Array Edge} {g : Option (Nat × Bool)} {fv : Value} {vs : List Value} {R1 H1 H2 : List PH} {post : Value -> List PH -> Prop}
    (hs : Spec C.P fv vs R1 H1 post) (hf : fM L x = some fv) (ha : jP L xs.toList = some vs) (ht : gA H H1 H2) (hr : jK R1 R H2) :
    iX C R H L ⟨dst, .call ⟨.value x, xs, ts⟩, ty, pos, aft, g⟩ (fun v H' => ∃ H1', H' = H1' ++ H2 /\ post v H1') := by
  refine ⟨fun a w hx hsat next Q hnext => ?_⟩
  have hsat2 := ht.sat hsat
  have hc := hs C.N w (hsat2.sub hr)
  have hxv : a.eval x = fv := hx x (by simp [Op.operands, Call.operands]) fv hf
  have hargs : xs.map a.eval = vs.toArray := by
    have := nT (a := a) ha (fun y hy => hx y (by simp [Op.operands, Call.operands]; right; simpa using hy))
    have h2 : (xs.map a.eval).toList = vs := by rw [dF]; exact this
    rw [← h2]
  have hex : execOp a.eval ⟨dst, .call ⟨.value x, xs, ts⟩, ty, pos, aft, g⟩ = (do let d ← Deferred.ofValue fv vs.toArray; invoke d.target d.args : Sem Next) := by
    simp only [execOp, resolve, hargs, hxv]
  refine ⟨fun _ _ => trivial, ?_⟩
  rw [Oper.semAt_eq _ _ _ (by intro c; simp)]
  rw [hex];unfold kG at hc
  generalize ((do let d ← Deferred.ofValue fv vs.toArray; invoke d.target d.args : Sem Next).run C.P w) = res at hc
  split at hc
  · rename_i f az w1
    refine ⟨fun h => by simp [Fence.wide] at h, ?_⟩
    refine CallsIn.mono (show CallsIn (gS C.r) 0 C.P f az w1 _ from hc) ?_
    rintro e w' ⟨v, rfl, H', hp, hu⟩;exact hnext v (H' ++ H2) w' ⟨H', rfl, hp⟩ (hsat2.upd hu)
  · rename_i l f tmps asg body w1
    refine ⟨fun h => by simp [Fence.wide] at h, ?_⟩
    refine RoundIn.mono (show RoundIn (gS C.r) 0 C.P l f tmps asg body w1 _ from hc) ?_
    rintro e w' ⟨v, rfl, H', hp, hu⟩;exact hnext v (H' ++ H2) w' ⟨H', rfl, hp⟩ (hsat2.upd hu)
  · exact hc.elim

/-! ### functions -/

def jZ (P : Program) (fn : Func) (tmps : Array Value) (S : Value -> World -> Prop) : List Deferred -> World -> Prop
  | [], w => ∃ v, (results fn tmps).run P w = .ok v w /\ S v w
  | d :: ds, w => ∃ r w', d.target = .collected r /\ (Instr.takeDeferred r).run P w = .ok [] w' /\ jZ P fn tmps S ds w'
theorem jZ.leaves {P : Program} {fn : Func} {tmps : Array Value} {S : Value -> World -> Prop} {T : Ending -> World -> Prop} (hT : ∀ v w, S v w -> T (.returned v) w) :
    ∀ (ds : List Deferred) (w : World), jZ P fn tmps S ds w -> LeavesInM Fence.wide 0 P fn tmps T ds .returning w
  | [], w, ⟨v, h1, h2⟩ => ⟨v, h1, hT v w h2⟩
  | _ :: ds, w, ⟨r, w', h1, h2, h3⟩ => ⟨by simp, .inl ⟨r, w', h1, h2, jZ.leaves hT ds w' h3⟩⟩
def FnQ (P : Program) (fn : Func) (N : Bs) (R : List PH) (post : Value -> List PH -> Prop) : Exit -> Act -> World -> Prop
  | .normal, a, w => jZ P fn a.tmps (fun v w' => ∃ H', post v H' /\ Sat N R H' w') a.defers w
  | .ret, a, w => jZ P fn a.tmps (fun v w' => ∃ H', post v H' /\ Sat N R H' w') a.defers w
  | _, _, _ => False
def uM : Nat -> List Value -> Env
  | _, [] => []
  | k, v :: vs => (k, v) :: uM (k + 1) vs
theorem sC : ∀ (vs : List Value) (k t : Nat), look (uM k vs) t = if k <= t then vs[t - k]? else none := by
  intro vs
  induction vs with
  | nil => intro k t; simp [uM, look]
  | cons v vs ih =>
    intro k t
    rw [uM, gV, ih]
    by_cases e : k = t
    · subst e; simp
    · rw [if_neg e]
      by_cases h : k <= t
      · have h1 : k + 1 <= t := by omega
        rw [if_pos h, if_pos h1]
        have : t - k = (t - (k + 1)) + 1 := by omega
        rw [this, dY]
      · rw [if_neg h, if_neg (by omega)]
theorem lG {N : Bs} {R H : List PH} {w : World} (hs : Sat N R H w) : ∃ β, Sat (Bs.of w) (β :: R) H w /\ ∀ H' w', Sat (Bs.of w) (β :: R) H' w' -> Upd H H' w w' := by
  let β : PH := fun b => open Classical in if ∃ ρ ∈ H, ρ b ≠ none then none else w.heap[b]?
  have hβ : ∀ b, (∀ ρ ∈ H, ρ b = none) -> β b = w.heap[b]? := fun b hb => by
    simp only [β];rw [if_neg];rintro ⟨ρ, hρ, hne⟩;exact hne (hb ρ hρ)
  have hβle : β.le w := fun b o hbo => by
    simp only [β] at hbo
    split at hbo
    · simp at hbo
    · exact hbo
  have hβd : ∀ σ ∈ H, β.disj σ := fun σ hσ b => by
    by_cases e : σ b = none
    · exact .inr e
    · left
      simp only [β];rw [if_pos ⟨σ, hσ, e⟩]
  have hsat : Sat (Bs.of w) (β :: R) H w := ⟨⟨aK _, rfl, rfl, rfl, aK _⟩, fun ρ hr => by
      simp at hr
      rcases hr with rfl | hr
      · exact hβle
      · exact hs.r ρ hr, hs.h, hs.hd, fun ρ hr => by
      simp at hr
      rcases hr with rfl | hr
      · exact hβd
      · exact hs.rd ρ hr⟩
  refine ⟨β, hsat, fun H' w' hsat' => ⟨hsat'.sz, fun b hb hno => ?_, hsat'.h, hsat'.hd, fun ρ hρ b hne => ?_⟩⟩
  · have h1 := hβ b hno
    have h2 : w.heap[b]? = some w.heap[b] := Array.getElem?_eq_getElem hb
    rw [h2] at h1 ⊢
    exact hsat'.r β (by simp) b _ h1
  · by_cases hno : ∀ σ ∈ H, σ b = none
    · right
      have h1 := hβ b hno
      have h3 := (hsat'.rd β (by simp) ρ hρ b).resolve_right hne
      rw [h1] at h3;exact Array.getElem?_eq_none_iff.1 h3
    · left
      simp only [Classical.not_forall] at hno
      obtain ⟨σ, hσ, hne2⟩ := hno
      exact ⟨σ, hσ, hne2⟩
theorem aKi {P : Program} {f : FuncId} {fn : Func} {c : Code} {args cap : List Value} {R H : List PH} {post : Value -> List PH -> Prop} (hf : P.funcs[f]? = some fn) (hb : fn.body = some c)
    (hname : (fn.name == "runtime.NumGoroutine") = false) (hM : Nat.ble (args ++ cap).length fn.ntmps = true)
    (h : ∀ N β, JK ⟨none, P, FnQ P fn N (β :: R) post, N, fn.ntmps⟩ [] (β :: R) H (uM 0 (args ++ cap)) [.code c]) : Spec P (.func (.func f) #[] cap.toArray) args R H post := by
  intro N0 w hs
  unfold kG
  have hrun : ((do let d ← Deferred.ofValue (.func (.func f) #[] cap.toArray) args.toArray; invoke d.target d.args : Sem Next).run P w) = .ok (.enter f (args ++ cap).toArray) w := by
    have hname' : ¬ fn.name = "runtime.NumGoroutine" := by simpa using hname
    simp [Deferred.ofValue, invoke, callFunc, program, Sem.run, bind, Sem.bind, pure, hf, hb, hname']
  rw [hrun];simp only
  obtain ⟨β, hsat, hup⟩ := lG hs
  have hj := h (.of w) β
  refine callsIn_of_wp_marks hf hb trivial ?_
  have hM' := aT hM
  have hrun := hj.run { tmps := (args ++ cap).toArray ++ Array.replicate (fn.ntmps - (args ++ cap).toArray.size) undef, defers := [] } w
    ⟨by simp at hM' ⊢; omega, fun t v hv => by
      rw [sC] at hv;simp only [cA, if_true, Nat.sub_zero] at hv
      have hlt : t < (args ++ cap).length := (aC.1 hv).1
      simp only [aP]
      rw [cR (by simpa using hlt)]
      simp only [dQ]
      rw [hv]; rfl⟩ rfl hsat
  refine wpIn_mono (show c.wpIn Fence.wide 0 P (wpK _ []) _ w from hrun) (fun e a' w' hq => ?_)
  have hq : FnQ P fn (.of w) (β :: R) post e a' w' := hq
  have mono : ∀ v w', (∃ H', post v H' /\ Sat (.of w) (β :: R) H' w') -> (∃ u, Ending.returned v = Ending.returned u /\ ∃ H', post u H' /\ Upd H H' w w') :=
    fun v w' ⟨H', hp, hsat'⟩ => ⟨v, rfl, H', hp, hup H' w' hsat'⟩
  cases e with
  | normal => exact hq.leaves mono
  | ret => exact hq.leaves mono
  | _ => exact hq.elim
theorem A2 {P : Program} {fn : Func} {N : Bs} {M : Nat} {R R0 H H' : List PH} {L : Env} {K : List It} {post : Value -> List PH -> Prop} {v : Value}
    (hv : ∀ a w, Frm M L a -> Sat N R H w -> (results fn a.tmps).run P w = .ok v w) (hR : ∀ ρ ∈ R0, ρ ∈ R) (hH : Sel H H') (hp : post v H') :
    JK ⟨none, P, FnQ P fn N R0 post, N, M⟩ [] R H L (.code .ret :: K) := by
  refine ⟨fun a w hf hd hs => wpIn_ret (lO K a w ?_)⟩
  show jZ _ _ _ _ a.defers w
  rw [hd];exact ⟨v, hv a w hf hs, H', hp, (hs.rsub hR).sel hH⟩
theorem BJ {P : Program} {fn : Func} {N : Bs} {M : Nat} {R R0 H H' : List PH} {L : Env} {post : Value -> List PH -> Prop} {v : Value}
    (hv : ∀ a w, Frm M L a -> Sat N R H w -> (results fn a.tmps).run P w = .ok v w) (hR : ∀ ρ ∈ R0, ρ ∈ R) (hH : Sel H H') (hp : post v H') :
    JK ⟨none, P, FnQ P fn N R0 post, N, M⟩ [] R H L [] := by
  refine ⟨fun a w hf hd hs => ?_⟩
  show jZ _ _ _ _ a.defers w
  rw [hd];exact ⟨v, hv a w hf hs, H', hp, (hs.rsub hR).sel hH⟩
theorem gY {fn : Func} {N : Bs} {M : Nat} {R H : List PH} {P : Program} (hr : fn.results = #[]) :
    ∀ a w, Frm M L a -> Sat N R H w -> (results fn a.tmps).run P w = .ok (.tuple #[]) w := by
  intro a w _ _; simp [results, hr]
theorem qR {fn : Func} {N : Bs} {M : Nat} {R H : List PH} {P : Program} {t : Nat} {v : Value} (hr : fn.results = #[.tmp t]) (hv : look L t = some v) :
    ∀ a w, Frm M L a -> Sat N R H w -> (results fn a.tmps).run P w = .ok v w := by
  intro a w hf _; rw [results_tmp hr, hf.get t v hv]
theorem mB {fn : Func} {N : Bs} {M : Nat} {R H : List PH} {P : Program} {t u : Nat} {v1 v2 : Value} (hr : fn.results = #[.tmp t, .tmp u]) (hv : look L t = some v1) (hu : look L u = some v2) :
    ∀ a w, Frm M L a -> Sat N R H w -> (results fn a.tmps).run P w = .ok (.tuple #[v1, v2]) w := by
  intro a w hf _; rw [results_tmp2 hr, hf.get t v1 hv, hf.get u v2 hu]
theorem aPw {fn : Func} {N : Bs} {M : Nat} {R H : List PH} {P : Program} {t u s : Nat} {v1 v2 v3 : Value} (hr : fn.results = #[.tmp t, .tmp u, .tmp s]) (hv : look L t = some v1) (hu : look L u = some v2) (h3 : look L s = some v3) :
    ∀ a w, Frm M L a -> Sat N R H w -> (results fn a.tmps).run P w = .ok (.tuple #[v1, v2, v3]) w := by
  intro a w hf _
  have : (results fn a.tmps).run P w = .ok (.tuple #[a.tmps.getD t undef, a.tmps.getD u undef, a.tmps.getD s undef]) w := by simp [results, hr]
  rw [this, hf.get t v1 hv, hf.get u v2 hu, hf.get s v3 h3]
end
section
variable {C:Cx} {D:List Deferred} {R H:List PH} {L:Env} {K:List It}
variable {dst:Option Tmp} {ty:TypeId} {pos:String} {aft:Array Edge} {g:Option (Nat × Bool)}
theorem D9 {x:Operand} {v:Value} (h:fM L x=some v):fO C R H L ⟨dst,.move x,ty,pos,aft,g⟩ v:=
  ⟨by intro c; simp,fun a w hx _=>by simp [execOp,hx x (by simp [Op.operands]) v h]⟩
theorem CQ {x:Operand} {v:Value} (h:fM L x=some v):fO C R H L ⟨dst,.assign x,ty,pos,aft,g⟩ v:=
  ⟨by intro c; simp,fun a w hx _=>by simp [execOp,hx x (by simp [Op.operands]) v h]⟩
theorem FF {c x y:Operand} {v:Value} (hc:fM L c=some (.bool true)) (h:fM L x=some v):fO C R H L ⟨dst,.pick c x y,ty,pos,aft,g⟩ v:=
  ⟨by intro c; simp,fun a w hx _=>by
    simp [execOp,hx x (by simp [Op.operands]) v h,hx c (by simp [Op.operands]) _ hc,asBool]⟩
theorem FG {c x y:Operand} {v:Value} (hc:fM L c=some (.bool false)) (h:fM L y=some v):fO C R H L ⟨dst,.pick c x y,ty,pos,aft,g⟩ v:=
  ⟨by intro c; simp,fun a w hx _=>by
    simp [execOp,hx y (by simp [Op.operands]) v h,hx c (by simp [Op.operands]) _ hc,asBool]⟩
theorem C0 {x:Operand} {i:Nat} {vs:Array Value} {v:Value} (h:fM L x=some (.tuple vs)) (hi:vs[i]?=some v):fO C R H L ⟨dst,.extract x i,ty,pos,aft,g⟩ v:=
  ⟨by intro c; simp,fun a w hx _=>by simp [execOp,hx x (by simp [Op.operands]) _ h,Instr.extract,hi]⟩
theorem EQ {fn:Fn} {first cap:Array Operand} {fs cs:List Value} (h1:jP L first.toList=some fs) (h2:jP L cap.toList=some cs) :
    fO C R H L ⟨dst,.makeFunc fn first cap,ty,pos,aft,g⟩ (.func fn fs.toArray cs.toArray):=
  ⟨by intro c; simp,fun a w hx _=>by
    have e1:=nT (a:=a) h1 (fun y hy=>hx y (by simp [Op.operands]; left; simpa using hy))
    have e2:=nT (a:=a) h2 (fun y hy=>hx y (by simp [Op.operands]; right; simpa using hy))
    have f1:first.map a.eval=fs.toArray:=by rw [← e1,← dF]
    have f2:cap.map a.eval=cs.toArray:=by rw [← e2,← dF]
    simp [execOp,Instr.makeFunc,f1,f2]⟩
theorem D5 {x:Operand} {ad:Addr} (h:fM L x=some (.pointer (some ad))):fO C R H L ⟨dst,.nilCheck x,ty,pos,aft,g⟩ (.pointer (some ad)):=
  ⟨by intro c; simp,fun a w hx _=>by simp [execOp,hx x (by simp [Op.operands]) _ h]⟩
/-! #### integers -/
def aEx (n:Int):Prop:=-9223372036854775808<=n/\n<=9223372036854775807
theorem pL {n:Int} (h:aEx n):IntKind.i64.wrap n=n:=IntWalk.i64_in n h
section
variable {op:BinOp} {xT yT:TypeId} {x y:Operand} {k:IntKind} {m n:Int}
theorem E7 {f:Int->Int->Int} (hop:(op=.add/\f=(· + ·))\/(op=.sub/\f=(· - ·))\/(op=.mul/\f=(· * ·))) (h1:fM L x=some (.int k m)) (h2:fM L y=some (.int k n)) :
    fO C R H L ⟨dst,.binOp op xT x y yT,ty,pos,aft,g⟩ (.int k (k.wrap (f m n))):=
  ⟨by intro c; simp,fun a w hx _=>by
    have e1:=hx x (by simp [Op.operands]) _ h1
    have e2:=hx y (by simp [Op.operands]) _ h2
    rcases hop with ⟨rfl,rfl⟩|⟨rfl,rfl⟩|⟨rfl,rfl⟩ <;> simp [execOp,e1,e2,eqGuard,binOp,Op.intArith]⟩
theorem GE (h1:fM L x=some (.int .i64 m)) (h2:fM L y=some (.int .i64 n)) (hr:aEx (m+n)):fO C R H L ⟨dst,.binOp .add xT x y yT,ty,pos,aft,g⟩ (.int .i64 (m+n)):=by
  have:=E7 (C:=C) (R:=R) (H:=H) (dst:=dst) (ty:=ty) (pos:=pos) (aft:=aft) (g:=g) (xT:=xT) (yT:=yT) (.inl ⟨rfl,rfl⟩) h1 h2
  rwa [pL hr] at this
theorem GT (h1:fM L x=some (.int .i64 m)) (h2:fM L y=some (.int .i64 n)) (hr:aEx (m-n)):fO C R H L ⟨dst,.binOp .sub xT x y yT,ty,pos,aft,g⟩ (.int .i64 (m-n)):=by
  have:=E7 (C:=C) (R:=R) (H:=H) (dst:=dst) (ty:=ty) (pos:=pos) (aft:=aft) (g:=g) (xT:=xT) (yT:=yT) (.inr (.inl ⟨rfl,rfl⟩)) h1 h2
  rwa [pL hr] at this
theorem GU (h1:fM L x=some (.int .i64 m)) (h2:fM L y=some (.int .i64 n)) (hr:aEx (m*n)):fO C R H L ⟨dst,.binOp .mul xT x y yT,ty,pos,aft,g⟩ (.int .i64 (m*n)):=by
  have:=E7 (C:=C) (R:=R) (H:=H) (dst:=dst) (ty:=ty) (pos:=pos) (aft:=aft) (g:=g) (xT:=xT) (yT:=yT) (.inr (.inr ⟨rfl,rfl⟩)) h1 h2
  rwa [pL hr] at this
theorem GV {j:Nat} (h1:fM L x=some (.int .i64 (j:Int))) (h2:fM L y=some (.int .i64 1)) (hr:(j:Int)<=9223372036854775806):fO C R H L ⟨dst,.binOp .add xT x y yT,ty,pos,aft,g⟩ (.int .i64 ((j+1:Nat):Int)):=by
  have:=GE (C:=C) (R:=R) (H:=H) (dst:=dst) (ty:=ty) (pos:=pos) (aft:=aft) (g:=g) (xT:=xT) (yT:=yT) h1 h2 ⟨by omega,by omega⟩
  simpa using this
theorem q_quo (h1:fM L x=some (.int .i64 m)) (h2:fM L y=some (.int .i64 n)) (hm:0<=m) (hn:0<n) (hr:m<=9223372036854775807):fO C R H L ⟨dst,.binOp .quo xT x y yT,ty,pos,aft,g⟩ (.int .i64 (m / n)):=
  ⟨by intro c; simp,fun a w hx _=>by
    have e1:=hx x (by simp [Op.operands]) _ h1
    have e2:=hx y (by simp [Op.operands]) _ h2
    have hz:n≠0:=by omega
    have hd:m.tdiv n=m / n:=Int.tdiv_eq_ediv_of_nonneg hm
    have hb:aEx (m / n):=by
      have h3:=Int.ediv_nonneg hm (Int.le_of_lt hn)
      have h4:=Int.ediv_le_self n hm
      exact ⟨by omega,by omega⟩
    simp [execOp,e1,e2,eqGuard,binOp,Op.intDiv,hz,hd,pL hb]⟩
def oY:BinOp->Int->Int->Option Bool
  | .eql,m,n=>some (decide (m=n))
  | .neq,m,n=>some (!decide (m=n))
  | .lss,m,n=>some (decide (m<n))
  | .leq,m,n=>some (decide (m<=n))
  | .gtr,m,n=>some (decide (n<m))
  | .geq,m,n=>some (decide (n<=m))
  | _,_,_=>none
theorem D6 {b:Bool} (h1:fM L x=some (.int k m)) (h2:fM L y=some (.int k n)) (hb:oY op m n=some b):fO C R H L ⟨dst,.binOp op xT x y yT,ty,pos,aft,g⟩ (.bool b):=
  ⟨by intro c; simp,fun a w hx _=>by
    have e1:=hx x (by simp [Op.operands]) _ h1
    have e2:=hx y (by simp [Op.operands]) _ h2
    cases op <;> simp only [oY,aD,reduceCtorEq] at hb <;> subst hb <;> simp [execOp,e1,e2,eqGuard,binOp,Op.intCmp]
    all_goals (first|rfl|(by_cases h:m=n <;> simp [h]))⟩
theorem q_lt (h1:fM L x=some (.int k m)) (h2:fM L y=some (.int k n)) (h:m<n):fO C R H L ⟨dst,.binOp .lss xT x y yT,ty,pos,aft,g⟩ (.bool true):=D6 h1 h2 (by simp [oY,h])
theorem aVg (h1:fM L x=some (.int k m)) (h2:fM L y=some (.int k n)) (h:n<=m):fO C R H L ⟨dst,.binOp .lss xT x y yT,ty,pos,aft,g⟩ (.bool false):=D6 h1 h2 (by simp [oY,h])
theorem q_le (h1:fM L x=some (.int k m)) (h2:fM L y=some (.int k n)) (h:m<=n):fO C R H L ⟨dst,.binOp .leq xT x y yT,ty,pos,aft,g⟩ (.bool true):=D6 h1 h2 (by simp [oY,h])
theorem aVh (h1:fM L x=some (.int k m)) (h2:fM L y=some (.int k n)) (h:n<m):fO C R H L ⟨dst,.binOp .leq xT x y yT,ty,pos,aft,g⟩ (.bool false):=D6 h1 h2 (by simp [oY,h])
theorem q_gt (h1:fM L x=some (.int k m)) (h2:fM L y=some (.int k n)) (h:n<m):fO C R H L ⟨dst,.binOp .gtr xT x y yT,ty,pos,aft,g⟩ (.bool true):=D6 h1 h2 (by simp [oY,h])
theorem aVi (h1:fM L x=some (.int k m)) (h2:fM L y=some (.int k n)) (h:m<=n):fO C R H L ⟨dst,.binOp .gtr xT x y yT,ty,pos,aft,g⟩ (.bool false):=D6 h1 h2 (by simp [oY,h])
theorem q_ge (h1:fM L x=some (.int k m)) (h2:fM L y=some (.int k n)) (h:n<=m):fO C R H L ⟨dst,.binOp .geq xT x y yT,ty,pos,aft,g⟩ (.bool true):=D6 h1 h2 (by simp [oY,h])
theorem aVj (h1:fM L x=some (.int k m)) (h2:fM L y=some (.int k n)) (h:m<n):fO C R H L ⟨dst,.binOp .geq xT x y yT,ty,pos,aft,g⟩ (.bool false):=D6 h1 h2 (by simp [oY,h])
theorem q_eq (h1:fM L x=some (.int k m)) (h2:fM L y=some (.int k n)) (h:m=n):fO C R H L ⟨dst,.binOp .eql xT x y yT,ty,pos,aft,g⟩ (.bool true):=D6 h1 h2 (by simp [oY,h])
theorem aVk (h1:fM L x=some (.int k m)) (h2:fM L y=some (.int k n)) (h:m≠n):fO C R H L ⟨dst,.binOp .eql xT x y yT,ty,pos,aft,g⟩ (.bool false):=D6 h1 h2 (by simp [oY,h])
theorem q_ne (h1:fM L x=some (.int k m)) (h2:fM L y=some (.int k n)) (h:m≠n):fO C R H L ⟨dst,.binOp .neq xT x y yT,ty,pos,aft,g⟩ (.bool true):=D6 h1 h2 (by simp [oY,h])
theorem aVl (h1:fM L x=some (.int k m)) (h2:fM L y=some (.int k n)) (h:m=n):fO C R H L ⟨dst,.binOp .neq xT x y yT,ty,pos,aft,g⟩ (.bool false):=D6 h1 h2 (by simp [oY,h])
theorem aVm {b:Bool} (h1:fM L x=some (.bool b)):fO C R H L ⟨dst,.unOp .not xT x,ty,pos,aft,g⟩ (.bool !b):=
  ⟨by intro c; simp,fun a w hx _=>by simp [execOp,hx x (by simp [Op.operands]) _ h1,Op.unary]⟩
theorem q_neg (h1:fM L x=some (.int .i64 m)) (hr:aEx (0-m)):fO C R H L ⟨dst,.unOp .neg xT x,ty,pos,aft,g⟩ (.int .i64 (-m)):=
  ⟨by intro c; simp,fun a w hx _=>by
    have h2:=pL hr
    simp only [Int.zero_sub] at h2
    simp [execOp,hx x (by simp [Op.operands]) _ h1,Op.unary,Op.intArith,h2]⟩
end
def lP (P:Program) (t:TypeId):Option Bool:=match P.underlying t with
  | some (.struct _)=>some true
  | some (.array _ _)=>some true
  | some _=>some false
  | none=>none
def szP (P:Program) (t:TypeId):Option Nat:=match P.info? t with
  | some i=>some i.size
  | none=>none
def kD (P:Program) (t:TypeId):Option Value:=match P.info? t with
  | some i=>i.zero
  | none=>none
def nC (P:Program) (t:TypeId):Option Nat:=match P.info? t with
  | some i=>some i.bytes
  | none=>none
def mT (P:Program) (t:TypeId):Option TypeId:=match P.underlying t with
  | some (.slice e)=>some e
  | _=>none
def aAi (P:Program) (t:TypeId):Option IntKind:=match P.underlying t with
  | some (.int k)=>some k
  | _=>none
def aN1 (P:Program) (s:TypeId) (f:Nat):Option Nat:=match P.underlying s with
  | some (.struct fs)=>match fs[f]? with
    | some fd=>match szP P fd.type with
      | some (_+1)=>some fd.offset
      | _=>none
    | none=>none
  | _=>none
theorem run_isAgg {P:Program} {t:TypeId} {b:Bool} (h:lP P t=some b) (w:World):(isAgg t).run P w=.ok b w:=by
  unfold lP at h
  cases hu:P.underlying t with
  | none=>simp [hu] at h
  | some d =>
    rw [hu] at h
    cases d <;> simp at h <;> subst h <;> simp [isAgg,run_underlying hu]
theorem run_sizeOf {P:Program} {t:TypeId} {n:Nat} (h:szP P t=some n) (w:World):(sizeOf t).run P w=.ok n w:=by
  unfold szP at h
  cases hu:P.info? t with
  | none=>simp [hu] at h
  | some d=>rw [hu] at h; simp at h; simp [sizeOf,typeInfo,hu,h]
theorem gI {P:Program} {t:TypeId} {v:Value} (h:kD P t=some v) (w:World):(zeroValue t).run P w=.ok v w:=by
  unfold kD at h
  cases hu:P.info? t with
  | none=>simp [hu] at h
  | some d=>rw [hu] at h; simp at h; simp [zeroValue,typeInfo,hu,h]
theorem jU {P:Program} {t e:TypeId} (h:mT P t=some e):P.underlying t=some (.slice e):=by
  unfold mT at h
  split at h
  · rename_i hu; simp at h; subst h; exact hu
  · simp at h
theorem aG7 {P:Program} {t:TypeId} {k:IntKind} (h:aAi P t=some k):P.underlying t=some (.int k):=by
  unfold aAi at h
  split at h
  · rename_i hu; simp at h; subst h; exact hu
  · simp at h
theorem FU {s d:TypeId} {x:Operand} {k k':IntKind} {n m:Int} (h:fM L x=some (.int k' n)) (hs:(C.P.underlying s).isSome=true) (hd:aAi C.P d=some k) (hm:k.wrap n=m) :
    fO C R H L ⟨dst,.convert s d x,ty,pos,aft,g⟩ (.int k m):=
  ⟨by intro c; simp,fun a w hx _=>by
    obtain ⟨u,hu⟩:=Option.isSome_iff_exists.1 hs
    simp [execOp,hx x (by simp [Op.operands]) _ h,convert,run_underlying hu,run_underlying (aG7 hd),Conv.intToInt,hm]⟩
theorem GW {x:Operand} {t e:TypeId} {b:Option Addr} {n c:Nat} (h:fM L x=some (.slice b n c)) (ht:mT C.P t=some e) :
    fO C R H L ⟨dst,.call ⟨.builtin .len,#[x],#[t]⟩,ty,pos,aft,g⟩ (.int .i64 (n:Int)):=
  ⟨by intro c; simp,fun a w hx _=>by
    simp [execOp,resolve,hx x (by simp [Op.operands,Call.operands]) _ h,invoke,builtin,Builtin.len_,run_underlying (jU ht),goInt]⟩
theorem q_min {x y:Operand} {t u:TypeId} {k:IntKind} {m n:Int} (h:fM L x=some (.int k m)) (h2:fM L y=some (.int k n)) :
    fO C R H L ⟨dst,.call ⟨.builtin .min,#[x,y],#[t,u]⟩,ty,pos,aft,g⟩ (.int k (min m n)):=
  ⟨by intro c; simp,fun a w hx _=>by
    have:(if n<m then n else m)=min m n:=by split <;> omega
    simp [execOp,resolve,hx x (by simp [Op.operands,Call.operands]) _ h,hx y (by simp [Op.operands,Call.operands]) _ h2,invoke,builtin,Builtin.min_,Builtin.min2,this]⟩
theorem aVn {x y:Operand} {t u:TypeId} {k:IntKind} {m n:Int} (h:fM L x=some (.int k m)) (h2:fM L y=some (.int k n)) :
    fO C R H L ⟨dst,.call ⟨.builtin .max,#[x,y],#[t,u]⟩,ty,pos,aft,g⟩ (.int k (max m n)):=
  ⟨by intro c; simp,fun a w hx _=>by
    have:(if m<n then n else m)=max m n:=by split <;> omega
    simp [execOp,resolve,hx x (by simp [Op.operands,Call.operands]) _ h,hx y (by simp [Op.operands,Call.operands]) _ h2,invoke,builtin,Builtin.max_,Builtin.max2,this]⟩
end
variable {C:Cx} {D:List Deferred} {R H:List PH} {L:Env} {K:List It}
variable {dst:Option Tmp} {ty:TypeId} {pos:String} {aft:Array Edge} {g:Option (Nat × Bool)}
def rdc (ρ:PH) (b o:Nat):Option Value:=match ρ b with
  | some (.cells c _ _)=>c[o]?
  | _=>none
theorem kE (b o:Nat) (c:Array Value) (t:TypeId) (fr:Nat × Nat):rdc (sng b (.cells c t fr)) b o=c[o]?:=by simp [rdc,sng]
theorem qS {ρ:PH} {w:World} {b o:Nat} {v:Value} (h:ρ.le w) (hv:rdc ρ b o=some v):w.cell? ⟨b,o,none⟩=some v:=by
  unfold rdc at hv
  cases hr:ρ b with
  | none=>simp [hr] at hv
  | some ob =>
    rw [hr] at hv
    have:=h b ob hr
    cases ob <;> simp at hv
    simp [World.cell?,this,hv]
def aG8 (N:Bs) (R H:List PH) (b o:Nat) (v:Value):Prop:=∀ w,Sat N R H w->w.cell? ⟨b,o,none⟩=some v
theorem aPx {N:Bs} {ρ:PH} {b o:Nat} {v:Value} (m:Mem ρ H) (h:rdc ρ b o=some v):aG8 N R H b o v:=fun _ hs=>qS (hs.h ρ m.mem) h
theorem aV9 {N:Bs} {ρ:PH} {b o:Nat} {v:Value} (m:Mem ρ R) (h:rdc ρ b o=some v):aG8 N R H b o v:=fun _ hs=>qS (hs.r ρ m.mem) h
theorem jV {N:Bs} {b o:Nat} {c:Array Value} {t:TypeId} {fr:Nat × Nat} {v:Value} (m:Mem (sng b (.cells c t fr)) H) (h:c[o]?=some v):aG8 N R H b o v:=
  aPx m (by rw [kE]; exact h)
theorem FV {x:Operand} {t:TypeId} {b o:Nat} {v:Value} (h:fM L x=some (.pointer (some ⟨b,o,none⟩))) (ht:lP C.P t=some false) (hc:aG8 C.N R H b o v) :
    fO C R H L ⟨dst,.load t x,ty,pos,aft,g⟩ v:=
  ⟨by intro c; simp,fun a w hx hs=>by
    simp [execOp,hx x (by simp [Op.operands]) _ h,Instr.loadAt,Instr.sureAddr,loadVar,run_isAgg ht,hc w hs]⟩
def mU (N:Bs) (R H:List PH) (b o:Nat) (vs:List Value):Prop:=∀ w,Sat N R H w->∀ j v,vs[j]?=some v->w.cell? ⟨b,o+j,none⟩=some v
theorem fR {N:Bs} {b:Nat} {vs:List Value} {t:TypeId} {fr:Nat × Nat} (m:Mem (sng b (.cells vs.toArray t fr)) H):mU N R H b 0 vs:=by
  intro w hs j v hv
  rw [bZ]
  exact jV (R:=R) (N:=N) m (by simpa using hv) w hs
theorem GX {x:Operand} {t:TypeId} {b o:Nat} {vs:List Value} (h:fM L x=some (.pointer (some ⟨b,o,none⟩))) (ht:lP C.P t=some true) (hn:szP C.P t=some vs.length) (hc:mU C.N R H b o vs) :
    fO C R H L ⟨dst,.load t x,ty,pos,aft,g⟩ (.agg vs.toArray):=
  ⟨by intro c; simp,fun a w hx hs=>by
    have hl:=run_loadCells_list (P:=C.P) (w:=w) ⟨b,o,none⟩ vs (fun j v hv=>by rw [Addr.add_lit]; exact hc w hs j v hv)
    simp [execOp,hx x (by simp [Op.operands]) _ h,Instr.loadAt,Instr.sureAddr,loadVar,run_isAgg ht,run_sizeOf hn,hl]⟩
theorem yD {P:Program} {s:TypeId} {f off:Nat} {b o:Nat} (h:aN1 P s f=some off) (w:World):(Instr.fieldAt s (.pointer (some ⟨b,o,none⟩)) f).run P w=.ok (.pointer (some ⟨b,o+off,none⟩)) w:=by
  unfold aN1 at h
  split at h
  · rename_i fs hu
    split at h
    · rename_i fd hfd
      split at h
      · rename_i n hn
        simp at h; subst h
        simp [Instr.fieldAt,run_underlying hu,hfd,Instr.sureAddr,fieldPlace,run_sizeOf hn,Addr.add]
      · simp at h
    · simp at h
  · simp at h
theorem GF {x:Operand} {s:TypeId} {f off:Nat} {b o:Nat} (h:fM L x=some (.pointer (some ⟨b,o,none⟩))) (hf:aN1 C.P s f=some off) :
    fO C R H L ⟨dst,.fieldAddr s x f,ty,pos,aft,g⟩ (.pointer (some ⟨b,o+off,none⟩)):=
  ⟨by intro c; simp,fun a w hx _=>by simp [execOp,hx x (by simp [Op.operands]) _ h,yD hf]⟩
theorem FW {x:Operand} {s:TypeId} {f off:Nat} {b:Nat} (h:fM L x=some (.pointer (some ⟨b,0,none⟩))) (hf:aN1 C.P s f=some off) :
    fO C R H L ⟨dst,.fieldAddr s x f,ty,pos,aft,g⟩ (.pointer (some ⟨b,off,none⟩)):=by
  have:=GF (C:=C) (R:=R) (H:=H) (dst:=dst) (ty:=ty) (pos:=pos) (aft:=aft) (g:=g) h hf
  rwa [bZ] at this
theorem aVo {x y:Operand} {t e:TypeId} {b o n c s:Nat} {k:IntKind} {i:Int} (h:fM L x=some (.slice (some ⟨b,o,none⟩) n c)) (h2:fM L y=some (.int k i)) (ht:mT C.P t=some e) (hs:szP C.P e=some s)
    (h0:0<=i) (hn:i<(n:Int)):fO C R H L ⟨dst,.indexAddr t x y,ty,pos,aft,g⟩ (.pointer (some ⟨b,o+i.toNat*s,none⟩)):=
  ⟨by intro c; simp,fun a w hx _=>by
    simp [execOp,hx x (by simp [Op.operands]) _ h,hx y (by simp [Op.operands]) _ h2,Instr.indexAt,asIntOf,run_underlying (jU ht),h0,hn,run_sizeOf hs,Addr.add]⟩
theorem GM {x y:Operand} {t e:TypeId} {b o n c:Nat} {k:IntKind} {i:Nat} (h:fM L x=some (.slice (some ⟨b,o,none⟩) n c)) (h2:fM L y=some (.int k (i:Int))) (ht:mT C.P t=some e) (hs:szP C.P e=some 1)
    (hn:i<n):fO C R H L ⟨dst,.indexAddr t x y,ty,pos,aft,g⟩ (.pointer (some ⟨b,o+i,none⟩)):=by
  have:=aVo (C:=C) (R:=R) (H:=H) (dst:=dst) (ty:=ty) (pos:=pos) (aft:=aft) (g:=g) h h2 ht hs (by omega) (by omega)
  simpa using this
theorem GN {x y:Operand} {t e:TypeId} {b o n c s:Nat} {k:IntKind} {i:Nat} (h:fM L x=some (.slice (some ⟨b,o,none⟩) n c)) (h2:fM L y=some (.int k (i:Int))) (ht:mT C.P t=some e) (hs:szP C.P e=some s)
    (hn:i<n):fO C R H L ⟨dst,.indexAddr t x y,ty,pos,aft,g⟩ (.pointer (some ⟨b,o+i*s,none⟩)):=by
  have:=aVo (C:=C) (R:=R) (H:=H) (dst:=dst) (ty:=ty) (pos:=pos) (aft:=aft) (g:=g) h h2 ht hs (by omega) (by omega)
  simpa using this
/-! #### new blocks,stores -/
theorem Sat.alloc {N:Bs} {w:World} (h:Sat N R H w) (o:Obj):Sat N R (sng w.heap.size o::H) (w.alloc o):=by
  have hn:∀ ρ:PH,ρ.le w->ρ.le (w.alloc o):=fun ρ hr b ob hb=>by
    have h1:=hr b ob hb
    rw [heap_alloc_old w o (hr.lt (by simp [hb]))]; exact h1
  have hd:∀ ρ:PH,ρ.le w->ρ.disj (sng w.heap.size o):=fun ρ hr b=>by
    by_cases e:ρ b=none
    · exact .inl e
    · right
      have:=hr.lt e
      simp [sng]; omega
  refine ⟨⟨by simp; have:=h.sz.1; omega,h.sz.2⟩,fun ρ hr=>hn ρ (h.r ρ hr),fun ρ hr=>?_,aW.2 ⟨fun ρ hr=>(hd ρ (h.h ρ hr)).symm,h.hd⟩,fun ρ hr σ hs=>?_⟩
  · simp at hr
    rcases hr with rfl|hr
    · intro b ob hb
      obtain ⟨rfl,rfl⟩:=oW hb
      exact heap_alloc_new w _
    · exact hn ρ (h.h ρ hr)
  · simp at hs
    rcases hs with rfl|hs
    · exact hd ρ (h.r ρ hr)
    · exact h.rd ρ hr σ hs
theorem iR {o:Oper} {a:Act} {w w':World} {v:Value} {next:Act->World->Prop} {Q:Exit->Act->World->Prop} (hnd:∀ c,o.op≠.defer c)
    (hr:(execOp a.eval o).run C.P w=.ok (.value v) w') (h:next (a.put o.dst v) w'):o.wpIn (gS C.r) 0 C.P a w next Q:=by
  refine ⟨fun _ _=>trivial,?_⟩
  rw [Oper.semAt_eq _ _ _ hnd,hr]; exact h
theorem pM {o:Oper} {a:Act} {w w':World} {next:Act->World->Prop} {Q:Exit->Act->World->Prop} (hnd:∀ c,o.op≠.defer c)
    (hr:(execOp a.eval o).run C.P w=.ok .skip w') (h:next (a.put o.dst undef) w'):o.wpIn (gS C.r) 0 C.P a w next Q:=by
  refine ⟨fun _ _=>trivial,?_⟩
  rw [Oper.semAt_eq _ _ _ hnd,hr]; exact h
theorem FX {t:TypeId} {z:Value} (hz:kD C.P t=some z) :
    iX C R H L ⟨dst,.alloc t,ty,pos,aft,g⟩ (fun v H'=>∃ b,v=.pointer (some ⟨b,0,none⟩)/\H'=sng b (.cells z.cells t (0,0))::H):=by
  refine ⟨fun a w hx hs next Q hn=>?_⟩
  refine iR (v:=.pointer (some ⟨w.heap.size,0,none⟩)) (w':=w.alloc (.cells z.cells t (0,0))) (by intro c; simp) ?_ (hn _ _ _ ⟨_,rfl,rfl⟩ (hs.alloc _))
  simp [execOp,Instr.alloc,gI hz,newVar,newRow,newObj]
  rfl
theorem aVp {t:TypeId} {x:Operand} {v:Value} (hv:fM L x=some v) :
    iX C R H L ⟨dst,.box t x,ty,pos,aft,g⟩ (fun u H'=>∃ b,u=.pointer (some ⟨b,0,none⟩)/\H'=sng b (.cells v.cells t (0,0))::H):=by
  refine ⟨fun a w hx hs next Q hn=>?_⟩
  refine iR (v:=.pointer (some ⟨w.heap.size,0,none⟩)) (w':=w.alloc (.cells v.cells t (0,0))) (by intro c; simp) ?_ (hn _ _ _ ⟨_,rfl,rfl⟩ (hs.alloc _))
  simp [execOp,Instr.box,hx x (by simp [Op.operands]) _ hv,newVar,newRow,newObj]
  rfl
theorem Sat.turn {N:Bs} {w w':World} {b:Nat} {o o':Obj} {H':List PH} (h:Sat N R H w) (t:gU (sng b o) H H') (hs:w'.heap.size=w.heap.size) (hb:w'.heap[b]?=some o') (ho:∀ k,k≠b->w'.heap[k]?=w.heap[k]?) (hio:w'.os=w.os/\w'.output=w.output/\w'.tape=w.tape/\w.drawn<=w'.drawn:=by exact ⟨rfl,rfl,rfl,aK _⟩):Sat N R (sng b o'::H') w':=by
  have h1:=h.take t
  have hd1:=aW.1 h1.hd
  have keep:∀ ρ:PH,ρ.disj (sng b o)->ρ.le w->ρ.le w':=fun ρ hd hr k ob hk=>by
    have hne:k≠b:=fun e=>by
      subst e
      rcases hd k with h2|h2
      · rw [h2] at hk; simp at hk
      · simp [jT] at h2
    rw [ho k hne]; exact hr k ob hk
  have dj:∀ ρ:PH,ρ.disj (sng b o)->ρ.disj (sng b o'):=fun ρ hd k=>by
    rcases hd k with h2|h2
    · exact .inl h2
    · right
      unfold sng at h2 ⊢
      split at h2
      · simp at h2
      · rename_i hk; rw [if_neg hk]
  refine ⟨by rw [hs,hio.1,hio.2.1,hio.2.2.1]; exact ⟨h.sz.1,h.sz.2.1,h.sz.2.2.1,h.sz.2.2.2.1,cT h.sz.2.2.2.2 hio.2.2.2⟩,fun ρ hr=>keep ρ (h1.rd ρ hr _ (by simp)) (h.r ρ hr),fun ρ hr=>?_,aW.2 ⟨fun ρ hr=>(dj ρ (hd1.1 ρ hr).symm).symm,hd1.2⟩,fun ρ hr σ hσ=>?_⟩
  · simp at hr
    rcases hr with rfl|hr
    · intro k ob hk
      obtain ⟨rfl,rfl⟩:=oW hk
      exact hb
    · exact keep ρ (hd1.1 ρ hr).symm (h.h ρ (t.sub ρ hr))
  · simp at hσ
    rcases hσ with rfl|hσ
    · exact dj ρ (h1.rd ρ hr _ (by simp))
    · exact h.rd ρ hr σ (t.sub σ hσ)
theorem Sat.own {N:Bs} {w:World} {b:Nat} {o:Obj} {H':List PH} (h:Sat N R H w) (t:gU (sng b o) H H'):w.heap[b]?=some o:=h.h _ t.mem b o (jT b o)
theorem GY {t T:TypeId} {x y:Operand} {b o:Nat} {c:Array Value} {v:Value} {H':List PH} (h:fM L x=some (.pointer (some ⟨b,o,none⟩))) (hv:fM L y=some v) (h1:v.oneCell'=true) (hn:szP C.P t=some 1)
    (ht:gU (sng b (.cells c T (0,0))) H H') (ho:o<c.size) :
    iX C R H L ⟨dst,.store t x y,ty,pos,aft,g⟩ (fun u H2=>u=undef/\H2=sng b (.cells (c.setIfInBounds o v) T (0,0))::H'):=by
  refine ⟨fun a w hx hs next Q hnx=>?_⟩
  have hg:=hs.own ht
  have hcell:w.cell? ⟨b,o,none⟩=some c[o]:=by simp [World.cell?,hg,ho]
  have hfr:=frozen_of_row w b o c T hg
  have hsz:v.cells = #[v]:=by cases v <;> first|rfl|simp [Value.oneCell'] at h1
  have e1:=hx x (by simp [Op.operands]) _ h
  have e2:=hx y (by simp [Op.operands]) _ hv
  refine pM (w':=w.setCell ⟨b,o,none⟩ v) (by intro c; simp) ?_ (hnx _ _ _ ⟨rfl,rfl⟩ (hs.turn ht ?_ ?_ ?_))
  · have hst:(store ⟨b,o,none⟩ v).run C.P w=.ok () (w.setCell ⟨b,o,none⟩ v):=by
      cases v <;> first|(simp [Value.oneCell'] at h1; done)|simp [store,Sem.run,hcell,hfr]
    simp [execOp,e1,e2,Instr.storeAt,Instr.sureAddr,storeVar,run_sizeOf hn,hsz,storeCells,hst,Addr.add]
  · simp [World.setCell]
  · exact heap_setCell_same w b o c T v hg
  · intro k hk; exact heap_setCell_other w ⟨b,o,none⟩ k v hk
theorem FH {t T:TypeId} {x y:Operand} {b o:Nat} {c:Array Value} {vs:List Value} {H':List PH} (h:fM L x=some (.pointer (some ⟨b,o,none⟩))) (hv:fM L y=some (.agg vs.toArray)) (h1:∀ v∈vs,v.oneCell'=true) (hn:szP C.P t=some vs.length)
    (ht:gU (sng b (.cells c T (0,0))) H H') (ho:o+vs.length<=c.size) :
    iX C R H L ⟨dst,.store t x y,ty,pos,aft,g⟩ (fun u H2=>u=undef/\H2=sng b (.cells (c.toList.take o ++ vs ++ c.toList.drop (o+vs.length)).toArray T (0,0))::H'):=by
  refine ⟨fun a w hx hs next Q hnx=>?_⟩
  have hg:=hs.own ht
  have e1:=hx x (by simp [Op.operands]) _ h
  have e2:=hx y (by simp [Op.operands]) _ hv
  have hst:=run_storeCells_at C.P b o T vs 0 c w hg (by simpa using ho) h1
  simp only [eO] at hst
  refine pM (w':=w.setRow b (c.toList.take o ++ vs ++ c.toList.drop (o+vs.length)).toArray) (by intro c; simp) ?_ (hnx _ _ _ ⟨rfl,rfl⟩ (hs.turn ht ?_ ?_ ?_))
  · simp [execOp,e1,e2,Instr.storeAt,Instr.sureAddr,storeVar,run_sizeOf hn,Value.cells,hst]
  · simp
  · exact setRow_heap w b c _ T _ hg
  · intro k hk; exact setRow_other w b k _ hk
/-! #### slices -/
def emp:PH:=fun _=>none
theorem B9 (h:JK C D R (emp::H) L K):JK C D R H L K:=
  ⟨fun a w hf hd hs=>h.run a w hf hd ⟨hs.sz,hs.r,fun ρ hr=>by
      simp at hr
      rcases hr with rfl|hr
      · intro b o hb; simp [emp] at hb
      · exact hs.h ρ hr,aW.2 ⟨fun _ _ _=>.inl rfl,hs.hd⟩,fun ρ hr σ hσ=>by
      simp at hσ
      rcases hσ with rfl|hσ
      · exact fun _=>.inr rfl
      · exact hs.rd ρ hr σ hσ⟩⟩
def qO (ρ:PH) (size:Nat) (v:Value) (n:Nat) (xs:List Value):Prop:=
  xs.length=n*size/\((n=0/\∃ p c,v=.slice p 0 c)\/∃ b o c,v=.slice (some ⟨b,o,none⟩) n c/\∀ j u,xs[j]?=some u->rdc ρ b (o+j)=some u)
def fS (e:TypeId) (size:Nat) (v:Value) (n:Nat) (xs:List Value) (ρ:PH):Prop:=
  xs.length=n*size/\((v=.slice none 0 0/\n=0/\ρ=emp) \/
    ∃ b cap cur,v=.slice (some ⟨b,0,none⟩) n cap/\ρ=sng b (.cells cur e (0,0))/\n<=cap/\cap<=maxLen/\cur.size=cap*size/\cur.toList.take (n*size)=xs)
theorem fS.nil (e:TypeId) (size:Nat):fS e size (.slice none 0 0) 0 [] emp:=⟨by simp,.inl ⟨rfl,rfl,rfl⟩⟩
theorem fS.at {e:TypeId} {size:Nat} {v:Value} {n:Nat} {xs:List Value} {ρ:PH} (h:fS e size v n xs ρ):qO ρ size v n xs:=by
  obtain ⟨hl,h|⟨b,cap,cur,rfl,rfl,h1,h2,h3,h4⟩⟩:=h
  · exact ⟨hl,.inl ⟨h.2.1,none,0,h.1⟩⟩
  · refine ⟨hl,.inr ⟨b,0,cap,rfl,fun j u hu=>?_⟩⟩
    rw [kE,bZ,← eL];rw [← h4] at hu
    have hj:j<n*size:=by
      have:=(aC.1 hu).1
      simp at this; omega
    rwa [cJ hj] at hu
theorem qO.cap {ρ:PH} {size:Nat} {v:Value} {n:Nat} {xs:List Value} (h:qO ρ size v n xs):∃ b c,v=.slice b n c:=by
  obtain ⟨hl,⟨rfl,p,c,rfl⟩|⟨b,o,c,rfl,_⟩⟩:=h
  · exact ⟨p,c,rfl⟩
  · exact ⟨_,c,rfl⟩
theorem qO.some {ρ:PH} {size:Nat} {v:Value} {n:Nat} {xs:List Value} (h:qO ρ size v n xs) (hn:0<n):∃ b o c,v=.slice (some ⟨b,o,none⟩) n c/\∀ j u,xs[j]?=some u->rdc ρ b (o+j)=some u:=by
  obtain ⟨_,⟨rfl,_⟩|h⟩:=h
  · omega
  · exact h
theorem nK {P:Program} {e:TypeId} {s by_:Nat} {z:Value} (hs:szP P e=some s) (hz:kD P e=some z) (hb:nC P e=some by_):∃ i,P.info? e=some i/\i.size=s/\i.zero=some z/\i.bytes=by_:=by
  unfold szP at hs; unfold kD at hz; unfold nC at hb
  cases hi:P.info? e with
  | none=>simp [hi] at hs
  | some i=>simp only [hi,aD] at hs hz hb; exact ⟨i,rfl,hs,hz,hb⟩
theorem Sat.drew {N:Bs} {w:World} (h:Sat N R H w):Sat N R H w.drew:=h.heap rfl rfl rfl rfl (Nat.le_succ _)
theorem mU.cell {N:Bs} {b o:Nat} {vs:List Value} {w:World} (h:mU N R H b o vs) (hs:Sat N R H w):∀ j v,vs[j]?=some v->w.cell? ((⟨b,o,none⟩:Addr).add j)=some v:=by
  intro j v hv
  rw [Addr.add_lit]; exact h w hs j v hv
theorem CA {x y:Operand} {t e:TypeId} {s by_:Nat} {z:Value} {v:Value} {n:Nat} {xs:List Value} {ρ:PH} {H':List PH} {b2 o2 m c2:Nat} {news:List Value}
    (hx:fM L x=some v) (hy:fM L y=some (.slice (some ⟨b2,o2,none⟩) m c2)) (ht:mT C.P t=some e) (hs:szP C.P e=some s) (hz:kD C.P e=some z) (hb:nC C.P e=some by_)
    (hzs:z.cells.size=s) (hown:fS e s v n xs ρ) (htk:gU ρ H H') (hnews:mU C.N R H' b2 o2 news) (hnl:news.length=m*s) (h1:∀ u∈news,u.oneCell'=true) (hm:0<m) (hmax:n+m<=maxLen) (hby:(n+m)*by_<=140737488355328) :
    iX C R H L ⟨dst,.call ⟨.builtin .append,#[x,y],#[t,t]⟩,ty,pos,aft,g⟩ (fun u H2=>∃ ρ',fS e s u (n+m) (xs ++ news) ρ'/\H2=ρ'::H'):=by
  refine ⟨fun a w hxx hsat next Q hnx=>?_⟩
  obtain ⟨i,hi,rfl,hiz,rfl⟩:=nK hs hz hb
  have htu:=jU ht
  have hsat':=(hsat.take htk).tail
  have hcells:=hnews.cell hsat'
  have e1:=hxx x (by simp [Op.operands,Call.operands]) _ hx
  have e2:=hxx y (by simp [Op.operands,Call.operands]) _ hy
  have hlen:(xs ++ news).length=(n+m)*i.size:=by rw [aB,hown.1,hnl,cZ]
  have h63:((n+m:Nat):Int)<=9223372036854775807:=by simp only [maxLen] at hmax; omega
  have hex:∀ (u:Value) (w':World),(Builtin.append_ #[t,t] ty #[v,.slice (some ⟨b2,o2,none⟩) m c2]).run C.P w=.ok u w' ->
      (execOp a.eval ⟨dst,.call ⟨.builtin .append,#[x,y],#[t,t]⟩,ty,pos,aft,g⟩).run C.P w=.ok (.value u) w':=by
    intro u w' hr
    simp [execOp,resolve,e1,e2,invoke,builtin,hr]
  have grown:∀ old,∀ (fx:Array Value),fx=(xs.toArray ++ news.toArray ++ Builtin.zeroCells z.cells (grownCap w (n+m) old e-(n+m))) ->
      fS e i.size (.slice (some ⟨w.heap.size,0,none⟩) (n+m) (grownCap w (n+m) old e)) (n+m) (xs ++ news) (sng w.heap.size (.cells fx e (0,0))):=by
    rintro old fx rfl
    have hge:=grownCap_ge w (n+m) old e
    have hcm:grownCap w (n+m) old e<=maxLen:=grownCap_le_maxLen w (n+m) old e hmax
    refine ⟨hlen,.inr ⟨w.heap.size,_,_,rfl,rfl,hge,hcm,?_,?_⟩⟩
    · simp only [Array.size_append,dN,size_zeroCells,hzs,hown.1,hnl,← cZ]
      congr 1
      omega
    · simp only [Array.toList_append,aR]
      rw [← aR,← hlen];exact List.take_left
  obtain ⟨hl,⟨rfl,rfl,rfl⟩|⟨b,cap,cur,rfl,rfl,h2,h3,h4,h5⟩⟩:=hown
  · have hxs:xs=[]:=dE (by simpa using hl)
    subst hxs;simp only [bZ,aH] at grown hby h63
    have hr:=run_append_nil (P:=C.P) w t ty e i z htu hi hiz ⟨b2,o2,none⟩ m c2 news hnl hcells hm h63 (by omega)
    refine iR (by intro c; simp) (hex _ _ hr) (hnx _ _ _ ⟨_,by simpa using grown 0 _ rfl,rfl⟩ ?_)
    have:=hsat'.drew.alloc (.cells (news.toArray ++ Builtin.zeroCells z.cells (grownCap w m 0 e-m)) e)
    simpa using this
  · have hg:w.heap[b]?=some (.cells cur e (0,0)):=hsat.own htk
    by_cases hroom:n+m<=cap
    · have hfit:n*i.size+news.length<=cur.size:=by rw [hnl,h4,← cZ]; exact dG _ hroom
      have hr:=run_append_room (P:=C.P) w t ty e i htu hi b n cap cur hg ⟨b2,o2,none⟩ m c2 news hnl hcells h1 hroom hfit
      refine iR (by intro c; simp) (hex _ _ hr) (hnx _ _ _ ⟨_,⟨hlen,.inr ⟨b,cap,_,rfl,rfl,hroom,h3,?_,?_⟩⟩,rfl⟩ (hsat.turn htk ?_ (setRow_heap w b cur _ e _ hg) (fun k hk=>setRow_other w b k _ hk)))
      · simp only [dN,aB,aL,cB,cI]
        omega
      · rw [h5,← hlen]
        exact List.take_left
      · simp
    · have holds:∀ j u,xs[j]?=some u->w.cell? ((⟨b,0,none⟩:Addr).add j)=some u:=by
        intro j u hu
        rw [Addr.add_lit,cell_of_row w b _ cur e (0,0) hg,bZ,← eL];rw [← h5] at hu
        have hj:j<n*i.size:=by
          have:=(aC.1 hu).1
          simp at this; omega
        rwa [cJ hj] at hu
      have hr:=run_append_grow (P:=C.P) w t ty e i z htu hi hiz ⟨b,0,none⟩ n cap xs hl holds ⟨b2,o2,none⟩ m c2 news hnl hcells (by omega) h63 (growslice_fits (by omega) hby)
      refine iR (by intro c; simp) (hex _ _ hr) (hnx _ _ _ ⟨_,grown cap _ rfl,rfl⟩ ?_)
      have:=hsat'.drew.alloc (.cells (xs.toArray ++ news.toArray ++ Builtin.zeroCells z.cells (grownCap w (n+m) cap e-(n+m))) e)
      simpa using this
def oZ (L:Env):Nat->List (Nat × Operand)->Option (List Value)
  | _,[]=>some []
  | k,(i,x)::ps=>match Nat.beq i k,fM L x,oZ L (k+1) ps with
    | true,some v,some vs=>some (v::vs)
    | _,_,_=>none
inductive iS:List Value->List Value->Prop
  | nil:iS [] []
  | one {v:Value} {vs cs:List Value}:v.oneCell'=true->iS vs cs->iS (v::vs) (v::cs)
  | agg {ws vs cs:List Value}:iS vs cs->iS (.agg ws.toArray::vs) (ws ++ cs)
theorem iS.agg2 {a b:Value} {vs cs:List Value} (h:iS vs cs):iS (.agg #[a,b]::vs) (a::b::cs):=iS.agg (ws:=[a,b]) h
theorem iS.agg4 {a b c d:Value} {vs cs:List Value} (h:iS vs cs):iS (.agg #[a,b,c,d]::vs) (a::b::c::d::cs):=iS.agg (ws:=[a,b,c,d]) h
theorem iS.agg5 {a b c d e:Value} {vs cs:List Value} (h:iS vs cs):iS (.agg #[a,b,c,d,e]::vs) (a::b::c::d::e::cs):=iS.agg (ws:=[a,b,c,d,e]) h
theorem iS.eq {vs cs:List Value} (h:iS vs cs):cs=vs.flatMap (fun v=>v.cells.toList):=by
  induction h with
  | nil=>rfl
  | @one v vs cs h1 _ ih =>
    have:v.cells = #[v]:=by cases v <;> first|rfl|simp [Value.oneCell'] at h1
    simp [this,ih]
  | agg _ ih=>simp [Value.cells,ih]
theorem qT:∀ (vs:List Value) (k off:Nat) (cells:Array Value),off+k+vs.length<=cells.size ->
    ((vs.zipIdx k).foldl (fun (cs:Array Value) (x:Value × Nat)=>cs.setIfInBounds (off+x.2) x.1) cells).toList=cells.toList.take (off+k) ++ vs ++ cells.toList.drop (off+k+vs.length):=by
  intro vs
  induction vs with
  | nil=>intro k off cells h; simp
  | cons v vs ih =>
    intro k off cells h
    simp only [aS] at h;rw [List.zipIdx_cons,eZ]
    rw [ih (k+1) off _ (by simp; omega)]
    simp only [Array.toList_setIfInBounds,aS]
    have hlt:off+k<cells.toList.length:=by simp; omega
    have h1:(cells.toList.set (off+k) v).take (off+(k+1))=cells.toList.take (off+k) ++ [v]:=by
      rw [show off+(k+1)=(off+k)+1 from by omega]
      rw [aV (by simpa using hlt)]
      rw [List.take_set_of_le (by omega)]
      simp
    have h2:(cells.toList.set (off+k) v).drop (off+(k+1)+vs.length)=cells.toList.drop (off+k+(vs.length+1)):=by
      rw [List.drop_set_of_lt (by omega)]
      congr 1; omega
    rw [h1,h2]
    simp
theorem aPy (s:Nat):∀ (vs:List Value) (k:Nat) (cells:Array Value),(∀ v∈vs,v.cells.size=s)->(k+vs.length)*s<=cells.size ->
    ∃ cs,Instr.fill (fun i=>some (i*s,s)) cells ((vs.zipIdx k).map (fun x=>(x.2,x.1)))=some cs /\
      cs.toList=cells.toList.take (k*s) ++ vs.flatMap (fun v=>v.cells.toList) ++ cells.toList.drop ((k+vs.length)*s):=by
  intro vs
  induction vs with
  | nil=>intro k cells _ _; exact ⟨cells,by simp [Instr.fill],by simp⟩
  | cons v vs ih =>
    intro k cells hv h
    have hvs:=hv v (by simp)
    have hks:k*s+s<=cells.size:=by
      have:(k+1)*s<=(k+(v::vs).length)*s:=dG s (by simp)
      rw [cZ,Nat.one_mul] at this;omega
    simp only [List.zipIdx_cons,dK];unfold Instr.fill;simp only [hvs,ne_eq,not_true_eq_false,decide_false,Bool.false_or,decide_eq_true_eq]
    rw [if_neg (by omega)]
    let cells':Array Value:=v.cells.zipIdx.foldl (fun (cs:Array Value) (x:Value × Nat)=>cs.setIfInBounds (k*s+x.2) x.1) cells
    have hc':cells'.toList=cells.toList.take (k*s) ++ v.cells.toList ++ cells.toList.drop (k*s+s):=by
      have:=qT v.cells.toList 0 (k*s) cells (by simp [hvs]; omega)
      simp only [eO,cI,hvs] at this;rw [← this];simp only [cells',← Array.foldl_toList,Array.toList_zipIdx]
    have hsz:cells'.size=cells.size:=by
      rw [← cI,hc']; simp [hvs]; omega
    obtain ⟨cs,h1,h2⟩:=ih (k+1) cells' (fun u hu=>hv u (by simp [hu])) (by
      rw [hsz,show k+1+vs.length=k+(v::vs).length from by simp; omega]; exact h)
    refine ⟨cs,h1,?_⟩;rw [h2,hc']
    have e1:(k+1)*s=k*s+s:=by rw [cZ,Nat.one_mul]
    have e2:(k+1+vs.length)*s=(k+(v::vs).length)*s:=by congr 1; simp; omega
    have e3:(k+(v::vs).length)*s=k*s+s+vs.length*s:=by simp [cZ]; omega
    have l1:(cells.toList.take (k*s) ++ v.cells.toList).length=k*s+s:=by simp [hvs]; omega
    rw [e1,e2,e3,List.take_left' l1]
    rw [List.drop_append,cE (by rw [l1]; omega),l1,aH,List.drop_drop]
    simp only [cU,aR]
    congr 4
    omega
theorem aEy {L:Env} {a:Act}:∀ {ps:List (Nat × Operand)} {k:Nat} {vs:List Value},oZ L k ps=some vs->(∀ x∈ps.map (·.2),OnE L a x)->ps.map (fun (x:Nat × Operand)=>(x.1,a.eval x.2))=(vs.zipIdx k).map (fun x=>(x.2,x.1)):=by
  intro ps
  induction ps with
  | nil=>intro k vs h _; simp [oZ] at h; subst h; rfl
  | cons p ps ih =>
    obtain ⟨i,x⟩:=p
    intro k vs h hx
    unfold oZ at h
    split at h
    · rename_i v us hb he hr
      simp at h; subst h
      have:=aO hb
      subst this;simp only [dK,List.zipIdx_cons]
      rw [ih hr (fun y hy=>hx y (by simp at hy ⊢; exact .inr hy)),hx x (by simp) v he]
    · simp at h
theorem CL {t e:TypeId} {n s:Nat} {ps:List (Nat × Operand)} {z:Value} {vs cs:List Value} (hp:oZ L 0 ps=some vs) (ht:mT C.P t=some e) (hs:szP C.P e=some s) (hz:kD C.P e=some z) (hn:vs.length=n) (hsz:∀ v∈vs,v.cells.size=s)
    (hf:iS vs cs) (hb:Nat.ble (n*s) 16777216=true) :
    iX C R H L ⟨dst,.buildSlice t n ps.toArray,ty,pos,aft,g⟩ (fun u H2=>∃ b,u=.slice (some ⟨b,0,none⟩) n n/\H2=sng b (.cells cs.toArray e (0,0))::H):=by
  refine ⟨fun a w hxx hsat next Q hnx=>?_⟩
  subst hn
  have hb':=aT hb
  have hpe:=aEy (a:=a) hp (fun x hx=>hxx x (by simp [Op.operands] at hx ⊢; exact hx))
  obtain ⟨cells,h1,h2⟩:=aPy s vs 0 (madeCells z.cells (vs.length*s)) hsz (by simp [size_madeCells])
  have hcs:cells=cs.toArray:=by
    apply Array.ext'
    rw [h2,hf.eq];simp only [Nat.zero_mul,List.take_zero,aH,bZ]
    rw [cE (by simp [size_madeCells])]
    simp
  subst hcs
  refine iR (v:=.slice (some ⟨w.heap.size,0,none⟩) vs.length vs.length) (w':=w.alloc (.cells cs.toArray e (0,0))) (by intro c; simp) ?_ (hnx _ _ _ ⟨_,rfl,rfl⟩ (hsat.alloc _))
  by_cases h0:vs.length*s=0
  · have hz0:madeCells z.cells (vs.length*s) = #[]:=by rw [h0]; simp [madeCells]
    rw [hz0] at h1;simp only [execOp,Instr.buildSlice]
    have hz1:(Array.range 0:Array Nat) = #[]:=rfl
    simp [run_underlying (jU ht),run_sizeOf hs,h0,newRow,hz1]
    simp [hpe,h1]
  · simp only [execOp,Instr.buildSlice]
    simp only [madeCells] at h1
    simp [run_underlying (jU ht),run_sizeOf hs,gI hz,h0,dJ.2 hb',newRow]
    simp [hpe,h1]
def aAj (P:Program) (t:TypeId):Option (List Value):=match P.underlying t with
  | some (.struct fs)=>match (fs.toList.zipIdx.all fun f=>f.1.offset == f.2 && szP P f.1.type == some 1),kD P t with
    | true,some (.agg cs)=>if cs.size == fs.size then some cs.toList else none
    | _,_=>none
  | _=>none
def kP:List (Nat × Operand)->Nat->Option Operand
  | [],_=>none
  | (i,x)::ps,k=>match Nat.beq i k with
    | true=>some x
    | false=>kP ps k
def uN (n:Nat):List (Nat × Operand)->Bool
  | []=>true
  | (i,_)::ps=>Nat.blt i n && (kP ps i).isNone && uN n ps
inductive Bld (L:Env) (ps:List (Nat × Operand)):Nat->List Value->List Value->Prop
  | nil {k:Nat}:Bld L ps k [] []
  | put {k:Nat} {z v:Value} {zs vs:List Value} {x:Operand}:kP ps k=some x->fM L x=some v->v.oneCell'=true->Bld L ps (k+1) zs vs->Bld L ps k (z::zs) (v::vs)
  | keep {k:Nat} {z:Value} {zs vs:List Value}:kP ps k=none->Bld L ps (k+1) zs vs->Bld L ps k (z::zs) (z::vs)
theorem Bld.get {L:Env} {ps:List (Nat × Operand)} {k:Nat} {zs vs:List Value} (h:Bld L ps k zs vs):vs.length=zs.length/\∀ j,j<zs.length->(∃ x v,kP ps (k+j)=some x/\fM L x=some v/\v.oneCell'=true/\vs[j]?=some v)\/(kP ps (k+j)=none/\vs[j]?=zs[j]?):=by
  induction h with
  | nil=>exact ⟨rfl,fun j hj=>by simp at hj⟩
  | @put k z v zs vs x h1 h2 h3 _ ih =>
    refine ⟨by simp [ih.1],fun j hj=>?_⟩
    cases j with
    | zero=>exact .inl ⟨x,v,h1,h2,h3,by simp⟩
    | succ j =>
      have:=ih.2 j (by simp at hj; omega)
      rw [show k+(j+1)=k+1+j from by omega]
      simpa using this
  | @keep k z zs vs h1 _ ih =>
    refine ⟨by simp [ih.1],fun j hj=>?_⟩
    cases j with
    | zero=>exact .inr ⟨h1,by simp⟩
    | succ j =>
      have:=ih.2 j (by simp at hj; omega)
      rw [show k+(j+1)=k+1+j from by omega]
      simpa using this
theorem aDn:∀ {ps:List (Nat × Operand)} {k:Nat} {x:Operand},kP ps k=some x->x∈ps.map (·.2):=by
  intro ps
  induction ps with
  | nil=>intro k x h; simp [kP] at h
  | cons p ps ih =>
    obtain ⟨i,y⟩:=p
    intro k x h
    simp only [kP] at h
    split at h
    · simp at h; subst h; simp
    · have:=ih h; simp only [dK,aE]; exact .inr this
theorem aN2 (n:Nat) (a:Act):∀ (ps:List (Nat × Operand)) (cells:Array Value),cells.size=n->uN n ps=true->(∀ k x,kP ps k=some x->(a.eval x).oneCell'=true) ->
    ∃ cs,Instr.fill (fun i=>if i<n then some (i,1) else none) cells (ps.map fun (x:Nat × Operand)=>(x.1,a.eval x.2))=some cs/\cs.size=n /\
      ∀ j,cs[j]?=match kP ps j with|some x=>(if j<n then some (a.eval x) else none)|none=>cells[j]?:=by
  intro ps
  induction ps with
  | nil=>intro cells hc _ _; exact ⟨cells,by simp [Instr.fill],hc,fun j=>by simp [kP]⟩
  | cons p ps ih =>
    obtain ⟨i,x⟩:=p
    intro cells hc hok h1
    simp only [uN,aJ,Option.isNone_iff_eq_none] at hok
    obtain ⟨⟨hi,hno⟩,hok⟩:=hok
    have hi:i<n:=aT hi
    have hx1:(a.eval x).oneCell'=true:=h1 i x (by simp [kP,eN])
    have hcell:(a.eval x).cells = #[a.eval x]:=by cases hv:a.eval x <;> first|rfl|simp [hv,Value.oneCell'] at hx1
    have h1':∀ k y,kP ps k=some y->(a.eval y).oneCell'=true:=fun k y hk=>h1 k y (by
      simp only [kP]
      cases hb:Nat.beq i k with
      | true =>
        have:=aO hb; subst this
        rw [hno] at hk; simp at hk
      | false=>exact hk)
    obtain ⟨cs,e1,e2,e3⟩:=ih (cells.setIfInBounds i (a.eval x)) (by simp [hc]) hok h1'
    refine ⟨cs,?_,e2,fun j=>?_⟩
    · simp only [dK]
      unfold Instr.fill;simp only [hi,if_true,hcell];simp only [dN,aS,cW,bZ,ne_eq,not_true_eq_false,decide_false,Bool.false_or,decide_eq_true_eq]
      rw [if_neg (by omega)]
      simpa using e1
    · rw [e3 j]
      simp only [kP]
      cases hb:Nat.beq i j with
      | true =>
        have:=aO hb; subst this
        simp [hno,hc,hi]
      | false =>
        have hne:i≠j:=fun e=>by subst e; simp [eN] at hb
        simp [hne]
theorem aG9 {P:Program}:∀ (fs:List Field) (k:Nat) (w:World),(fs.zipIdx k).all (fun f=>f.1.offset == f.2 && szP P f.1.type == some 1)=true ->
    (fs.mapM (fun f=>Prod.mk f.offset <$> sizeOf f.type:Field->Sem (Nat × Nat))).run P w=.ok ((List.range' k fs.length).map (fun i=>(i,1))) w:=by
  intro fs
  induction fs with
  | nil=>intro k w _; simp
  | cons f fs ih =>
    intro k w h
    simp only [List.zipIdx_cons,List.all_cons,aJ,beq_iff_eq] at h
    obtain ⟨⟨h1,h2⟩,h3⟩:=h
    have:=ih (k+1) w h3
    simp [fG,run_sizeOf h2,this,h1,List.range'_succ]
theorem FY {t:TypeId} {ps:List (Nat × Operand)} {zs vs:List Value} (hf:aAj C.P t=some zs) (hok:uN zs.length ps=true) (hb:Bld L ps 0 zs vs) :
    fO C R H L ⟨dst,.build t ps.toArray,ty,pos,aft,g⟩ (.agg vs.toArray):=
  ⟨by intro c; simp,fun a w hxx _=>by
    unfold aAj at hf
    split at hf
    · rename_i fs hu
      split at hf
      · rename_i cs hall hz
        split at hf
        · rename_i hsize
          simp only [aD] at hf;subst hf;simp only [beq_iff_eq] at hsize
          have hg:=hb.get
          have h1:∀ k x,kP ps k=some x->(a.eval x).oneCell'=true:=by
            intro k x hk
            have hkn:k<cs.toList.length:=by
              clear hg hb
              revert hk hok
              generalize cs.toList.length=n
              clear hxx
              induction ps with
              | nil=>intro _ hk; simp [kP] at hk
              | cons p ps ih =>
                obtain ⟨i,y⟩:=p
                intro hok hk
                simp only [uN,aJ] at hok;simp only [kP] at hk
                cases hb:Nat.beq i k with
                | true=>have:=aO hb; subst this; exact aT hok.1.1
                | false=>rw [hb] at hk; exact ih hok.2 hk
            rcases hg.2 k hkn with ⟨y,v,h2,h3,h4,_⟩|⟨h2,_⟩
            · rw [bZ,hk] at h2
              simp only [aD] at h2; subst h2
              rw [hxx x (by have:=aDn hk; simp only [Op.operands]; simpa using this) v h3]; exact h4
            · rw [bZ,hk] at h2; simp at h2
          obtain ⟨cs',e1,e2,e3⟩:=aN2 cs.size a ps cs rfl (by simpa using hok) h1
          have hcs:cs'=vs.toArray:=by
            apply Array.ext_getElem?
            intro j
            rw [e3 j]
            have hl:=hg.1
            by_cases hj:j<cs.toList.length
            · rcases hg.2 j hj with ⟨y,v,h2,h3,h4,h5⟩|⟨h2,h5⟩
              · rw [bZ] at h2
                rw [h2];simp only
                rw [if_pos (by simpa using hj),hxx y (by have:=aDn h2; simp only [Op.operands]; simpa using this) v h3]
                simp [h5]
              · rw [bZ] at h2
                rw [h2];simp only
                simp [h5]
            · have hno:kP ps j=none\/∃ x,kP ps j=some x:=by cases kP ps j <;> simp
              have hge:cs.size<=j:=by simp at hj; omega
              rw [show vs.toArray[j]?=none from by simp at hl ⊢; omega]
              rcases hno with h|⟨x,h⟩
              · rw [h]; simp; omega
              · rw [h]; simp only; rw [if_neg (by omega)]
          subst hcs
          have hplaces:=aG9 (P:=C.P) fs.toList 0 w hall
          have hmm:(fs.mapM (fun f=>Prod.mk f.offset <$> sizeOf f.type:Field->Sem (Nat × Nat))).run C.P w=.ok ((List.range' 0 fs.toList.length).map (fun i=>(i,1))).toArray w:=by
            rw [Array.mapM_eq_mapM_toList]
            simp [hplaces]
          have hfill:Instr.fill (fun i=>(((List.range' 0 fs.toList.length).map (fun i=>(i,1))).toArray)[i]?) cs (ps.map fun (x:Nat × Operand)=>(x.1,a.eval x.2))=some vs.toArray:=by
            rw [← e1]
            congr 1
            funext i
            simp only [dQ,aY,cI]
            by_cases hi:i<fs.size
            · rw [List.getElem?_range' (by simpa using hi),if_pos (by omega)]; simp
            · rw [eE (by simpa using dJ.1 hi),if_neg (by omega)]; rfl
          simp only [execOp,Instr.build];simp only [cI,dQ,aY] at hmm hfill
          simp [gI hz,Value.cells,run_underlying hu,hmm,hfill]
        · simp at hf
      · simp at hf
    · simp at hf⟩
/-! #### cuts of slices -/
section
variable {t e:TypeId} {x y z:Operand} {b o n c s:Nat} {k k2:IntKind} {i j:Nat}
end
end Go.Eng
