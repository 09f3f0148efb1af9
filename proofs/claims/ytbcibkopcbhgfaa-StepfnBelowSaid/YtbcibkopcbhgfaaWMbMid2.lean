/- Where the ways of a test meet behind it: the test's region and the test. No conditions. -/
import Derived.Test.YtbcibkopcbhgfaaWMbMarks
set_option linter.all false
namespace Go.Eng
variable {C : Cx} {D : List Deferred} {R H : List PH} {L : Env} {K : List It}
theorem jk_mid2 {X : Type} {r x : Code} {Lk : Env} (keep : List Nat) (Inv : X → Prop) (Lx : X → Env) (Hx : X → List PH) (_hk : Pick L keep Lk)
    (first : JK C D R H L (.code r :: .code x :: .till (MidI C D R Inv (fun z => Lx z ++ Lk) Hx) :: K))
    (rest : ∀ z, Inv z → JK C D R (Hx z) (Lx z ++ Lk) K) : JK C D R H L (.code r :: .code x :: K) := by
  refine ⟨fun a w hf hd hs => wpIn_mono (first.run a w hf hd hs) (fun e a' w' hq => ?_)⟩
  cases e with
  | normal =>
    refine wpIn_mono (show x.wpIn (wideR C.r) 0 C.P (wpK C (.till (MidI C D R Inv (fun z => Lx z ++ Lk) Hx) :: K)) a' w' from hq) (fun e2 a2 w2 hq2 => ?_)
    cases e2 with
    | normal =>
      obtain ⟨z, h1, h3, h4, h5⟩ := hq2
      exact (rest z h1).run a2 w2 h3 h4 h5
    | _ => exact hq2
  | _ => exact hq
theorem jk_midB {X : Type} {c : Code} {id : Nat} {Lk : Env} (keep : List Nat) (Inv : X → Prop) (Lx : X → Env) (Hx : X → List PH) (_hk : Pick L keep Lk)
    (first : JK C D R H L (.code c :: .blk id :: .till (MidI C D R Inv (fun z => Lx z ++ Lk) Hx) :: K))
    (rest : ∀ z, Inv z → JK C D R (Hx z) (Lx z ++ Lk) K) : JK C D R H L (.code c :: .blk id :: K) := by
  refine ⟨fun a w hf hd hs => wpIn_mono (first.run a w hf hd hs) (fun e a' w' hq => ?_)⟩
  have key : MidI C D R Inv (fun z => Lx z ++ Lk) Hx a' w' → wpK C K .normal a' w' := by
    rintro ⟨z, h1, h3, h4, h5⟩
    exact (rest z h1).run a' w' h3 h4 h5
  cases e with
  | normal => exact key hq
  | exit id' =>
    simp only [wpK] at hq ⊢
    split
    · rename_i he
      rw [if_pos he] at hq
      exact key hq
    · rename_i he
      rw [if_neg he] at hq
      exact hq
  | _ => exact hq
theorem jk_until {X : Type} {r x y : Code} {Lk : Env} (keep : List Nat) (Inv : X → Prop) (Lx : X → Env) (Hx : X → List PH) (_hk : Pick L keep Lk)
    (first : JK C D R H L (.code r :: .code x :: .till (MidI C D R Inv (fun z => Lx z ++ Lk) Hx) :: .code y :: K))
    (rest : ∀ z, Inv z → JK C D R (Hx z) (Lx z ++ Lk) (.code y :: K)) : JK C D R H L (.code (.seq r (.seq x y)) :: K) := by
  refine ⟨fun a w hf hd hs => wpIn_seq (wpIn_mono (first.run a w hf hd hs) (fun e a' w' hq => ?_))⟩
  cases e with
  | normal =>
    refine wpIn_seq (wpIn_mono (show x.wpIn (wideR C.r) 0 C.P (wpK C (.till (MidI C D R Inv (fun z => Lx z ++ Lk) Hx) :: .code y :: K)) a' w' from hq) (fun e2 a2 w2 hq2 => ?_))
    cases e2 with
    | normal =>
      obtain ⟨z, h1, h3, h4, h5⟩ := hq2
      exact (rest z h1).run a2 w2 h3 h4 h5
    | _ => exact hq2
  | _ => exact hq
end Go.Eng
