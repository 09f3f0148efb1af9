/- Texts of this proof, one after the other; no conditions. -/
import Derived.Test.YtjehnjhkcmobcaaGreatWB6
import Derived.Test.YtjehnjhkcmobcaaGreatWB5
import Derived.Test.YtjehnjhkcmobcaaGreatWB1
set_option linter.all false
/- Flows of time-expanded networks, and stocks. No program in sight. No conditions. -/
namespace Go.Step
open Go.Flow (Flw fval netB netB_eq inCap sumTo sumTo_zero sumTo_one okArc_iff)
def zsum (f : EA → Int → Int) : List EA → List Int → Int
  | x :: L, y :: fl => f x y + zsum f L fl
  | _, _ => 0
theorem zsum_congr {f g : EA → Int → Int} : ∀ {L : List EA} {fl : List Int}, (∀ x ∈ L, ∀ y ∈ fl, f x y = g x y) → zsum f L fl = zsum g L fl
  | [], _, _ => by simp [zsum]
  | _ :: _, [], _ => by simp [zsum]
  | x :: L, y :: fl, h => by
    simp only [zsum]
    rw [h x (by simp) y (by simp), zsum_congr (fun a ha b hb => h a (by simp [ha]) b (by simp [hb]))]
theorem zsum_sub (f g : EA → Int → Int) : ∀ (L : List EA) (fl : List Int), zsum (fun x y => f x y - g x y) L fl = zsum f L fl - zsum g L fl
  | [], _ => by simp [zsum]
  | _ :: _, [] => by simp [zsum]
  | x :: L, y :: fl => by simp only [zsum]; rw [zsum_sub f g L fl]; omega
theorem netB_zsum (B : Nat → Bool) : ∀ (L : List EA) (fl : List Int), netB B (L.map (fun x => x.a)) fl = zsum (fun x y => (if B x.a.f.toNat = true then y else 0) - (if B x.a.t.toNat = true then y else 0)) L fl
  | [], _ => by simp [zsum, netB]
  | _ :: _, [] => by simp [zsum, netB]
  | x :: L, y :: fl => by simp only [List.map_cons, zsum, netB]; rw [netB_zsum B L fl]
theorem zsum_le {f : EA → Int → Int} {g : EA → Int} : ∀ {L : List EA} {fl : List Int}, inCap (L.map (fun x => x.a)) fl = true → (∀ x ∈ L, ∀ y, 0 ≤ y → y ≤ x.a.c → 0 ≤ f x y ∧ f x y ≤ g x) → (∀ x ∈ L, 0 ≤ g x) → 0 ≤ zsum f L fl ∧ zsum f L fl ≤ lsum g L
  | [], _, _, _, _ => by simp [zsum, lsum]
  | x :: L, [], _, _, hg => by
    have : ∀ (L : List EA), (∀ x ∈ L, 0 ≤ g x) → 0 ≤ lsum g L := by
      intro L
      induction L with
      | nil => intro _; simp [lsum]
      | cons x L ih => intro h; have := h x (by simp); have := ih (fun y hy => h y (by simp [hy])); simp only [lsum]; omega
    simp only [zsum];exact ⟨Int.le_refl _, this _ hg⟩
  | x :: L, y :: fl, hc, h, hg => by
    simp only [List.map_cons, inCap, Bool.and_eq_true, decide_eq_true_eq] at hc
    have ih := zsum_le hc.2 (fun a ha => h a (by simp [ha])) (fun a ha => hg a (by simp [ha]))
    have := h x (by simp) y hc.1.1 hc.1.2
    simp only [zsum, lsum];omega
def shipsF : List EA → List Int → List Sh
  | x :: L, y :: fl => (if 0 ≤ x.c ∧ 0 < y then [⟨x.c, x.t, y⟩] else []) ++ shipsF L fl
  | _, _ => []
theorem stk1_zero (cs : List Ct) (d : Dm) (n t : Int) (c u : Int) : stk1 cs d n t ⟨c, u, 0⟩ = 0 := by
  unfold stk1
  split <;> simp
theorem stock_ships (cs : List Ct) (d : Dm) (n t : Int) : ∀ {L : List EA} {fl : List Int}, (∀ y ∈ fl, 0 ≤ y) → stock cs d n t (shipsF L fl) = zsum (fun x y => if 0 ≤ x.c then stk1 cs d n t ⟨x.c, x.t, y⟩ else 0) L fl
  | [], _, _ => by simp [zsum, shipsF, stock]
  | _ :: _, [], _ => by simp [zsum, shipsF, stock]
  | x :: L, y :: fl, h => by
    have ih := stock_ships cs d n t (L := L) (fl := fl) (fun z hz => h z (by simp [hz]))
    have hy := h y (by simp)
    simp only [zsum, shipsF];rw [stock_append, ih]
    congr 1
    by_cases hx : 0 ≤ x.c
    · rw [if_pos hx]
      by_cases h0 : 0 < y
      · rw [if_pos ⟨hx, h0⟩]; simp [stock]
      · obtain rfl : y = 0 := by omega
        rw [if_neg (fun h => h0 h.2), stk1_zero]; rfl
    · rw [if_neg hx, if_neg (fun h => hx h.1)]; rfl
def waitF (d : Dm) (n t : Int) (L : List EA) (fl : List Int) : Int := zsum (fun x y => if x.c = -1 ∧ x.a.f = vtx d n t then y else 0) L fl
section
variable {qs : List Int} {cs : List Ct} {bs : List Bk} {hs : List Hd} {d : Dm}
theorem inCap_nonneg : ∀ {l : List Arc} {fl : List Int}, inCap l fl = true → l.length = fl.length → ∀ y ∈ fl, 0 ≤ y
  | [], [], _, _, y, hy => by simp at hy
  | [], _ :: _, _, h, _, _ => by simp at h
  | _ :: _, [], _, h, _, _ => by simp at h
  | a :: l, x :: fl, hc, hl, y, hy => by
    simp only [inCap, Bool.and_eq_true, decide_eq_true_eq] at hc
    rcases List.mem_cons.1 hy with rfl | hy
    · exact hc.1.1
    · exact inCap_nonneg hc.2 (by simpa using hl) y hy
def bq (d : Dm) (P : Int → Int → Bool) (v : Nat) : Bool := P ((v : Int) / wd d) (d.r + (v : Int) % wd d)
theorem bq_vtx {d : Dm} {P : Int → Int → Bool} {n t : Int} (h0 : 0 ≤ n) (h1 : d.r ≤ t) (h2 : t ≤ d.e) : bq d P (vtx d n t).toNat = P n t := by
  have hp : 0 ≤ vtx d n t := by
    unfold vtx
    have := Int.mul_nonneg h0 (show 0 ≤ wd d by unfold wd; omega)
    omega
  unfold bq;rw [Int.toNat_of_nonneg hp, vtx_div h1 h2, vtx_mod h1 h2]
  congr 1
  omega
theorem ctOf_get {cs : List Ct} {i : Nat} {c : Ct} (h : cs[i]? = some c) (t n : Int) : ctOf cs ⟨i, t, n⟩ = c := by
  unfold ctOf;rw [Int.toNat_natCast, List.getD_eq_getElem?_getD, h]; rfl
theorem net_P (h : VOk qs cs bs hs d) (P : Int → Int → Bool) (F : EA → Int → Int) (fl : List Int)
    (hw : ∀ (n : Nat) (t y : Int), n < qs.length → d.r ≤ t → t < d.e → F ⟨⟨vtx d n t, vtx d n (t + 1), roomT qs hs d n t⟩, -1, t⟩ y = (if P n t = true then y else 0) - (if P n (t + 1) = true then y else 0))
    (hc : ∀ (i : Nat) (c : Ct) (t y : Int), cs[i]? = some c → d.r ≤ t → t + 1 + c.g ≤ d.e → F (conE d c i t) y = (if P c.f t = true then y else 0) - (if P c.t (t + 1 + c.g) = true then y else 0)) :
    netB (bq d P) (arcsG qs cs bs hs d) fl = zsum F (arcsE qs cs bs hs d) fl := by
  unfold arcsG;rw [netB_zsum]
  refine zsum_congr (fun x hx y _ => ?_)
  cases h.arc.1 hx with
  | @wait n t h1 h2 h3 =>
    rw [hw n t y h1 h2 h3, bq_vtx (by omega) h2 (by omega), bq_vtx (by omega) (by omega) (by omega)]
  | @con i c t hc' h1 h2 h3 h4 h5 =>
    have k := h.ct c (List.mem_of_getElem? hc')
    rw [hc i c t y hc' h1 h4];unfold conE
    dsimp only
    rw [bq_vtx k.1.1 h1 (by omega), bq_vtx k.2.1.1 (by omega) h4]
theorem stock_wait (h : VOk qs cs bs hs d) {fl : List Int} {N S T : Nat} (hN : vsN qs d = N) (hS : vtx d d.s d.r = S) (hT : vtx d d.d d.e = T) (hf : Flw N (arcsG qs cs bs hs d) S T fl) {n : Nat} {t : Int} (h1 : d.r ≤ t) (h2 : t ≤ d.e) :
    stock cs d n t (shipsF (arcsE qs cs bs hs d) fl) = waitF d n t (arcsE qs cs bs hs d) fl + (if (n : Int) = d.d ∧ t = d.e then -(fval T (arcsG qs cs bs hs d) fl) else 0) := by
  have hpos := inCap_nonneg hf.cap hf.len
  rw [stock_ships cs d n t hpos]
  have hdm := h.dm
  unfold okDm at hdm
  have hok := h.ok
  rw [hN] at hok
  have hvd : ∀ v : Nat, v < N → (0 ≤ (v : Int) / wd d) ∧ d.r ≤ d.r + (v : Int) % wd d ∧ d.r + (v : Int) % wd d ≤ d.e ∧ vtx d ((v : Int) / wd d) (d.r + (v : Int) % wd d) = v := fun v hv => by
    have hw := h.wd
    have := vtx_of (d := d) (v := (v : Int)) (N := qs.length) (by omega) (by omega) (by rw [show (qs.length : Int) * wd d = vsN qs d from rfl, hN]; omega)
    exact ⟨this.1.1, this.2.1.1, this.2.1.2, this.2.2⟩
  have hTN : T < N := by
    have := (Go.Flow.okEnds_iff.1 h.ends)
    rw [hN, hT] at this;omega
  have hSe : ((S : Nat) : Int) / wd d = d.s ∧ d.r + ((S : Nat) : Int) % wd d = d.r := by
    rw [← hS, vtx_div (by omega) (by omega), vtx_mod (by omega) (by omega)]
    omega
  have hTe : ((T : Nat) : Int) / wd d = d.d ∧ d.r + ((T : Nat) : Int) % wd d = d.e := by
    rw [← hT, vtx_div (by omega) (by omega), vtx_mod (by omega) (by omega)]
    omega
  have hvi : ∀ (m : Nat) (u : Int), d.r ≤ u → u ≤ d.e → (vtx d m u = vtx d n t ↔ m = n ∧ u = t) := fun m u h3 h4 => ⟨fun e => by have := vtx_inj h3 h4 h1 h2 e; omega, fun ⟨e1, e2⟩ => by rw [e1, e2]⟩
  by_cases hs : (n : Int) = d.s
  · -- the source: what leaves later
    have hnet := net_P h (fun m u => decide (m = n ∧ t < u)) (fun x y => (if 0 ≤ x.c then stk1 cs d n t ⟨x.c, x.t, y⟩ else 0) - (if x.c = -1 ∧ x.a.f = vtx d n t then y else 0)) fl (fun m u y h3 h4 h5 => by
      dsimp only
      rw [if_neg (show ¬ (0 : Int) ≤ -1 by omega)]
      simp only [hvi m u h4 (by omega), true_and, decide_eq_true_eq, Int.natCast_inj]
      by_cases e : m = n
      · subst e
        simp only [true_and]
        split <;> split <;> split <;> omega
      · simp [e]) (fun i c u y hc h3 h4 => by
      unfold conE
      dsimp only
      rw [if_pos (show (0 : Int) ≤ (i : Int) by omega), if_neg (show ¬ ((i : Int) = -1 ∧ vtx d c.f u = vtx d n t) by omega), Int.sub_zero]
      unfold stk1 arrOf;rw [ctOf_get hc, if_pos hs]
      simp only [decide_eq_true_eq])
    rw [zsum_sub, ← netB_eq (n := N) (bq d _) _ fl hok, sumTo_zero N (fun v hv => ?_)] at hnet
    · rw [if_neg (by omega)]
      unfold waitF;omega
    · split
      · rename_i hb
        unfold bq at hb;rw [decide_eq_true_eq] at hb
        obtain ⟨_, _, _, _⟩ := hvd v hv
        refine hf.bal v hv (fun e => ?_) (fun e => ?_)
        · subst e
          rw [hSe.2] at hb;omega
        · subst e
          rw [hTe.1] at hb;omega
      · rfl
  · have hnet := net_P h (fun m u => decide (m = n ∧ u ≤ t)) (fun x y => (if x.c = -1 ∧ x.a.f = vtx d n t then y else 0) - (if 0 ≤ x.c then stk1 cs d n t ⟨x.c, x.t, y⟩ else 0)) fl (fun m u y h3 h4 h5 => by
      dsimp only
      rw [if_neg (show ¬ (0 : Int) ≤ -1 by omega)]
      simp only [hvi m u h4 (by omega), true_and, decide_eq_true_eq, Int.natCast_inj]
      by_cases e : m = n
      · subst e
        simp only [true_and]
        split <;> split <;> split <;> omega
      · simp [e]) (fun i c u y hc h3 h4 => by
      unfold conE
      dsimp only
      rw [if_pos (show (0 : Int) ≤ (i : Int) by omega), if_neg (show ¬ ((i : Int) = -1 ∧ vtx d c.f u = vtx d n t) by omega), Int.zero_sub]
      unfold stk1 arrOf;rw [ctOf_get hc, if_neg hs];simp only [decide_eq_true_eq]
      omega)
    rw [zsum_sub, ← netB_eq (n := N) (bq d _) _ fl hok] at hnet
    by_cases he : (n : Int) = d.d ∧ t = d.e
    · rw [if_pos he]
      rw [sumTo_one (k := T) N hTN (fun v hv hne => ?_)] at hnet
      · unfold bq at hnet
        rw [hTe.1, hTe.2, if_pos (by rw [decide_eq_true_eq]; omega)] at hnet
        unfold waitF;omega
      · split
        · rename_i hb
          unfold bq at hb;rw [decide_eq_true_eq] at hb
          refine hf.bal v hv (fun e => ?_) hne
          subst e;rw [hSe.1] at hb;omega
        · rfl
    · rw [if_neg he]
      rw [sumTo_zero N (fun v hv => ?_)] at hnet
      · unfold waitF
        omega
      · split
        · rename_i hb
          unfold bq at hb;rw [decide_eq_true_eq] at hb
          refine hf.bal v hv (fun e => ?_) (fun e => ?_)
          · subst e
            rw [hSe.1] at hb;omega
          · subst e
            rw [hTe.1, hTe.2] at hb;omega
        · rfl
theorem wait_room (h : VOk qs cs bs hs d) {fl : List Int} (hc : inCap (arcsG qs cs bs hs d) fl = true) {n : Nat} (hn : n < qs.length) {t : Int} (h1 : d.r ≤ t) (h2 : t ≤ d.e) :
    0 ≤ waitF d n t (arcsE qs cs bs hs d) fl ∧ waitF d n t (arcsE qs cs bs hs d) fl ≤ (if t < d.e then roomT qs hs d n t else 0) := by
  have hg : ∀ x ∈ arcsE qs cs bs hs d, 0 ≤ (if x.c = -1 ∧ x.a.f = vtx d n t then x.a.c else 0) := fun x hx => by
    have := okArc_iff.1 (h.ok x.a (List.mem_map.2 ⟨x, hx, rfl⟩))
    split <;> omega
  have hz := zsum_le (f := fun x y => if x.c = -1 ∧ x.a.f = vtx d n t then y else 0) (g := fun x => if x.c = -1 ∧ x.a.f = vtx d n t then x.a.c else 0) (L := arcsE qs cs bs hs d) (fl := fl) hc (fun x _ y h3 h4 => by
    split <;> omega) hg
  have hs : lsum (fun x : EA => if x.c = -1 ∧ x.a.f = vtx d n t then x.a.c else 0) (arcsE qs cs bs hs d) = if t < d.e then roomT qs hs d n t else 0 := by
    unfold arcsE;rw [lsum_append, lsum_waitA]
    have hcon : lsum (fun x : EA => if x.c = -1 ∧ x.a.f = vtx d n t then x.a.c else 0) (conA cs bs d cs.length) = 0 := by
      rw [lsum_congr (g := fun _ => 0) (fun x hx => by
        obtain ⟨i, _, c, u, _, _, _, _, rfl⟩ := mem_conA.1 hx
        unfold conE
        dsimp only
        rw [if_neg (by omega)])]
      exact lsum_zero _
    rw [hcon, Int.add_zero]
    have hone : ∀ (g : Int → Int) (m : Nat), (∀ k : Nat, k < m → k ≠ n → g (0 + k) = 0) → n < m → sumT g 0 m = g n := by
      intro g m
      induction m with
      | zero => intro _ h; omega
      | succ m ih =>
        intro h3 h4
        show sumT g 0 m + g (0 + m) = _
        by_cases e : n = m
        · subst e
          have : sumT g 0 n = 0 := by
            have h5 := sumT_congr (f := g) (g := fun _ => 0) (a := 0) (m := n) (fun k hk => h3 k (by omega) (by omega))
            rw [h5]
            have : ∀ m : Nat, sumT (fun _ => 0) 0 m = 0 := by
              intro m
              induction m with
              | zero => rfl
              | succ m ih => show sumT _ 0 m + 0 = 0; rw [ih]; rfl
            exact this n
          rw [this, Int.zero_add, Int.zero_add]
        · rw [ih (fun k hk => h3 k (by omega)) (by omega), h3 m (by omega) (by omega), Int.add_zero]
    rw [hone _ qs.length (fun k hk hne => ?_) hn]
    · rw [← lsum_rngI]
      by_cases ht : t < d.e
      · rw [if_pos ht]
        have e : rngI d.r d.e = rngI d.r t ++ (t :: rngI (t + 1) d.e) := by
          refine asc_ext (rngI_asc _ _) ?_ (fun u => ?_)
          · rw [List.pairwise_append]
            refine ⟨rngI_asc _ _, List.pairwise_cons.2 ⟨fun b hb => by rw [mem_rngI] at hb; omega, rngI_asc _ _⟩, fun a ha b hb => ?_⟩
            rw [mem_rngI] at ha
            rcases List.mem_cons.1 hb with rfl | hb
            · omega
            · rw [mem_rngI] at hb; omega
          · rw [List.mem_append, List.mem_cons, mem_rngI, mem_rngI, mem_rngI]
            omega
        rw [e, lsum_append]
        show lsum _ _ + (_ + lsum _ _) = _
        rw [lsum_congr (g := fun _ => 0) (l := rngI d.r t) (fun u hu => ?_), lsum_congr (g := fun _ => 0) (l := rngI (t + 1) d.e) (fun u hu => ?_), lsum_zero, lsum_zero]
        · dsimp only
          rw [if_pos ⟨rfl, rfl⟩]; omega
        · rw [mem_rngI] at hu
          dsimp only
          rw [if_neg (fun h3 => ?_)]
          have := vtx_inj (by omega) (by omega) h1 h2 h3.2
          omega
        · rw [mem_rngI] at hu
          dsimp only
          rw [if_neg (fun h3 => ?_)]
          have := vtx_inj (by omega) (by omega) h1 h2 h3.2
          omega
      · rw [if_neg ht]
        rw [lsum_congr (g := fun _ => 0) (fun u hu => ?_), lsum_zero]
        rw [mem_rngI] at hu
        dsimp only
        rw [if_neg (fun h3 => ?_)]
        have := vtx_inj (by omega) (by omega) h1 h2 h3.2
        omega
    · rw [← lsum_rngI, lsum_congr (g := fun _ => 0) (fun u hu => ?_), lsum_zero]
      rw [mem_rngI] at hu
      dsimp only
      rw [if_neg (fun h3 => ?_)]
      have := vtx_inj (by omega) (by omega) h1 h2 h3.2
      omega
  rw [hs] at hz;exact hz
end
end Go.Step
/- The paths of a flow; greater capacities; arcs turned round. No program in sight. No conditions. -/
namespace Go.Flow
def plFrom:Nat → List Arc → List Lk
  | _,[]=>[]
  | i,a :: l=>⟨i,a.f.toNat,a.t.toNat⟩ :: plFrom (i + 1) l
def plinks (l:List Arc):List Lk:=plFrom 0 l
theorem plFrom_snoc (a:Arc):∀ (l:List Arc) (i:Nat),plFrom i (l ++ [a]) = plFrom i l ++ [(⟨i + l.length,a.f.toNat,a.t.toNat⟩:Lk)]
  | [],i=>by simp [plFrom]
  | b :: l,i=>by
    simp only [List.cons_append,plFrom];rw [plFrom_snoc a l (i + 1)];simp only [List.length_cons]
    rw [show i + 1 + l.length = i + (l.length + 1) from by omega]
theorem plinks_snoc (l:List Arc) (a:Arc):plinks (l ++ [a]) = plinks l ++ [(⟨l.length,a.f.toNat,a.t.toNat⟩:Lk)]:=by
  unfold plinks; rw [plFrom_snoc]; simp
theorem plFrom_len:∀ (l:List Arc) (i:Nat),(plFrom i l).length = l.length
  | [],_=>rfl
  | a :: l,i=>by simp [plFrom,plFrom_len l (i + 1)]
theorem plinks_len (l:List Arc):(plinks l).length = l.length:=plFrom_len l 0
theorem plFrom_get:∀ (l:List Arc) (i j:Nat),(plFrom i l)[j]? = (l[j]?).map (fun a=>(⟨i + j,a.f.toNat,a.t.toNat⟩:Lk))
  | [],i,j=>by simp [plFrom]
  | b :: l,i,j=>by
    cases j with
    | zero=>simp [plFrom]
    | succ j =>
      simp only [plFrom,List.getElem?_cons_succ]
      rw [plFrom_get l (i + 1) j,show i + 1 + j = i + (j + 1) from by omega]
theorem plinks_get (l:List Arc) (j:Nat):(plinks l)[j]? = (l[j]?).map (fun a=>(⟨j,a.f.toNat,a.t.toNat⟩:Lk)):=by
  unfold plinks; rw [plFrom_get]; simp
theorem plinks_iff {l:List Arc} {x:Lk}:x ∈ plinks l ↔ ∃ j a,l[j]? = some a ∧ x = ⟨j,a.f.toNat,a.t.toNat⟩:=by
  rw [List.mem_iff_getElem?]
  constructor
  · rintro ⟨j,hj⟩
    rw [plinks_get,Option.map_eq_some_iff] at hj
    obtain ⟨a,ha,rfl⟩:=hj
    exact ⟨j,a,ha,rfl⟩
  · rintro ⟨j,a,ha,rfl⟩
    exact ⟨j,by rw [plinks_get,ha]; rfl⟩
theorem pl_lt {n:Nat} {l:List Arc} (hok:∀ a ∈ l,okArc n a = true):∀ x ∈ plinks l,x.f < n ∧ x.t < n:=fun x hx=>by
  obtain ⟨j,a,ha,rfl⟩:=plinks_iff.1 hx
  have:=okArc_iff.1 (hok a (List.mem_of_getElem? ha))
  dsimp only; omega
theorem pl_k {l:List Arc} {x:Lk} (hx:x ∈ plinks l):x.k < l.length:=by
  obtain ⟨j,a,ha,rfl⟩:=plinks_iff.1 hx
  exact (List.getElem?_eq_some_iff.1 ha).1
def rmP (rest:List Int) (k:Nat):Int:=rest.getD k 0
def subP (room:Int) (rest:List Int) (x:Lk):List Int:=rest.set x.k (rest.getD x.k 0 - room)
def subAll (room:Int) (rest:List Int) (p:List Lk):List Int:=p.foldl (subP room) rest
theorem subP_len (room:Int) (rest:List Int) (x:Lk):(subP room rest x).length = rest.length:=by simp [subP]
theorem subAll_len (room:Int):∀ (p:List Lk) (rest:List Int),(subAll room rest p).length = rest.length
  | [],rest=>rfl
  | x :: p,rest=>by
    have:=subAll_len room p (subP room rest x)
    rw [subP_len] at this;exact this
theorem subAll_snoc (room:Int) (fl:List Int) (p:List Lk) (x:Lk):subAll room fl (p ++ [x]) = subP room (subAll room fl p) x:=by simp [subAll]
theorem subP_ok {n:Nat} {l:List Arc} {fl:List Int} {x:Lk} {room:Int} (hok:∀ a ∈ l,okArc n a = true) (hl:l.length = fl.length) (hc:inCap l fl = true) (hx:x ∈ plinks l) (h0:0 ≤ room) (hr:room ≤ rmP fl x.k) :
    inCap l (subP room fl x) = true ∧ (∀ v:Nat,fval v l (subP room fl x) = fval v l fl - ((if x.f = v then room else 0) - (if x.t = v then room else 0))) ∧ ∀ k,k ≠ x.k → rmP (subP room fl x) k = rmP fl k:=by
  obtain ⟨j,a,ha,rfl⟩:=plinks_iff.1 hx
  have hjl:j < l.length:=(List.getElem?_eq_some_iff.1 ha).1
  have hfj:fl[j]? = some (fl.getD j 0):=by simp [List.getD_eq_getElem?_getD,show j < fl.length by omega]
  have hin:=inCap_get l fl hc j a _ ha hfj
  obtain ⟨g1,g2,g3,g4,g5,g6,g7⟩:=okArc_iff.1 (hok a (List.mem_of_getElem? ha))
  unfold rmP at hr
  dsimp only at hr
  refine ⟨?_,?_,fun k hk=>?_⟩
  · unfold subP
    exact inCap_set l fl j a _ ha hc (by dsimp only; omega) (by dsimp only; omega)
  · intro v
    unfold subP
    dsimp only
    rw [fval_set v l fl j a _ ha hl]
    have e1:(a.f = (v:Int)) ↔ (a.f.toNat = v):=by omega
    have e2:(a.t = (v:Int)) ↔ (a.t.toNat = v):=by omega
    simp only [e1,e2]
    split <;> split <;> omega
  · unfold rmP subP
    exact getD_set' (Ne.symm hk)
theorem subAll_ok {n:Nat} {l:List Arc} {room:Int} (hok:∀ a ∈ l,okArc n a = true) (h0:0 ≤ room) {E:Lk → Prop} (hE:∀ x,E x → x ∈ plinks l) {u w:Nat} {p:List Lk} (hp:Chn E u p w) :
    ∀ (fl:List Int),l.length = fl.length → inCap l fl = true → p.Pairwise (fun x y=>x.k ≠ y.k) → (∀ x ∈ p,room ≤ rmP fl x.k) →
    inCap l (subAll room fl p) = true ∧ ∀ v:Nat,fval v l (subAll room fl p) = fval v l fl - ((if u = v then room else 0) - (if w = v then room else 0)):=by
  induction hp with
  | nil=>intro fl _ hc _ _; exact ⟨hc,fun v=>by simp [subAll]⟩
  | @cons x u p w hf hx _ ih =>
    intro fl hl hc hpw hr
    rw [List.pairwise_cons] at hpw
    obtain ⟨s1,s2,s3⟩:=subP_ok hok hl hc (hE x hx) h0 (hr x (by simp))
    obtain ⟨r1,r2⟩:=ih (subP room fl x) (by rw [subP_len]; exact hl) s1 hpw.2 (fun y hy=>by rw [s3 y.k (Ne.symm (hpw.1 y hy))]; exact hr y (by simp [hy]))
    refine ⟨r1,fun v=>?_⟩
    have:=r2 v
    rw [s2 v] at this
    show fval v l (subAll room (subP room fl x) p) = _
    rw [this,hf]
    split <;> split <;> split <;> omega
abbrev pE (l:List Arc) (fl:List Int):Lk → Prop:=opn (plinks l) (rmP fl)
abbrev pP (l:List Arc) (fl:List Int) (D:List Int) (s:Nat):List Lk:=pathD (nxt (plinks l) (rmP fl) D) D s
abbrev pRoom (l:List Arc) (fl:List Int) (D:List Int) (s:Nat):Int:=leastR (rmP fl) (pP l fl D s)
abbrev pNext (l:List Arc) (fl:List Int) (D:List Int) (s:Nat):List Int:=subAll (pRoom l fl D s) fl (pP l fl D s)
section
variable {n s t:Nat} {l:List Arc}
theorem pP_arcs (hok:∀ a ∈ l,okArc n a = true) (hs:s < n) {fl D:List Int} (hD:IsDist n t (pE l fl) D) (h0:0 ≤ D.getD s 0):(pP l fl D s).Pairwise (fun x y=>x.k ≠ y.k):=by
  obtain ⟨k,hk⟩:=Int.eq_ofNat_of_zero_le h0
  have hp:=path_sorted (pl_lt hok) hD k s hs hk
  have hc:=(path_chn (pl_lt hok) hD k s hs hk).all
  refine List.Pairwise.imp_of_mem (fun {x y} hx hy hxy e=>?_) hp
  obtain ⟨i,a,ha,rfl⟩:=plinks_iff.1 (hc x hx).1.1
  obtain ⟨j,b,hb,rfl⟩:=plinks_iff.1 (hc y hy).1.1
  dsimp only at e hxy
  subst e;rw [ha] at hb
  obtain rfl:=Option.some.inj hb
  omega
theorem pNext_ok (hok:∀ a ∈ l,okArc n a = true) (hs:s < n) (hst:s ≠ t) {fl D:List Int} (hf:Flw n l s t fl) (hD:IsDist n t (pE l fl) D) (h0:0 ≤ D.getD s 0) :
    Flw n l s t (pNext l fl D s) ∧ 0 < pRoom l fl D s ∧ fval s l (pNext l fl D s) = fval s l fl - pRoom l fl D s:=by
  obtain ⟨k,hk⟩:=Int.eq_ofNat_of_zero_le h0
  have hch:=path_chn (pl_lt hok) hD k s hs hk
  have hpos:0 < pRoom l fl D s:=leastR_pos _ _ _ (by omega) (fun x hx=>(hch.all x hx).1.2)
  obtain ⟨r1,r2⟩:=subAll_ok hok (Int.le_of_lt hpos) (E:=fun x=>pE l fl x ∧ D.getD x.t 0 = D.getD x.f 0 - 1 ∧ D.getD x.f 0 ≤ k) (fun x hx=>hx.1.1) hch fl hf.len hf.cap (pP_arcs hok hs hD h0) (fun x hx=>(leastR_le _ _ _).2 x hx)
  refine ⟨⟨by rw [subAll_len]; exact hf.len,r1,fun v hv h1 h2=>?_⟩,hpos,?_⟩
  · rw [r2 v,if_neg (Ne.symm h1),if_neg (Ne.symm h2),hf.bal v hv h1 h2]; rfl
  · rw [r2 s,if_pos rfl,if_neg (Ne.symm hst)]; omega
theorem pTake_cap (hok:∀ a ∈ l,okArc n a = true) (hs:s < n) {fl D:List Int} (hf:Flw n l s t fl) (hD:IsDist n t (pE l fl) D) (h0:0 ≤ D.getD s 0) (i:Nat) :
    inCap l (subAll (pRoom l fl D s) fl ((pP l fl D s).take i)) = true:=by
  obtain ⟨k,hk⟩:=Int.eq_ofNat_of_zero_le h0
  have hch:=path_chn (pl_lt hok) hD k s hs hk
  have hpos:0 < pRoom l fl D s:=leastR_pos _ _ _ (by omega) (fun x hx=>(hch.all x hx).1.2)
  obtain ⟨w,hw⟩:=hch.take i
  exact (subAll_ok hok (Int.le_of_lt hpos) (E:=fun x=>pE l fl x ∧ D.getD x.t 0 = D.getD x.f 0 - 1 ∧ D.getD x.f 0 ≤ k) (fun x hx=>hx.1.1) hw fl hf.len hf.cap ((pP_arcs hok hs hD h0).sublist (List.take_sublist _ _)) (fun x hx=>(leastR_le _ _ _).2 x (List.mem_of_mem_take hx))).1
end
inductive RunP (n:Nat) (l:List Arc) (s t:Nat):List Int → List (List Lk × Int) → List Int → Prop
  | done {fl D:List Int}:IsDist n t (pE l fl) D → D.getD s 0 < 0 → RunP n l s t fl [] fl
  | step {fl D r:List Int} {ps:List (List Lk × Int)}:IsDist n t (pE l fl) D → 0 ≤ D.getD s 0 → RunP n l s t (pNext l fl D s) ps r → RunP n l s t fl ((pP l fl D s,pRoom l fl D s) :: ps) r
theorem RunP.uniq {n s t:Nat} {l:List Arc} (hok:∀ a ∈ l,okArc n a = true) {fl F G:List Int} {ps qs:List (List Lk × Int)} (h1:RunP n l s t fl ps F) (h2:RunP n l s t fl qs G):ps = qs ∧ F = G:=by
  have hE:∀ fl x,pE l fl x → x.f < n ∧ x.t < n:=fun fl x hx=>pl_lt hok x hx.1
  induction h1 generalizing G qs with
  | done hD hn =>
    cases h2 with
    | done=>exact ⟨rfl,rfl⟩
    | step hD2 h0 _=>rw [hD.uniq (hE _) hD2] at hn; omega
  | step hD h0 _ ih =>
    cases h2 with
    | done hD2 hn=>rw [hD.uniq (hE _) hD2] at h0; omega
    | step hD2 _ hr =>
      have e:=hD.uniq (hE _) hD2
      subst e
      obtain ⟨e1,e2⟩:=ih hr
      exact ⟨by rw [e1],e2⟩
section
variable {n s t:Nat} {l:List Arc}
theorem net_le0 (B:Nat → Bool):∀ (l:List Arc) (fl:List Int),inCap l fl = true → (∀ (i:Nat) (a:Arc) (x:Int),l[i]? = some a → fl[i]? = some x → B a.f.toNat = true → B a.t.toNat = false → x = 0) → netB B l fl ≤ 0
  | [],_,_,_=>by simp [netB]
  | _ :: _,[],_,_=>by simp [netB]
  | a :: l,x :: fl,h,hz=>by
    simp only [inCap,Bool.and_eq_true,decide_eq_true_eq] at h
    have ih:=net_le0 B l fl h.2 (fun i b y hb hy=>hz (i + 1) b y (by simpa using hb) (by simpa using hy))
    have h0:=hz 0 a x rfl rfl
    simp only [netB]
    cases hB1:B a.f.toNat <;> cases hB2:B a.t.toNat <;> simp <;> first | omega | (have:=h0 hB1 hB2; omega)
theorem rest_le0 (hok:∀ a ∈ l,okArc n a = true) (hs:s < n) (ht:t < n) {fl D:List Int} (hf:Flw n l s t fl) (hD:IsDist n t (pE l fl) D) (hn:D.getD s 0 < 0):fval s l fl ≤ 0:=by
  obtain ⟨B,hB⟩:=exists_reach n (pE l fl) s
  have hE:∀ x,pE l fl x → x.f < n ∧ x.t < n:=fun x hx=>pl_lt hok x hx.1
  have b1:B s = true:=(hB s hs).2 .refl
  have b2:B t = false:=by
    cases hb:B t with
    | false=>rfl
    | true =>
      have:=((hB t ht).1 hb).far hD hn
      rw [hD.at0] at this; omega
  rw [← hf.net hok hs b1 b2]
  refine net_le0 B l fl hf.cap (fun i a x ha hx h1 h2=>?_)
  have hin:=inCap_get l fl hf.cap i a x ha hx
  apply Classical.byContradiction
  intro hne
  have:=hB.closed hE ⟨i,a.f.toNat,a.t.toNat⟩ ⟨plinks_iff.2 ⟨i,a,ha,rfl⟩,by unfold rmP; dsimp only; rw [List.getD_eq_getElem?_getD,hx]; simp only [Option.getD_some]; omega⟩ h1
  dsimp only at this
  rw [h2] at this; simp at this
end
/-! ### a greater capacity -/
/-! ### arcs turned round,arcs in the opposite order -/
def turnA (a:Arc):Arc:=⟨a.t,a.f,a.c⟩
theorem fval_turn (v:Int):∀ (l:List Arc) (fl:List Int),fval v (l.map turnA) fl = - fval v l fl
  | [],_=>by simp [fval]
  | _ :: _,[]=>by simp [fval]
  | a :: l,x :: fl=>by
    simp only [List.map_cons,fval,fval_turn v l fl,turnA]
    split <;> split <;> omega
theorem inCap_turn:∀ (l:List Arc) (fl:List Int),inCap (l.map turnA) fl = inCap l fl
  | [],_=>by simp [inCap]
  | _ :: _,[]=>by simp [inCap]
  | a :: l,x :: fl=>by simp only [List.map_cons,inCap,inCap_turn l fl,turnA]
theorem netB_all:∀ (l:List Arc) (fl:List Int),netB (fun _=>true) l fl = 0
  | [],_=>by simp [netB]
  | _ :: _,[]=>by simp [netB]
  | a :: l,x :: fl=>by simp only [netB,if_true]; rw [netB_all l fl]; omega
theorem sumTo_two {g:Nat → Int} {j k:Nat} (hjk:j ≠ k):∀ n,j < n → k < n → (∀ v,v < n → v ≠ j → v ≠ k → g v = 0) → sumTo g n = g j + g k
  | 0,h,_,_=>by omega
  | n + 1,h,h2,e=>by
    simp only [sumTo]
    by_cases e1:k = n
    · rw [sumTo_one (k:=j) n (by omega) (fun v hv hne=>e v (by omega) hne (by omega)),e1]
    · by_cases e2:j = n
      · rw [sumTo_one (k:=k) n (by omega) (fun v hv hne=>e v (by omega) (by omega) hne),e2]; omega
      · rw [sumTo_two hjk n (by omega) (by omega) (fun v hv g1 g2=>e v (by omega) g1 g2),e n (by omega) (by omega) (by omega)]; omega
theorem Flw.ends {n s t:Nat} {l:List Arc} {fl:List Int} (hok:∀ a ∈ l,okArc n a = true) (hs:s < n) (ht:t < n) (hst:s ≠ t) (hf:Flw n l s t fl):fval t l fl = - fval s l fl:=by
  have h:=netB_eq (n:=n) (fun _=>true) l fl hok
  rw [netB_all] at h
  rw [sumTo_two hst n hs ht (fun v hv g1 g2=>by simp only [if_true]; exact hf.bal v hv g1 g2)] at h
  simp only [if_true] at h;omega
theorem Flw.turn {n s t:Nat} {l:List Arc} {fl:List Int} (hf:Flw n l s t fl):Flw n (l.map turnA) t s fl:=
  ⟨by simp [hf.len],by rw [inCap_turn]; exact hf.cap,fun v hv g1 g2=>by rw [fval_turn,hf.bal v hv g2 g1]; rfl⟩
/-! ### differences of flows -/
def diffL (a b:List Int):List Int:=List.zipWith (· - ·) a b
theorem diffL_len {a b:List Int} (h:a.length = b.length):(diffL a b).length = a.length:=by simp [diffL,h]
theorem fval_diff (v:Int):∀ (l:List Arc) (a b:List Int),a.length = b.length → fval v l (diffL a b) = fval v l a - fval v l b
  | [],[],[],_=>by simp [fval]
  | [],_ :: _,_ :: _,_=>by simp [fval]
  | _ :: _,[],[],_=>by simp [fval,diffL]
  | c :: l,x :: a,y :: b,h=>by
    have:=fval_diff v l a b (by simpa using h)
    simp only [diffL,List.zipWith_cons_cons,fval] at this ⊢;rw [this]
    split <;> split <;> omega
theorem diffL_get {a b:List Int} {i:Nat} (h:i < a.length) (h2:i < b.length):(diffL a b).getD i 0 = a.getD i 0 - b.getD i 0:=by
  rw [List.getD_eq_getElem?_getD,List.getD_eq_getElem?_getD,List.getD_eq_getElem?_getD,diffL,List.getElem?_zipWith,List.getElem?_eq_getElem h,List.getElem?_eq_getElem h2]
  rfl
theorem diffL_set {a b:List Int} {i:Nat} (x:Int) (h:i < a.length) (h2:i < b.length):(diffL a b).set i ((diffL a b).getD i 0 + x) = diffL a (b.set i (b.getD i 0 - x)):=by
  rw [diffL_get h h2]
  apply List.ext_getElem
  · simp [diffL]
  · intro j h1 h3
    simp only [diffL,List.getElem_set,List.getElem_zipWith]
    split
    · rename_i e; subst e
      simp [List.getD_eq_getElem?_getD,h,h2]; omega
    · rfl
theorem diffL_self:∀ (a:List Int),diffL a a = List.replicate a.length 0
  | []=>rfl
  | x :: a=>by
    have:=diffL_self a
    simp only [diffL] at this ⊢;rw [List.zipWith_cons_cons,this,List.length_cons,List.replicate_succ,Int.sub_self]
end Go.Flow
/- The shipments of a flow can be made, and bring its value. No program in sight. No conditions. -/
namespace Go.Step
open Go.Flow (Flw fval inCap okArc okArc_iff)
theorem mem_shipsF:∀ {L:List EA} {fl:List Int} {s:Sh},inCap (L.map (fun x=>x.a)) fl = true → s ∈ shipsF L fl → ∃ x ∈ L,0 ≤ x.c ∧ s.c = x.c ∧ s.t = x.t ∧ 0 < s.n ∧ s.n ≤ x.a.c
  | [],fl,s,_,h=>by simp [shipsF] at h
  | _ :: _,[],s,_,h=>by simp [shipsF] at h
  | x :: L,y :: fl,s,hc,h=>by
    simp only [List.map_cons,inCap,Bool.and_eq_true,decide_eq_true_eq] at hc;unfold shipsF at h
    rcases List.mem_append.1 h with h | h
    · split at h
      · rename_i h1
        rw [List.mem_singleton.1 h]
        exact ⟨x,by simp,h1.1,rfl,rfl,h1.2,hc.1.2⟩
      · simp at h
    · obtain ⟨z,hz,r⟩:=mem_shipsF hc.2 h
      exact ⟨z,by simp [hz],r⟩
theorem shipsF_apart:∀ {L:List EA} (fl:List Int),L.Pairwise (fun x y=>0 ≤ x.c → 0 ≤ y.c → ¬ (x.c = y.c ∧ x.t = y.t)) → (shipsF L fl).Pairwise (fun x y=>¬ (x.c = y.c ∧ x.t = y.t))
  | [],fl,_=>by simp [shipsF]
  | x :: L,[],_=>by simp [shipsF]
  | x :: L,y :: fl,h=>by
    obtain ⟨h1,h2⟩:=List.pairwise_cons.1 h
    have ih:=shipsF_apart fl h2
    unfold shipsF;rw [List.pairwise_append]
    refine ⟨?_,ih,fun a ha b hb=>?_⟩
    · split
      · exact List.pairwise_singleton _ _
      · exact .nil
    · split at ha
      · rename_i hx
        rw [List.mem_singleton.1 ha]
        have:∀ {L:List EA} {fl:List Int} {s:Sh},s ∈ shipsF L fl → ∃ x ∈ L,0 ≤ x.c ∧ s.c = x.c ∧ s.t = x.t:=by
          intro L
          induction L with
          | nil=>intro fl s h; simp [shipsF] at h
          | cons x L ih =>
            intro fl s h
            cases fl with
            | nil=>simp [shipsF] at h
            | cons y fl =>
              unfold shipsF at h
              rcases List.mem_append.1 h with h | h
              · split at h
                · rename_i h1
                  rw [List.mem_singleton.1 h]
                  exact ⟨x,by simp,h1.1,rfl,rfl⟩
                · simp at h
              · obtain ⟨z,hz,r⟩:=ih h
                exact ⟨z,by simp [hz],r⟩
        obtain ⟨z,hz,k1,k2,k3⟩:=this hb
        have:=h1 z hz hx.1 k1
        dsimp only
        rw [k2,k3];exact this
      · simp at ha
section
variable {qs:List Int} {cs:List Ct} {bs:List Bk} {hs:List Hd} {d:Dm}
theorem conN_asc (h:VOk qs cs bs hs d) (i:Nat):(conN cs bs d i).Pairwise (fun x y=>x.c = (i:Int) ∧ y.c = (i:Int) ∧ x.t < y.t):=by
  unfold conN
  cases e:cs[i]? with
  | none=>exact .nil
  | some c =>
    simp only;rw [List.pairwise_map]
    exact (tickL_asc (h.free e).1).imp (fun {x y} hxy=>⟨rfl,rfl,hxy⟩)
theorem arcs_apart (h:VOk qs cs bs hs d):(arcsE qs cs bs hs d).Pairwise (fun x y=>0 ≤ x.c → 0 ≤ y.c → ¬ (x.c = y.c ∧ x.t = y.t)):=by
  unfold arcsE;rw [List.pairwise_append]
  refine ⟨?_,?_,fun a ha b _ h1 _=>?_⟩
  · rw [List.pairwise_iff_forall_sublist]
    intro a b hab h1 _
    have ha:a ∈ waitA qs hs d qs.length:=hab.subset (by simp)
    obtain ⟨n,_,t,_,_,rfl⟩:=mem_waitA.1 ha
    dsimp only at h1
    omega
  · have:∀ m,(conA cs bs d m).Pairwise (fun x y=>0 ≤ x.c → 0 ≤ y.c → ¬ (x.c = y.c ∧ x.t = y.t)):=by
      intro m
      induction m with
      | zero=>exact .nil
      | succ m ih =>
        unfold conA;rw [List.pairwise_append]
        refine ⟨ih,(conN_asc h m).imp (fun {x y} hxy _ _=>by omega),fun a ha b hb _ _=>?_⟩
        obtain ⟨i,hi,c,t,_,_,_,_,rfl⟩:=mem_conA.1 ha
        unfold conN at hb
        split at hb
        · simp at hb
        · obtain ⟨u,_,rfl⟩:=List.mem_map.1 hb
          unfold conE
          dsimp only
          omega
    exact this _
  · obtain ⟨n,_,t,_,_,rfl⟩:=mem_waitA.1 ha
    dsimp only at h1
    omega
theorem ships_flow (h:VOk qs cs bs hs d) (hv:validT qs cs bs hs d = true) {fl:List Int} {N S T:Nat} (hN:vsN qs d = N) (hS:vtx d d.s d.r = S) (hT:vtx d d.d d.e = T) (hf:Flw N (arcsG qs cs bs hs d) S T fl) (hp:0 ≤ fval S (arcsG qs cs bs hs d) fl) :
    flowR qs cs bs hs d (shipsF (arcsE qs cs bs hs d) fl) = (fval S (arcsG qs cs bs hs d) fl,0):=by
  have hok:=h.ok
  rw [hN] at hok
  have hends:=Go.Flow.okEnds_iff.1 h.ends
  rw [hN,hS,hT] at hends
  have hval:=hf.ends hok (by omega) (by omega) (by omega)
  have hdm:=h.dm
  unfold okDm at hdm
  have hst:=fun n t h1 h2=>stock_wait h hN hS hT hf (n:=n) (t:=t) h1 h2
  rw [hval] at hst
  have hwt:=fun n hn t h1 h2=>wait_room h hf.cap (n:=n) hn (t:=t) h1 h2
  have hE:firstE (shipE cs bs d (shipsF (arcsE qs cs bs hs d) fl)) (shipsF (arcsE qs cs bs hs d) fl).length = 0:=firstE_all (fun k hk=>by
    have hx:=List.getElem?_eq_getElem hk
    have hm:=List.getElem_mem hk
    obtain ⟨x,hxm,k1,k2,k3,k4,k5⟩:=mem_shipsF (by exact hf.cap) hm
    have hs1:ship1 cs bs d (shipsF (arcsE qs cs bs hs d) fl)[k] = 0:=by
      generalize (shipsF (arcsE qs cs bs hs d) fl)[k] = s at k2 k3 k4 k5
      cases h.arc.1 hxm with
      | wait=>dsimp only at k1; omega
      | @con i c t hc h1 h2 h3 h4 h5 =>
        unfold conE at k2 k3 k5
        dsimp only at k2 k3 k5
        have hlt:=(List.getElem?_eq_some_iff.1 hc).1
        unfold ship1
        rw [k2,k3,Int.toNat_natCast,hc,if_neg (by omega)]
        simp only
        rw [if_neg (by omega),if_neg (by omega),if_neg (by rw [h5]; simp)]
    rw [shipE_at hx,if_neg (fun h=>h hs1),if_neg]
    rw [List.any_eq_true];rintro ⟨y,hy,he⟩;unfold sameSl at he;rw [decide_eq_true_eq] at he
    have hpw:=shipsF_apart fl (arcs_apart h)
    obtain ⟨j,hj,rfl⟩:=List.getElem_of_mem hy
    rw [List.length_take] at hj;rw [List.getElem_take] at he
    have:=List.pairwise_iff_getElem.1 hpw j k (by omega) hk (by omega)
    omega)
  have hcf:conflB qs.length cs d (shipsF (arcsE qs cs bs hs d) fl) = false:=by
    unfold conflB;rw [anyT_none]
    intro n hn
    rw [anyT_none]
    intro k hk
    unfold confAt
    rw [decide_eq_false_iff_not,Int.zero_add,hst n (d.r + k) (by omega) (by omega)]
    have hw:=hwt n hn (d.r + k) (by omega) (by omega)
    rintro (h1 | ⟨h1,h2,h3,h4⟩)
    · split at h1 <;> omega
    · rw [if_neg (show ¬ d.r + (k:Int) < d.e by omega)] at hw
      rw [if_neg (show ¬ ((n:Int) = d.d ∧ d.r + (k:Int) = d.e) by omega)] at h4
      omega
  have hfu:fullB qs cs hs d (shipsF (arcsE qs cs bs hs d) fl) = false:=by
    unfold fullB;rw [anyT_none]
    intro n hn
    rw [anyT_none]
    intro k hk
    unfold fullAt
    rw [decide_eq_false_iff_not,Int.zero_add,hst n (d.r + k) (by omega) (by omega),if_neg (show ¬ ((n:Int) = d.d ∧ d.r + (k:Int) = d.e) by omega)]
    have hw:=hwt n hn (d.r + k) (by omega) (by omega)
    rw [if_pos (show d.r + (k:Int) < d.e by omega)] at hw
    omega
  unfold flowR
  rw [if_neg (by rw [hv]; simp),if_neg (fun h=>h hE),if_neg (by rw [hcf]; simp),if_neg (by rw [hfu]; simp)]
  congr 1
  obtain ⟨dd,hdd⟩:∃ n:Nat,d.d = n:=⟨d.d.toNat,by omega⟩
  have hs2:=hst dd d.e (by omega) (by omega)
  have hw:=hwt dd (by omega) d.e (by omega) (by omega)
  rw [if_neg (by omega)] at hw
  rw [if_pos ⟨hdd.symm,rfl⟩] at hs2;rw [hdd,hs2];omega
end
end Go.Step
/- The cut of a set of vertices. No program in sight. No conditions. -/
namespace Go.Step
def singI (d:Dm) (n:Int) (side:List Int):Iv:=(side.filter (fun v=>decide (v / wd d = n))).map (fun v=>(d.r + v % wd d,d.r + v % wd d + 1))
def sideI (d:Dm) (side:List Int) (n:Int):Iv:=insAll [] (singI d n side)
theorem singI_next (d:Dm) (n:Int) {side:List Int} {k:Nat} (h:k < side.length):singI d n (side.take (k + 1)) = singI d n (side.take k) ++ (if side[k] / wd d = n then [(d.r + side[k] % wd d,d.r + side[k] % wd d + 1)] else []):=by
  unfold singI;rw [List.take_succ_eq_append_getElem h,List.filter_append,List.map_append]
  congr 1
  by_cases hc:side[k] / wd d = n
  · simp [hc]
  · simp [hc]
theorem sideI_next (d:Dm) (n:Int) {side:List Int} {k:Nat} (h:k < side.length):sideI d (side.take (k + 1)) n = if side[k] / wd d = n then insI (sideI d (side.take k) n) (d.r + side[k] % wd d,d.r + side[k] % wd d + 1) else sideI d (side.take k) n:=by
  unfold sideI;rw [singI_next d n h];unfold insAll;rw [List.foldl_append]
  split <;> rfl
theorem singI_ok (d:Dm) (n:Int) (side:List Int):∀ x ∈ singI d n side,x.2 = x.1 + 1:=fun x hx=>by
  unfold singI at hx
  obtain ⟨v,_,rfl⟩:=List.mem_map.1 hx
  rfl
theorem mem_singI {d:Dm} {n t:Int} {side:List Int}:memI (singI d n side) t = true ↔ ∃ v ∈ side,v / wd d = n ∧ d.r + v % wd d = t:=by
  rw [memI_iff];unfold singI
  constructor
  · rintro ⟨x,hx,h1,h2⟩
    obtain ⟨v,hv,rfl⟩:=List.mem_map.1 hx
    obtain ⟨h3,h4⟩:=List.mem_filter.1 hv
    exact ⟨v,h3,of_decide_eq_true h4,by dsimp only at h1 h2; omega⟩
  · rintro ⟨v,hv,h1,h2⟩
    exact ⟨_,List.mem_map.2 ⟨v,List.mem_filter.2 ⟨hv,decide_eq_true h1⟩,rfl⟩,by dsimp only; omega,by dsimp only; omega⟩
theorem sideI_ok (d:Dm) (side:List Int) (n:Int):NormI (sideI d side n) ∧ (∀ t,memI (sideI d side n) t = true ↔ ∃ v ∈ side,v / wd d = n ∧ d.r + v % wd d = t) ∧ (sideI d side n).length ≤ side.length:=by
  obtain ⟨h1,h2,h3⟩:=insAll_ok (a:=[]) (b:=singI d n side) NormI.nil (fun x hx=>by have:=singI_ok d n side x hx; omega)
  refine ⟨h1,fun t=>?_,?_⟩
  · unfold sideI
    rw [h2,show memI [] t = false from rfl,Bool.false_or]
    exact mem_singI
  · have:(singI d n side).length ≤ side.length:=by
      unfold singI;rw [List.length_map];exact List.length_filter_le _ _
    unfold sideI
    simp at h3
    omega
theorem sideI_in {d:Dm} (hw:d.r ≤ d.e) (side:List Int) (n:Int):∀ x ∈ sideI d side n,d.r ≤ x.1 ∧ x.2 ≤ d.e + 1:=norm_in (sideI_ok d side n).1 (fun t ht=>by
  obtain ⟨v,_,_,h⟩:=((sideI_ok d side n).2.1 t).1 ht
  have a:=Int.emod_nonneg v (show wd d ≠ 0 by unfold wd; omega)
  have b:=Int.emod_lt_of_pos v (show 0 < wd d by unfold wd; omega)
  unfold wd at *
  omega)
def sidesC (d:Dm) (nq:Nat) (side:List Int):Cu:=(List.range nq).map (fun n:Nat=>sideI d side n)
section
variable {qs:List Int} {cs:List Ct} {bs:List Bk} {hs:List Hd} {d:Dm}
theorem capB_congr (h:VOk qs cs bs hs d) {B C:Int → Int → Bool} (hB:∀ n t:Int,0 ≤ n → n < (qs.length:Int) → d.r ≤ t → t ≤ d.e → B n t = C n t):capB qs cs bs hs d B = capB qs cs bs hs d C:=by
  unfold capB
  congr 1
  · refine sumT_congr (fun k hk=>?_)
    rw [← lsum_rngI,← lsum_rngI]
    refine lsum_congr (fun t ht=>?_)
    rw [mem_rngI] at ht;unfold waitB
    rw [hB _ t (by omega) (by omega) (by omega) (by omega),hB _ (t + 1) (by omega) (by omega) (by omega) (by omega)]
  · refine sumT_congr (fun k hk=>?_)
    rw [← lsum_rngI,← lsum_rngI]
    refine lsum_congr (fun t ht=>?_)
    rw [mem_rngI] at ht;unfold conB;rw [Int.zero_add,Int.toNat_natCast,List.getElem?_eq_getElem hk]
    have k1:=h.ct _ (List.getElem_mem hk)
    generalize cs[k] = x at k1
    dsimp only
    by_cases hx:t + 1 + x.g ≤ d.e
    · rw [hB _ t k1.1.1 k1.1.2 (by omega) (by omega),hB _ (t + 1 + x.g) k1.2.1.1 k1.2.1.2 (by omega) hx]
    · rw [if_neg (fun h2=>hx h2.2.2.1),if_neg (fun h2=>hx h2.2.2.1)]
end
end Go.Step
/- The shipments of a flow, one after the other; what Shipments answers. No program in sight. No conditions. -/
namespace Go.Step
open Go.Flow
variable {qs:List Int} {cs:List Ct} {bs:List Bk} {hs:List Hd} {d:Dm}
theorem shipsF_append:∀ {A B:List EA} {f g:List Int},A.length = f.length → shipsF (A ++ B) (f ++ g) = shipsF A f ++ shipsF B g
  | [],_,[],_,_=>rfl
  | [],_,_ :: _,_,h=>by simp at h
  | _ :: _,_,[],_,h=>by simp at h
  | x :: A,B,y :: f,g,h=>by
    simp only [List.cons_append,shipsF]
    rw [shipsF_append (by simpa using h),List.append_assoc]
theorem shipsF_next {L:List EA} {fl:List Int} (h:fl.length = L.length) {i:Nat} {x:EA} {y:Int} (hx:L[i]? = some x) (hy:fl[i]? = some y) :
    shipsF (L.take (i + 1)) (fl.take (i + 1)) = shipsF (L.take i) (fl.take i) ++ (if 0 ≤ x.c ∧ 0 < y then [⟨x.c,x.t,y⟩] else []):=by
  rw [List.take_add_one,List.take_add_one,hx,hy]
  rw [shipsF_append (by rw [List.length_take,List.length_take,h])]
  simp [shipsF]
theorem shipsF_len:∀ (L:List EA) (fl:List Int),(shipsF L fl).length ≤ L.length
  | [],_=>by simp [shipsF]
  | _ :: _,[]=>by simp [shipsF]
  | x :: L,y :: fl=>by
    have:=shipsF_len L fl
    simp only [shipsF,List.length_append,List.length_cons]
    split <;> simp <;> omega
def shipsE (qs:List Int) (cs:List Ct) (bs:List Bk) (hs:List Hd) (d:Dm) (fl:List Int):Int:=
  if validT qs cs bs hs d = true then (valueSpec (vsN qs d) (arcsG qs cs bs hs d) fl (vtx d d.s d.r) (vtx d d.d d.e)).2 else 1
def shipsR (qs:List Int) (cs:List Ct) (bs:List Bk) (hs:List Hd) (d:Dm) (fl:List Int):List Sh:=
  if shipsE qs cs bs hs d fl = 0 then shipsF (arcsE qs cs bs hs d) fl else []
theorem shipsE_len {fl:List Int} (hv:validT qs cs bs hs d = true) (h:shipsE qs cs bs hs d fl = 0):fl.length = (arcsE qs cs bs hs d).length:=by
  unfold shipsE at h;rw [if_pos hv] at h;unfold valueSpec at h
  split at h
  · rename_i hc; exact absurd h hc
  split at h
  · simp at h
  split at h
  · simp at h
  · rename_i hl
    have:(arcsG qs cs bs hs d).length = (arcsE qs cs bs hs d).length:=by unfold arcsG; rw [List.length_map]
    have hl':fl.length = (arcsG qs cs bs hs d).length:=by
      apply Classical.byContradiction
      intro hne
      exact hl hne
    omega
def sidesE (qs:List Int) (cs:List Ct) (bs:List Bk) (hs:List Hd) (d:Dm) (side:List Int):Int:=
  if validT qs cs bs hs d = true then (capacitySpec (vsN qs d) (arcsG qs cs bs hs d) side).2 else 1
theorem sideChk_in {n:Int}:∀ {l:List Int} {p:Option Int},sideChk n p l = 0 → ∀ v ∈ l,0 ≤ v ∧ v < n
  | [],_,_=>by simp
  | v :: l,p,h=>by
    unfold sideChk at h
    split at h
    · simp at h
    rename_i hv
    have h0:sideChk n (some v) l = 0:=by
      split at h
      · split at h
        · simp at h
        · exact h
      · simpa using h
    intro u hu
    rcases List.mem_cons.1 hu with rfl | hu
    · omega
    · exact sideChk_in h0 u hu
theorem sidesE_in {side:List Int} (hv:validT qs cs bs hs d = true) (h:sidesE qs cs bs hs d side = 0):∀ v ∈ side,0 ≤ v ∧ v < vsN qs d:=by
  unfold sidesE at h;rw [if_pos hv] at h;unfold capacitySpec at h
  split at h
  · rename_i hc; exact absurd h hc
  split at h
  · rename_i hc; exact absurd h hc
  · rename_i hc
    exact sideChk_in (p:=none) (by omega)
theorem sideI_one {a:Iv} (ha:NormI a) (t:Int):combI (fun x y=>x || y) a [(t,t + 1)] = insI a (t,t + 1):=by
  have h:=unionI_eq (a:=a) (b:=[(t,t + 1)]) ha (NormI.nil.cons (by dsimp only; omega) (by simp))
  exact h.symm
theorem sidesC_nil (d:Dm) (nq:Nat):sidesC d nq [] = List.replicate nq []:=by
  unfold sidesC
  apply List.ext_getElem?
  intro i
  rw [List.getElem?_map,List.getElem?_replicate]
  by_cases h:i < nq
  · rw [List.getElem?_range h,if_pos h]; rfl
  · rw [List.getElem?_eq_none (by simp; omega),if_neg h]; rfl
theorem sidesC_next (d:Dm) (nq:Nat) {side:List Int} {k:Nat} (h:k < side.length) {n:Nat} (hn:side[k] / wd d = n) :
    sidesC d nq (side.take (k + 1)) = (sidesC d nq (side.take k)).set n (insI (sideI d (side.take k) n) (d.r + side[k] % wd d,d.r + side[k] % wd d + 1)):=by
  unfold sidesC
  apply List.ext_getElem?
  intro i
  rw [List.getElem?_set,List.getElem?_map,List.getElem?_map,List.length_map,List.length_range]
  by_cases hi:i < nq
  · rw [List.getElem?_range hi]
    simp only [Option.map_some];rw [sideI_next d _ h]
    by_cases he:n = i
    · subst he
      rw [if_pos hn,if_pos rfl,if_pos hi]
    · rw [if_neg (by omega),if_neg he]
  · rw [List.getElem?_eq_none (by simp; omega)]
    by_cases he:n = i
    · rw [if_pos he,if_neg (by omega)]; rfl
    · rw [if_neg he]; rfl
theorem sidesC_len (d:Dm) (nq:Nat) (side:List Int):(sidesC d nq side).length = nq:=by simp [sidesC]
end Go.Step
/- What a node gets and sends by the shipments of a flow. No program in sight. No conditions. -/
namespace Go.Step
open Go.Flow (Flw fval okArc okEnds_iff)
variable {qs:List Int} {cs:List Ct} {bs:List Bk} {hs:List Hd} {d:Dm}
theorem shipsE_flow (h:VOk qs cs bs hs d) (hv:validT qs cs bs hs d = true) {fl:List Int} {N S T:Nat} (hN:vsN qs d = N) (hS:vtx d d.s d.r = S) (hT:vtx d d.d d.e = T) (hf:Flw N (arcsG qs cs bs hs d) S T fl):shipsE qs cs bs hs d fl = 0:=by
  unfold shipsE;rw [if_pos hv,hN,hS,hT]
  have h1:=h.chk
  have h2:=h.ends
  rw [hN] at h1 h2;rw [hS,hT] at h2;unfold Go.Flow.valueSpec
  rw [if_neg (fun h=>h h1),if_neg (by rw [h2]; simp),if_neg (fun h=>h hf.len.symm),if_neg (by rw [hf.cap]; simp),if_neg]
  have hb:Go.Flow.balanced (N:Int).toNat (arcsG qs cs bs hs d) fl S T = true:=by
    unfold Go.Flow.balanced;rw [List.all_eq_true]
    intro v hv
    rw [decide_eq_true_eq]
    have hv':v < N:=by simpa using hv
    by_cases c1:v = S
    · exact .inl (by omega)
    · by_cases c2:v = T
      · exact .inr (.inl (by omega))
      · exact .inr (.inr (hf.bal v hv' c1 c2))
  rw [hb]
  simp
end Go.Step
/- What is reached: a search by a queue. What Max and Cut hand back. No program in sight. No conditions. -/
namespace Go.Flow
def bget (B:List Bool) (v:Nat):Bool:=B.getD v false
theorem bget_set {B:List Bool} {i j:Nat} {x:Bool} (hi:i < B.length):bget (B.set i x) j = if i = j then x else bget B j:=by
  unfold bget;rw [List.getD_eq_getElem?_getD,List.getD_eq_getElem?_getD,List.getElem?_set]
  split
  · rename_i h; subst h; simp [hi]
  · rfl
theorem bget_rep (n v:Nat):bget (List.replicate n false) v = false:=by
  unfold bget;rw [List.getD_eq_getElem?_getD,List.getElem?_replicate]
  split <;> rfl
theorem bget_some {B:List Bool} {v:Nat} (h:v < B.length):B[v]? = some (bget B v):=by simp [bget,h]
structure RInv (n s:Nat) (E:Lk → Prop) (B:List Bool) (q:List Nat):Prop where
  len:B.length = n
  src:bget B s = true
  snd:∀ v,v < n → bget B v = true → Rch E s v
  qn:∀ v ∈ q,v < n ∧ bget B v = true
  cl:∀ u,u < n → bget B u = true → u ∉ q → ∀ x,E x → x.f = u → bget B x.t = true
structure RVInv (n s:Nat) (E:Lk → Prop) (B:List Bool) (v:Nat) (q:List Nat) (pre:List Lk):Prop where
  len:B.length = n
  src:bget B s = true
  snd:∀ v,v < n → bget B v = true → Rch E s v
  vn:v < n
  v0:bget B v = true
  qn:∀ v ∈ q,v < n ∧ bget B v = true
  cl:∀ u,u < n → bget B u = true → u ∉ q → u ≠ v → ∀ x,E x → x.f = u → bget B x.t = true
  pre0:∀ x ∈ pre,bget B x.t = true
section
variable {n s:Nat} {E:Lk → Prop} {B:List Bool}
theorem RInv.start (hs:s < n):RInv n s E ((List.replicate n false).set s true) [s]:=by
  have hg:∀ v,bget ((List.replicate n false).set s true) v = true → v = s:=fun v h=>by
    rw [bget_set (by simpa using hs),bget_rep] at h
    split at h
    · rename_i e; exact e.symm
    · simp at h
  refine ⟨by simp,by rw [bget_set (by simpa using hs)]; simp,fun v _ h=>by rw [hg v h]; exact .refl,fun v hv=>?_,fun u _ h hq=>?_⟩
  · simp at hv; subst hv
    exact ⟨hs,by rw [bget_set (by simpa using hs)]; simp⟩
  · exact absurd (by rw [hg u h]; simp) hq
theorem RInv.take {v:Nat} {q:List Nat} (h:RInv n s E B (v :: q)):RVInv n s E B v q []:=
  ⟨h.len,h.src,h.snd,(h.qn v (by simp)).1,(h.qn v (by simp)).2,fun u hu=>h.qn u (by simp [hu]),fun u hu hb hq hne=>h.cl u hu hb (by simp [hq,hne]),by simp⟩
theorem RVInv.seen {v:Nat} {q:List Nat} {pre:List Lk} {x:Lk} (h:RVInv n s E B v q pre) (hx:bget B x.t = true):RVInv n s E B v q (pre ++ [x]):=
  ⟨h.len,h.src,h.snd,h.vn,h.v0,h.qn,h.cl,fun y hy=>by
    rcases List.mem_append.1 hy with hy | hy
    · exact h.pre0 y hy
    · rw [List.mem_singleton.1 hy]; exact hx⟩
theorem RVInv.push {v:Nat} {q:List Nat} {pre:List Lk} {x:Lk} (h:RVInv n s E B v q pre) (hE:E x) (hxt:x.t < n) (hxf:x.f = v):RVInv n s E (B.set x.t true) v (q ++ [x.t]) (pre ++ [x]):=by
  have hl:x.t < B.length:=by rw [h.len]; exact hxt
  have hg:∀ u,bget B u = true → bget (B.set x.t true) u = true:=fun u hu=>by rw [bget_set hl]; split <;> simp [hu]
  refine ⟨by simp [h.len],hg _ h.src,fun u hu hb=>?_,h.vn,hg _ h.v0,fun u hu=>?_,fun u hu hb hq hne y hy hyf=>?_,fun y hy=>?_⟩
  · rw [bget_set hl] at hb
    split at hb
    · rename_i e; rw [← e]
      exact .step (by rw [hxf]; exact h.snd v h.vn h.v0) hE
    · exact h.snd u hu hb
  · rcases List.mem_append.1 hu with hu | hu
    · exact ⟨(h.qn u hu).1,hg _ (h.qn u hu).2⟩
    · rw [List.mem_singleton.1 hu]
      exact ⟨hxt,by rw [bget_set hl]; simp⟩
  · simp only [List.mem_append,List.mem_singleton,not_or] at hq
    rw [bget_set hl] at hb
    split at hb
    · rename_i e; exact absurd e.symm hq.2
    · exact hg _ (h.cl u hu hb hq.1 hne y hy hyf)
  · rcases List.mem_append.1 hy with hy | hy
    · exact hg _ (h.pre0 y hy)
    · rw [List.mem_singleton.1 hy,bget_set hl]; simp
theorem RVInv.done {v:Nat} {q:List Nat} {pre:List Lk} (h:RVInv n s E B v q pre) (hall:∀ x,E x → x.f = v → x ∈ pre):RInv n s E B q:=
  ⟨h.len,h.src,h.snd,h.qn,fun u hu hb hq x hx hxf=>by
    by_cases e:u = v
    · subst e; exact h.pre0 x (hall x hx hxf)
    · exact h.cl u hu hb hq e x hx hxf⟩
theorem RInv.reach (hE:∀ x,E x → x.f < n ∧ x.t < n) (hs:s < n) (h:RInv n s E B []):IsReach n E s (bget B):=by
  intro v hv
  refine ⟨h.snd v hv,fun hr=>?_⟩
  exact hr.sub h.src (fun x hx hb=>h.cl x.f (hE x hx).1 hb (by simp) x hx rfl)
end
def unm (B:List Bool):Nat:=(B.filter (fun b=>!b)).length
theorem unm_set:∀ {B:List Bool} {i:Nat},i < B.length → bget B i = false → unm (B.set i true) + 1 = unm B
  | [],i,h,_=>by simp at h
  | b :: B,0,h,hb=>by
    simp [bget] at hb; subst hb
    simp [unm]
  | b :: B,i + 1,h,hb=>by
    have:=unm_set (B:=B) (i:=i) (by simpa using h) (by simpa [bget] using hb)
    unfold unm at this ⊢
    cases b <;> simp <;> omega
def sideOf (B:List Bool) (k:Nat):List Int:=((List.range k).filter (fun v=>bget B v)).map (fun (v:Nat)=>(v:Int))
theorem sideOf_succ (B:List Bool) (k:Nat):sideOf B (k + 1) = sideOf B k ++ (if bget B k = true then [(k:Int)] else []):=by
  unfold sideOf;rw [List.range_succ,List.filter_append,List.map_append]
  congr 1
  cases h:bget B k <;> simp [h]
theorem sideOf_len (B:List Bool) (k:Nat):(sideOf B k).length ≤ k:=by
  unfold sideOf;rw [List.length_map]
  have:=List.length_filter_le (fun v=>bget B v) (List.range k)
  simpa using this
theorem mem_sideOf {B:List Bool} {k:Nat} {x:Int}:x ∈ sideOf B k ↔ ∃ v:Nat,x = v ∧ v < k ∧ bget B v = true:=by
  unfold sideOf;rw [List.mem_map]
  constructor
  · rintro ⟨v,hv,rfl⟩
    rw [List.mem_filter] at hv
    exact ⟨v,rfl,by simpa using hv.1,hv.2⟩
  · rintro ⟨v,rfl,h1,h2⟩
    exact ⟨v,by rw [List.mem_filter]; exact ⟨by simpa using h1,h2⟩,rfl⟩
theorem capOf_congr {n:Nat} {p q:Nat → Bool} (h:∀ v,v < n → p v = q v):∀ l:List Arc,(∀ a ∈ l,okArc n a = true) → capOf p l = capOf q l
  | [],_=>rfl
  | a :: l,hok=>by
    obtain ⟨g1,g2,g3,g4,_⟩:=okArc_iff.1 (hok a (by simp))
    simp only [capOf]
    rw [capOf_congr h l (fun b hb=>hok b (by simp [hb])),h a.f.toNat (by omega),h a.t.toNat (by omega)]
def maxErr (n:Int) (l:List Arc) (s t:Int):Int:=if chk n l ≠ 0 then chk n l else if okEnds n s t = true then 0 else 2
def MaxOK (n:Int) (l:List Arc) (s t:Int) (F:List Int) (m e:Int):Prop:=
  (maxErr n l s t ≠ 0 ∧ e = maxErr n l s t ∧ F = [] ∧ m = 0) ∨
  (maxErr n l s t = 0 ∧ e = 0 ∧ RunR n.toNat l s.toNat t.toNat (List.replicate l.length 0) F ∧ m = fval s l F)
def CutOK (n:Int) (l:List Arc) (s t:Int) (side:List Int) (c e:Int):Prop:=
  (maxErr n l s t ≠ 0 ∧ e = maxErr n l s t ∧ side = [] ∧ c = 0) ∨
  (maxErr n l s t = 0 ∧ e = 0 ∧ ∃ F B,RunR n.toNat l s.toNat t.toNat (List.replicate l.length 0) F ∧ IsReach n.toNat (rE l F) s.toNat (bget B) ∧ side = sideOf B n.toNat ∧ c = capOf (bget B) l)
structure Good (n:Int) (l:List Arc) (s t:Int) (n' s' t':Nat):Prop where
  en:n = n'
  es:s = s'
  et:t = t'
  sn:s' < n'
  tn:t' < n'
  ne:s' ≠ t'
  n2:n' ≤ 2000
  l2:l.length ≤ 20000
  ok:∀ a ∈ l,okArc n' a = true
  chk:Flow.chk n l = 0
  ends:okEnds n s t = true
theorem maxErr_good {n s t:Int} {l:List Arc} (h:maxErr n l s t = 0):∃ n' s' t':Nat,Good n l s t n' s' t':=by
  unfold maxErr at h
  split at h
  · rename_i h1; exact absurd h h1
  · rename_i h1
    split at h
    · rename_i h2
      have hc:Flow.chk n l = 0:=by omega
      obtain ⟨a1,a2,a3,a4⟩:=chk_ok hc
      obtain ⟨b1,b2,b3,b4,b5⟩:=okEnds_iff.1 h2
      refine ⟨n.toNat,s.toNat,t.toNat,⟨by omega,by omega,by omega,by omega,by omega,by omega,by omega,a3,?_,hc,h2⟩⟩
      have e:((n.toNat:Nat):Int) = n:=by omega
      rw [e]; exact a4
    · simp at h
theorem MaxOK.uniq {n s t:Int} {l:List Arc} {F G:List Int} {m k e f:Int} (h1:MaxOK n l s t F m e) (h2:MaxOK n l s t G k f):F = G ∧ m = k ∧ e = f:=by
  rcases h1 with ⟨a1,a2,a3,a4⟩ | ⟨a1,a2,a3,a4⟩ <;> rcases h2 with ⟨b1,b2,b3,b4⟩ | ⟨b1,b2,b3,b4⟩
  · exact ⟨by rw [a3,b3],by rw [a4,b4],by rw [a2,b2]⟩
  · exact absurd b1 a1
  · exact absurd a1 b1
  · obtain ⟨n',s',t',g⟩:=maxErr_good a1
    obtain ⟨rfl,rfl,rfl⟩:=And.intro g.en (And.intro g.es g.et)
    simp only [Int.toNat_natCast] at a3 b3
    have e:=a3.uniq g.ok b3
    subst e
    exact ⟨rfl,by rw [a4,b4],by rw [a2,b2]⟩
theorem sideOf_congr {B C:List Bool} {n:Nat} (h:∀ v,v < n → bget B v = bget C v):sideOf B n = sideOf C n:=by
  unfold sideOf
  congr 1
  apply List.filter_congr
  intro v hv
  exact h v (by simpa using hv)
theorem reach_uniq {n s:Nat} {E:Lk → Prop} {p q:Nat → Bool} (h1:IsReach n E s p) (h2:IsReach n E s q):∀ v,v < n → p v = q v:=fun v hv=>by
  have a:=h1 v hv
  have b:=h2 v hv
  cases e1:p v <;> cases e2:q v <;> simp_all
theorem CutOK.uniq {n s t:Int} {l:List Arc} {F G:List Int} {m k e f:Int} (h1:CutOK n l s t F m e) (h2:CutOK n l s t G k f):F = G ∧ m = k ∧ e = f:=by
  rcases h1 with ⟨a1,a2,a3,a4⟩ | ⟨a1,a2,F1,B1,r1,i1,d1,c1⟩ <;> rcases h2 with ⟨b1,b2,b3,b4⟩ | ⟨b1,b2,F2,B2,r2,i2,d2,c2⟩
  · exact ⟨by rw [a3,b3],by rw [a4,b4],by rw [a2,b2]⟩
  · exact absurd b1 a1
  · exact absurd a1 b1
  · obtain ⟨n',s',t',g⟩:=maxErr_good a1
    obtain ⟨rfl,rfl,rfl⟩:=And.intro g.en (And.intro g.es g.et)
    simp only [Int.toNat_natCast] at *
    have e:=r1.uniq g.ok r2
    subst e
    have hb:=reach_uniq i1 i2
    exact ⟨by rw [d1,d2]; exact sideOf_congr hb,by rw [c1,c2]; exact capOf_congr hb l g.ok,by rw [a2,b2]⟩
end Go.Flow
namespace Go.Flow
theorem unm_rep (n:Nat):unm (List.replicate n false) = n:=by
  unfold unm;rw [List.filter_replicate]
  simp
theorem unm_start {n s:Nat} (hs:s < n):unm ((List.replicate n false).set s true) + 1 = n:=by
  have:=unm_set (B:=List.replicate n false) (i:=s) (by simpa using hs) (bget_rep n s)
  rw [unm_rep] at this;exact this
end Go.Flow
/- Maximum flows of time-expanded networks: least cuts, and less of what is there. No program in sight. No conditions. -/
namespace Go.Step
open Go.Flow (Flw fval okArc okArc_iff okEnds_iff capOf MaxOK maxErr RunR run_cut exists_reach)
section
variable {qs:List Int} {cs:List Ct} {bs:List Bk} {hs:List Hd} {d:Dm}
def MaxN (qs:List Int) (cs:List Ct) (bs:List Bk) (hs:List Hd) (d:Dm) (F:List Int) (m e:Int):Prop:=MaxOK (vsN qs d) (arcsG qs cs bs hs d) (vtx d d.s d.r) (vtx d d.d d.e) F m e
theorem max_err (h:VOk qs cs bs hs d):maxErr (vsN qs d) (arcsG qs cs bs hs d) (vtx d d.s d.r) (vtx d d.d d.e) = 0:=by
  unfold maxErr;rw [h.chk,h.ends]
  rfl
theorem max_cut (h:VOk qs cs bs hs d) {F:List Int} {m e:Int} (hm:MaxN qs cs bs hs d F m e):e = 0 ∧ ∃ N S T:Nat,vsN qs d = N ∧ vtx d d.s d.r = S ∧ vtx d d.d d.e = T ∧ Flw N (arcsG qs cs bs hs d) S T F ∧ m = fval S (arcsG qs cs bs hs d) F ∧
    ∃ P:Int → Int → Bool,P d.s d.r = true ∧ P d.d d.e = false ∧ m = capB qs cs bs hs d P:=by
  have hends:=okEnds_iff.1 h.ends
  obtain ⟨N,hN⟩:∃ N:Nat,vsN qs d = N:=⟨(vsN qs d).toNat,by omega⟩
  obtain ⟨S,hS⟩:∃ N:Nat,vtx d d.s d.r = N:=⟨(vtx d d.s d.r).toNat,by omega⟩
  obtain ⟨T,hT⟩:∃ N:Nat,vtx d d.d d.e = N:=⟨(vtx d d.d d.e).toNat,by omega⟩
  have hok:=h.ok
  unfold MaxN at hm
  have he:=max_err h
  rw [hN] at hok;rw [hN,hS,hT] at hm hends he
  rcases hm with ⟨a1,_⟩ | ⟨_,a2,a3,a4⟩
  · exact absurd he a1
  simp only [Int.toNat_natCast] at a3
  obtain ⟨B,hB⟩:=exists_reach N (Go.Flow.rE (arcsG qs cs bs hs d) F) S
  obtain ⟨f1,f2,f3,f4⟩:=run_cut hok (by omega) (by omega) (by omega) a3 hB
  refine ⟨a2,N,S,T,hN,hS,hT,f1,a4,fun n t=>B (vtx d n t).toNat,by show B (vtx d d.s d.r).toNat = true; rw [hS]; exact f2,by show B (vtx d d.d d.e).toNat = false; rw [hT]; exact f3,?_⟩
  rw [a4,f4,capB_eq h]
theorem flow_le_cap (h:VOk qs cs bs hs d) {fl:List Int} {N S T:Nat} (hN:vsN qs d = N) (hS:vtx d d.s d.r = S) (hT:vtx d d.d d.e = T) (hf:Flw N (arcsG qs cs bs hs d) S T fl) {P:Int → Int → Bool} (h1:P d.s d.r = true) (h2:P d.d d.e = false):fval S (arcsG qs cs bs hs d) fl ≤ capB qs cs bs hs d P:=by
  have hdm:=h.dm
  unfold okDm at hdm
  have hok:=h.ok
  have hends:=okEnds_iff.1 h.ends
  rw [hN] at hok
  have b1:bq d P S = true:=by
    have:=bq_vtx (d:=d) (P:=P) (n:=d.s) (t:=d.r) hdm.1.1 (by omega) (by omega)
    rw [hS,Int.toNat_natCast] at this;rw [this]; exact h1
  have b2:bq d P T = false:=by
    have:=bq_vtx (d:=d) (P:=P) (n:=d.d) (t:=d.e) hdm.2.1.1 (by omega) (by omega)
    rw [hT,Int.toNat_natCast] at this;rw [this]; exact h2
  have:=hf.le_cap hok (by omega) b1 b2
  rw [capB_eq h] at this
  rwa [capB_congr h (C:=P) (fun n t g0 g1 g2 g3=>bq_vtx g0 g2 g3)] at this
theorem lsum_le {α:Type} {f g:α → Int} {l:List α} (h:∀ x ∈ l,f x ≤ g x):lsum f l ≤ lsum g l:=by
  induction l with
  | nil=>exact Int.le_refl _
  | cons x l ih=>have:=h x (by simp); have:=ih (fun y hy=>h y (by simp [hy])); simp only [lsum]; omega
theorem lsum_nonneg {α:Type} {f:α → Int} {l:List α} (h:∀ x ∈ l,0 ≤ f x):0 ≤ lsum f l:=by
  have:=lsum_le (f:=fun _=>0) h
  rwa [lsum_zero] at this
theorem lsum_mem {α:Type} {f:α → Int} {l:List α} (h:∀ x ∈ l,0 ≤ f x) {x:α} (hx:x ∈ l):f x ≤ lsum f l:=by
  induction l with
  | nil=>simp at hx
  | cons y l ih =>
    have h1:=h y (by simp)
    have h2:=lsum_nonneg (f:=f) (l:=l) (fun z hz=>h z (by simp [hz]))
    simp only [lsum]
    rcases List.mem_cons.1 hx with rfl | hx
    · omega
    · have:=ih (fun z hz=>h z (by simp [hz])) hx
      omega
theorem waitB_nonneg (h:VOk qs cs bs hs d) (P:Int → Int → Bool) {n:Nat} (hn:n < qs.length) (t:Int):0 ≤ waitB qs hs d P n t:=by
  unfold waitB
  have:=h.room n hn t
  split <;> omega
theorem conB_nonneg (h:VOk qs cs bs hs d) (P:Int → Int → Bool) {i:Nat} (hi:i < cs.length) (t:Int):0 ≤ conB cs bs d P i t ∧ conB cs bs d P i t ≤ 1000:=by
  unfold conB;rw [Int.toNat_natCast,List.getElem?_eq_getElem hi]
  have:=(h.ct _ (List.getElem_mem hi)).2.2.2.1
  dsimp only
  split <;> omega
theorem capB_wait_le (h:VOk qs cs bs hs d) (P:Int → Int → Bool) {n:Nat} (hn:n < qs.length) {t:Int} (h1:d.r ≤ t) (h2:t < d.e):waitB qs hs d P n t ≤ capB qs cs bs hs d P:=by
  have hw:∀ k:Nat,k < qs.length → 0 ≤ sumU (waitB qs hs d P k) d.r d.e:=fun k hk=>by
    rw [← lsum_rngI]
    exact lsum_nonneg (fun t _=>waitB_nonneg h P hk t)
  have hc:0 ≤ sumT (fun i=>sumU (conB cs bs d P i) d.r d.e) 0 cs.length:=by
    rw [← lsum_range]
    refine lsum_nonneg (fun i hi=>?_)
    obtain ⟨k,hk,rfl⟩:=List.mem_map.1 hi
    rw [List.mem_range] at hk;rw [← lsum_rngI,Int.zero_add]
    exact lsum_nonneg (fun t _=>(conB_nonneg h P hk t).1)
  have h3:sumU (waitB qs hs d P n) d.r d.e ≤ sumT (fun n=>sumU (waitB qs hs d P n) d.r d.e) 0 qs.length:=by
    rw [← lsum_range]
    refine lsum_mem (f:=fun n=>sumU (waitB qs hs d P n) d.r d.e) (fun i hi=>?_) (List.mem_map.2 ⟨n,List.mem_range.2 hn,by omega⟩)
    obtain ⟨k,hk,rfl⟩:=List.mem_map.1 hi
    rw [List.mem_range] at hk
    have:=hw k hk
    rwa [Int.zero_add]
  have h4:waitB qs hs d P n t ≤ sumU (waitB qs hs d P n) d.r d.e:=by
    rw [← lsum_rngI]
    exact lsum_mem (f:=waitB qs hs d P n) (fun u _=>waitB_nonneg h P hn u) (mem_rngI.2 ⟨h1,h2⟩)
  unfold capB;omega
end
end Go.Step
/- How many ticks a set has; the sets of a set of vertices have as many as it has. No program in sight. No conditions. -/
namespace Go.Step
open Go.Flow (sideChk capacitySpec)
variable {qs:List Int} {cs:List Ct} {bs:List Bk} {hs:List Hd} {d:Dm}
end Go.Step
/- The sides of a cut are short. No program in sight. No conditions. -/
namespace Go.Step
theorem norm_len:∀ {l:Iv} {a b:Int},NormI l → (∀ x ∈ l,a ≤ x.1 ∧ x.2 ≤ b) → (l.length:Int) ≤ max 0 (b - a)
  | [],a,b,_,_=>by simp only [List.length_nil]; omega
  | x :: l,a,b,h,hb=>by
    have h1:=hb x (by simp)
    have h2:=h.1 x (by simp)
    have hp:=List.pairwise_cons.1 h.2
    have ih:=norm_len (l:=l) (a:=x.2 + 1) (b:=b) ⟨fun y hy=>h.1 y (by simp [hy]),hp.2⟩ (fun y hy=>by
      have h3:=hp.1 y hy
      have h4:=hb y (by simp [hy])
      exact ⟨by omega,h4.2⟩)
    rw [List.length_cons];omega
section
variable {qs:List Int} {cs:List Ct} {bs:List Bk} {hs:List Hd} {d:Dm}
theorem sideI_small (h:VOk qs cs bs hs d) (side:List Int) (n:Int):(sideI d side n).length ≤ 102:=by
  have hdm:=h.dm
  unfold okDm at hdm
  have:=norm_len (sideI_ok d side n).1 (sideI_in (d:=d) (by omega) side n)
  omega
theorem sideI_chk (h:VOk qs cs bs hs d) (side:List Int) (n:Int):chkI (sideI d side n) = 0:=by
  have hdm:=h.dm
  unfold okDm at hdm
  have h1:=(sideI_ok d side n).1
  have h2:=sideI_small h side n
  refine chkI_of (by omega) h1 (fun x hx=>?_)
  have a:=sideI_in (d:=d) (by omega) side n x hx
  have b:=h1.1 x hx
  exact ⟨b,by omega,by omega⟩
end
end Go.Step
/- Distances found level by level, over all links again and again; the first link that leads nearer; what is reached by n rounds. No program in sight. No conditions. -/
namespace Go.Flow
structure LInv (n t : Nat) (E : Lk → Prop) (D : List Int) (d : Nat) (pre : List Lk) : Prop where
  len : D.length = n
  low : ∀ v, v < n → -1 ≤ D.getD v 0
  hi : ∀ v, v < n → D.getD v 0 ≤ (d : Int) + 1
  at0 : D.getD t 0 = 0
  zero : ∀ v, v < n → D.getD v 0 = 0 → v = t
  step : ∀ v, v < n → 0 < D.getD v 0 → ∃ x, E x ∧ x.f = v ∧ D.getD x.t 0 = D.getD v 0 - 1
  old : ∀ x, E x → 0 ≤ D.getD x.t 0 → D.getD x.t 0 < (d : Int) → 0 ≤ D.getD x.f 0 ∧ D.getD x.f 0 ≤ D.getD x.t 0 + 1
  pre0 : ∀ x ∈ pre, E x → D.getD x.t 0 = (d : Int) → 0 ≤ D.getD x.f 0
section
variable {n t : Nat} {E : Lk → Prop} {D : List Int} {d : Nat}
theorem LInv.start (ht : t < n) : LInv n t E ((List.replicate n (-1)).set t 0) 0 [] ∧ ∀ v, v < n → ((List.replicate n (-1 : Int)).set t 0).getD v 0 ≤ ((0 : Nat) : Int) := by
  have hg : ∀ v, v < n → ((List.replicate n (-1 : Int)).set t 0).getD v 0 = if t = v then 0 else -1 := fun v hv => by
    rw [getD_set (by simpa using ht)]
    split
    · rfl
    · exact getD_rep hv _
  have hlt : ∀ v, v < n → ((List.replicate n (-1 : Int)).set t 0).getD v 0 ≤ 0 := fun v hv => by rw [hg v hv]; split <;> omega
  refine ⟨⟨by simp, fun v hv => by rw [hg v hv]; split <;> omega, fun v hv => by have := hlt v hv; omega, by rw [hg t ht]; simp, fun v hv h => ?_, fun v hv h => by have := hlt v hv; omega, fun x _ h1 h2 => by omega, by simp⟩, hlt⟩
  rw [hg v hv] at h
  split at h
  · rename_i e; exact e.symm
  · omega
theorem LInv.skip {pre : List Lk} {x : Lk} (h : LInv n t E D d pre) (hx : E x → D.getD x.t 0 = (d : Int) → 0 ≤ D.getD x.f 0) : LInv n t E D d (pre ++ [x]) :=
  ⟨h.len, h.low, h.hi, h.at0, h.zero, h.step, h.old, fun y hy => by
    rcases List.mem_append.1 hy with hy | hy
    · exact h.pre0 y hy
    · rw [List.mem_singleton.1 hy]; exact hx⟩
theorem LInv.next {ls : List Lk} {pre : List Lk} (hsub : ∀ x, E x → x ∈ ls) (hE : ∀ x, E x → x.f < n ∧ x.t < n) (hp : ∀ x ∈ ls, x ∈ pre) (h : LInv n t E D d pre) : LInv n t E D (d + 1) [] :=
  ⟨h.len, h.low, fun v hv => by have := h.hi v hv; omega, h.at0, h.zero, h.step, fun x hx h1 h2 => by
    by_cases e : D.getD x.t 0 = (d : Int)
    · have := h.pre0 x (hp x (hsub x hx)) hx e
      have := h.hi x.f (hE x hx).1
      omega
    · exact h.old x hx h1 (by omega), by simp⟩
theorem LInv.dist (hE : ∀ x, E x → x.f < n ∧ x.t < n) (h : LInv n t E D (d + 1) []) (hno : ∀ v, v < n → D.getD v 0 ≤ (d : Int)) : IsDist n t E D :=
  ⟨h.len, h.low, h.at0, h.zero, fun x hx h1 => h.old x hx h1 (by have := hno x.t (hE x hx).2; omega), h.step⟩
end
inductive RchN (E : Lk → Prop) (s : Nat) : Nat → Nat → Prop
  | refl {k : Nat} : RchN E s k s
  | step {k : Nat} {x : Lk} : RchN E s k x.f → E x → RchN E s (k + 1) x.t
theorem RchN.mono {E : Lk → Prop} {s k m v : Nat} (h : RchN E s k v) (hk : k ≤ m) : RchN E s m v := by
  induction h generalizing m with
  | refl => exact .refl
  | step _ hx ih =>
    obtain ⟨m', rfl⟩ : ∃ m', m = m' + 1 := ⟨m - 1, by omega⟩
    exact .step (ih (by omega)) hx
structure KInv (n s : Nat) (E : Lk → Prop) (B : List Bool) (r : Nat) (pre : List Lk) : Prop where
  len : B.length = n
  snd : ∀ v, v < n → bget B v = true → Rch E s v
  cmp : ∀ v, v < n → RchN E s r v → bget B v = true
  pre0 : ∀ x ∈ pre, E x → RchN E s r x.f → bget B x.t = true
section
variable {n s : Nat} {E : Lk → Prop} {B : List Bool} {r : Nat}
theorem KInv.start (hs : s < n) : KInv n s E ((List.replicate n false).set s true) 0 [] := by
  have hl : s < (List.replicate n false).length := by simpa using hs
  refine ⟨by simp, fun v _ h => ?_, fun v hv h => ?_, by simp⟩
  · rw [bget_set hl, bget_rep] at h
    split at h
    · rename_i e; rw [← e]; exact .refl
    · simp at h
  · cases h with
    | refl => rw [bget_set hl]; simp
theorem KInv.skip {pre : List Lk} {x : Lk} (h : KInv n s E B r pre) (hx : E x → bget B x.f = false) (hE : ∀ x, E x → x.f < n ∧ x.t < n) : KInv n s E B r (pre ++ [x]) :=
  ⟨h.len, h.snd, h.cmp, fun y hy hyE hr => by
    rcases List.mem_append.1 hy with hy | hy
    · exact h.pre0 y hy hyE hr
    · rw [List.mem_singleton.1 hy] at hyE hr ⊢
      have := h.cmp x.f (hE x hyE).1 hr
      rw [hx hyE] at this; simp at this⟩
theorem KInv.next {ls pre : List Lk} (hsub : ∀ x, E x → x ∈ ls) (hp : ∀ x ∈ ls, x ∈ pre) (hs : s < n) (h : KInv n s E B r pre) : KInv n s E B (r + 1) [] :=
  ⟨h.len, h.snd, fun v hv hr => by
    cases hr with
    | refl => exact h.cmp s hs .refl
    | @step _ x hr hx => exact h.pre0 x (hp x (hsub x hx)) hx hr, by simp⟩
end
theorem pigeon : ∀ (n : Nat) (f : List Nat), f.Nodup → (∀ v ∈ f, v < n) → f.length ≤ n
  | 0, f, _, h => by
    cases f with
    | nil => simp
    | cons a f => exact absurd (h a (by simp)) (by omega)
  | n + 1, f, hn, h => by
    have h1 := pigeon n (f.erase n) (hn.erase n) (fun v hv => by
      have h2 := (hn.mem_erase_iff).1 hv
      have := h v h2.2
      have := h2.1
      omega)
    rw [List.length_erase] at h1
    split at h1 <;> omega
theorem rchN_of {n s : Nat} {E : Lk → Prop} (hE : ∀ x, E x → x.f < n ∧ x.t < n) (hs : s < n) {v : Nat} (h : Rch E s v) : RchN E s n v := by
  -- the sets of what is reached by k links grow, or stay for ever
  let S : Nat → Nat → Prop := fun k v => RchN E s k v
  have key : ∀ k, (∀ v, S (k + 1) v → S k v) ∨ ∃ f : List Nat, f.length = k + 2 ∧ f.Nodup ∧ ∀ v ∈ f, v < n ∧ S (k + 1) v := by
    intro k
    induction k with
    | zero =>
      by_cases hc : ∀ v, S 1 v → S 0 v
      · exact .inl hc
      · right
        simp only [Classical.not_forall] at hc
        obtain ⟨v, h1, h2⟩ := hc
        have hvn : v < n := by cases h1 with
          | refl => exact hs
          | step _ hx => exact (hE _ hx).2
        refine ⟨[v, s], rfl, ?_, ?_⟩
        · simp only [List.nodup_cons, List.mem_singleton, List.not_mem_nil, not_false_eq_true, List.nodup_nil, and_true]
          rintro rfl;exact h2 .refl
        · intro u hu
          simp at hu
          rcases hu with rfl | rfl
          · exact ⟨hvn, h1⟩
          · exact ⟨hs, .refl⟩
    | succ k ih =>
      by_cases hc : ∀ v, S (k + 2) v → S (k + 1) v
      · exact .inl hc
      · rcases ih with ih | ⟨f, f1, f2, f3⟩
        · -- nothing new came before: nothing new can come
          exfalso
          apply hc
          intro v hv
          cases hv with
          | refl => exact .refl
          | step hr hx => exact .step (ih _ hr) hx
        · right
          simp only [Classical.not_forall] at hc
          obtain ⟨v, h1, h2⟩ := hc
          have hvn : v < n := by cases h1 with
            | refl => exact hs
            | step _ hx => exact (hE _ hx).2
          refine ⟨v :: f, by simp [f1], List.nodup_cons.2 ⟨fun hm => h2 (f3 v hm).2, f2⟩, ?_⟩
          intro u hu
          simp at hu
          rcases hu with rfl | hu
          · exact ⟨hvn, h1⟩
          · exact ⟨(f3 u hu).1, (f3 u hu).2.mono (by omega)⟩
  have hcl : ∀ v, S (n + 1) v → S n v := by
    rcases key n with h | ⟨f, f1, f2, f3⟩
    · exact h
    · exfalso
      have : f.length ≤ n := pigeon n f f2 (fun v hv => (f3 v hv).1)
      omega
  induction h with
  | refl => exact .refl
  | step _ hx ih => exact hcl _ (.step ih hx)
theorem KInv.reach {n s : Nat} {E : Lk → Prop} {B : List Bool} (hE : ∀ x, E x → x.f < n ∧ x.t < n) (hs : s < n) (h : KInv n s E B n []) : IsReach n E s (bget B) :=
  fun v hv => ⟨h.snd v hv, fun hr => h.cmp v hv (rchN_of hE hs hr)⟩
end Go.Flow
/- The example of the chapter; the laws on maximum flows, cuts and paths, in plain words. No program in sight. No conditions. -/
namespace Go.Flow
/-! ### the laws -/
section
variable {n s t:Int} {l:List Arc}
theorem value_flw {F:List Int} {v:Int} (h:valueSpec n l F s t = (v,0)):∃ n' s' t':Nat,Good n l s t n' s' t' ∧ Flw n' l s' t' F ∧ v = fval s l F:=by
  unfold valueSpec at h
  split at h
  · rename_i h1; simp only [Prod.mk.injEq] at h; exact absurd h.2 h1
  · rename_i h1
    split at h
    · simp at h
    · rename_i h2
      split at h
      · simp at h
      · rename_i h3
        split at h
        · simp at h
        · rename_i h4
          split at h
          · simp at h
          · rename_i h5
            simp only [Prod.mk.injEq,and_true] at h
            have hm:maxErr n l s t = 0:=by
              unfold maxErr
              rw [if_neg h1,if_pos (by simpa using h2)]
            obtain ⟨n',s',t',g⟩:=maxErr_good hm
            obtain ⟨rfl,rfl,rfl⟩:=And.intro g.en (And.intro g.es g.et)
            refine ⟨n',s',t',g,⟨by omega,by simpa using h4,fun v hv g1 g2=>?_⟩,h.symm⟩
            simp only [Bool.not_eq_false] at h5;unfold balanced at h5;rw [List.all_eq_true] at h5
            have:=h5 v (by simpa using hv)
            rw [decide_eq_true_eq] at this
            rcases this with h | h | h
            · exact absurd (by omega) g1
            · exact absurd (by omega) g2
            · exact h
theorem side_chk (B:List Bool) (n:Nat):∀ (k:Nat),k ≤ n → ∀ (r:List Int) (p:Option Int),(∀ q,p = some q → ∃ m:Nat,q = m ∧ m < k) → sideChk n p (((List.range' k (n - k)).filter (fun v=>bget B v)).map (fun (v:Nat)=>(v:Int))) = 0:=by
  intro k hk r p hp
  generalize hd:n - k = d
  induction d generalizing k p with
  | zero=>simp [sideChk]
  | succ d ih =>
    rw [List.range'_succ,List.filter_cons]
    split
    · simp only [List.map_cons,sideChk]
      rw [if_neg (by omega),if_neg]
      · exact ih (k + 1) (by omega) _ (fun q hq=>⟨k,by simpa using hq.symm,by omega⟩) (by omega)
      · cases p with
        | none=>simp
        | some q =>
          obtain ⟨m,rfl,hm⟩:=hp q rfl
          simp; omega
    · exact ih (k + 1) (by omega) _ (fun q hq=>by obtain ⟨m,h1,h2⟩:=hp q hq; exact ⟨m,h1,by omega⟩) (by omega)
theorem sideOf_chk (B:List Bool) (n:Nat):sideChk n none (sideOf B n) = 0:=by
  have:=side_chk B n 0 (by omega) [] none (by simp)
  rw [Nat.sub_zero,← List.range_eq_range'] at this;exact this
end
end Go.Flow
/- The least cut of the network. No program in sight. No conditions. -/
namespace Go.Step
open Go.Flow (MaxOK CutOK maxErr okEnds_iff run_cut RunR capacitySpec sideOf bget mem_sideOf sideOf_chk sideOf_len fval)
variable {qs:List Int} {cs:List Ct} {bs:List Bk} {hs:List Hd} {d:Dm}
def CutN (qs:List Int) (cs:List Ct) (bs:List Bk) (hs:List Hd) (d:Dm) (side:List Int) (c e:Int):Prop:=CutOK (vsN qs d) (arcsG qs cs bs hs d) (vtx d d.s d.r) (vtx d d.d d.e) side c e
theorem cut_facts (h:VOk qs cs bs hs d) (hv:validT qs cs bs hs d = true) {F side:List Int} {m e c e':Int} (hm:MaxN qs cs bs hs d F m e) (hc:CutN qs cs bs hs d side c e') :
    e' = 0 ∧ c = m ∧ sidesE qs cs bs hs d side = 0 ∧ vtx d d.s d.r ∈ side ∧ vtx d d.d d.e ∉ side ∧ side.length ≤ 1616:=by
  have hends:=okEnds_iff.1 h.ends
  have hvs:=h.vs
  have hchk:=h.chk
  obtain ⟨N,hN⟩:∃ N:Nat,vsN qs d = N:=⟨(vsN qs d).toNat,by omega⟩
  obtain ⟨S,hS⟩:∃ N:Nat,vtx d d.s d.r = N:=⟨(vtx d d.s d.r).toNat,by omega⟩
  obtain ⟨T,hT⟩:∃ N:Nat,vtx d d.d d.e = N:=⟨(vtx d d.d d.e).toNat,by omega⟩
  have hok:=h.ok
  unfold MaxN at hm;unfold CutN at hc
  have he:=max_err h
  rw [hN] at hok hchk hvs;rw [hN,hS,hT] at hm hends he hc
  rcases hm with ⟨a1,_⟩ | ⟨_,a2,a3,a4⟩
  · exact absurd he a1
  rcases hc with ⟨b1,_⟩ | ⟨_,b2,F',B,b3,b4,b5,b6⟩
  · exact absurd he b1
  simp only [Int.toNat_natCast] at a3 b3 b4 b5
  obtain ⟨f1,f2,f3,f4⟩:=run_cut hok (by omega) (by omega) (by omega) b3 b4
  have:=b3.uniq hok a3
  subst this
  have hl:=sideOf_len B N
  refine ⟨b2,by rw [b6,← f4,a4],?_,?_,?_,by rw [b5]; omega⟩
  · unfold sidesE
    rw [if_pos hv,hN];unfold capacitySpec
    rw [if_neg (fun h=>h hchk),if_neg (fun h=>h (by rw [b5]; exact sideOf_chk B N))]
  · rw [hS,b5,mem_sideOf]
    exact ⟨S,rfl,by omega,f2⟩
  · rw [hT,b5,mem_sideOf]
    rintro ⟨v,e1,_,e3⟩
    have:v = T:=by omega
    subst this;rw [f3] at e3
    simp at e3
end Go.Step
/- Bounds on what Max hands back; a capacity raised. No program in sight. No conditions. -/
namespace Go.Flow
end Go.Flow
/- What Paths hands back. No program in sight. No conditions. -/
namespace Go.Flow
def PathsOK (n:Int) (l:List Arc) (fl:List Int) (s t:Int) (ps:List (List Lk × Int)) (e:Int):Prop:=
  ((valueSpec n l fl s t).2 ≠ 0 ∧ e = (valueSpec n l fl s t).2 ∧ ps = []) ∨
  ((valueSpec n l fl s t).2 = 0 ∧ e = 0 ∧ ∃ r,RunP n.toNat l s.toNat t.toNat fl ps r)
theorem value_good {n s t:Int} {l:List Arc} {fl:List Int} (h:(valueSpec n l fl s t).2 = 0):∃ n' s' t':Nat,Good n l s t n' s' t' ∧ Flw n' l s' t' fl ∧ (valueSpec n l fl s t).1 = fval s l fl:=by
  obtain ⟨n',s',t',g,hF,hv⟩:=value_flw (F:=fl) (v:=(valueSpec n l fl s t).1) (by rw [← h])
  exact ⟨n',s',t',g,hF,hv⟩
theorem PathsOK.uniq {n s t e f:Int} {l:List Arc} {fl:List Int} {ps qs:List (List Lk × Int)} (h1:PathsOK n l fl s t ps e) (h2:PathsOK n l fl s t qs f):ps = qs ∧ e = f:=by
  rcases h1 with ⟨a1,a2,a3⟩ | ⟨a1,a2,r1,a3⟩ <;> rcases h2 with ⟨b1,b2,b3⟩ | ⟨b1,b2,r2,b3⟩
  · exact ⟨by rw [a3,b3],by rw [a2,b2]⟩
  · exact absurd b1 a1
  · exact absurd a1 b1
  · obtain ⟨n',s',t',g,_,_⟩:=value_good a1
    obtain ⟨rfl,rfl,rfl⟩:=And.intro g.en (And.intro g.es g.et)
    simp only [Int.toNat_natCast] at a3 b3
    exact ⟨(a3.uniq g.ok b3).1,by rw [a2,b2]⟩
theorem RunP.cons {n s t:Nat} {l:List Arc} {fl r:List Int} {p:List Lk × Int} {ps:List (List Lk × Int)} (h:RunP n l s t fl (p :: ps) r) :
    ∃ D,IsDist n t (pE l fl) D ∧ 0 ≤ D.getD s 0 ∧ p.1 = pP l fl D s ∧ p.2 = pRoom l fl D s ∧ RunP n l s t (pNext l fl D s) ps r:=by
  cases h with
  | step hD h0 hr=>exact ⟨_,hD,h0,rfl,rfl,hr⟩
theorem RunP.nil {n s t:Nat} {l:List Arc} {fl r:List Int} (h:RunP n l s t fl [] r):r = fl ∧ ∃ D,IsDist n t (pE l fl) D ∧ D.getD s 0 < 0:=by
  cases h with
  | done hD hn=>exact ⟨rfl,_,hD,hn⟩
end Go.Flow
namespace Go.Flow
/-! ### each path uses up an arc -/
def npos (l:List Int):Nat:=l.countP (fun x=>decide (0 < x))
theorem npos_le:∀ (a b:List Int),a.length = b.length → (∀ k:Nat,b.getD k 0 ≤ a.getD k 0) → npos b ≤ npos a
  | [],[],_,_=>Nat.le_refl _
  | x :: a,y :: b,hl,h=>by
    have ih:=npos_le a b (by simpa using hl) (fun k=>by simpa using h (k + 1))
    have h0:=h 0
    simp only [List.getD_cons_zero] at h0;unfold npos at ih ⊢;simp only [List.countP_cons]
    by_cases h1:0 < y
    · rw [if_pos (by simpa using h1),if_pos (by simp; omega)]; omega
    · rw [if_neg (by simpa using h1)]; omega
theorem npos_lt:∀ (a b:List Int),a.length = b.length → (∀ k:Nat,b.getD k 0 ≤ a.getD k 0) → ∀ j:Nat,0 < a.getD j 0 → b.getD j 0 ≤ 0 → npos b + 1 ≤ npos a
  | [],[],_,_,j,h1,_=>by simp at h1
  | x :: a,y :: b,hl,h,0,h1,h2=>by
    have ih:=npos_le a b (by simpa using hl) (fun k=>by simpa using h (k + 1))
    simp only [List.getD_cons_zero] at h1 h2;unfold npos at ih ⊢;simp only [List.countP_cons]
    rw [if_neg (by simp; omega),if_pos (by simpa using h1)]; omega
  | x :: a,y :: b,hl,h,j + 1,h1,h2=>by
    have ih:=npos_lt a b (by simpa using hl) (fun k=>by simpa using h (k + 1)) j (by simpa using h1) (by simpa using h2)
    have h0:=h 0
    simp only [List.getD_cons_zero] at h0;unfold npos at ih ⊢;simp only [List.countP_cons]
    by_cases h3:0 < y
    · rw [if_pos (by simpa using h3),if_pos (by simp; omega)]; omega
    · rw [if_neg (by simpa using h3)]; omega
theorem subP_le {room:Int} (h0:0 ≤ room) (rest:List Int) (x:Lk) (k:Nat):(subP room rest x).getD k 0 ≤ rest.getD k 0:=by
  unfold subP
  by_cases e:x.k = k
  · subst e
    by_cases hl:x.k < rest.length
    · rw [getD_set hl,if_pos rfl]; omega
    · rw [List.set_eq_of_length_le (by omega)]; exact Int.le_refl _
  · rw [getD_set' e]; exact Int.le_refl _
theorem subAll_le {room:Int} (h0:0 ≤ room):∀ (p:List Lk) (rest:List Int) (k:Nat),(subAll room rest p).getD k 0 ≤ rest.getD k 0
  | [],rest,k=>Int.le_refl _
  | x :: p,rest,k=>Int.le_trans (subAll_le h0 p (subP room rest x) k) (subP_le h0 rest x k)
theorem subAll_used {room:Int} (h0:0 ≤ room):∀ (p:List Lk) (rest:List Int) (x:Lk),x ∈ p → x.k < rest.length → (subAll room rest p).getD x.k 0 ≤ rest.getD x.k 0 - room
  | [],rest,x,hx,_=>by simp at hx
  | y :: p,rest,x,hx,hl=>by
    simp at hx
    rcases hx with rfl | hx
    · refine Int.le_trans (subAll_le h0 p (subP room rest x) x.k) ?_
      unfold subP;rw [getD_set hl,if_pos rfl]; exact Int.le_refl _
    · have:=subAll_used h0 p (subP room rest y) x hx (by rw [subP_len]; exact hl)
      have:=subP_le h0 rest y x.k
      show (subAll room (subP room rest y) p).getD x.k 0 ≤ _
      omega
theorem least_attained (rm:Nat → Int):∀ (p:List Lk) (m:Int),p.foldl (fun m x=>min m (rm x.k)) m = m ∨ ∃ x ∈ p,rm x.k = p.foldl (fun m x=>min m (rm x.k)) m
  | [],m=>.inl rfl
  | y :: p,m=>by
    simp only [List.foldl_cons]
    rcases least_attained rm p (min m (rm y.k)) with h | ⟨x,hx,h⟩
    · rw [h]
      by_cases hc:m ≤ rm y.k
      · left; omega
      · right; exact ⟨y,by simp,by omega⟩
    · right; exact ⟨x,by simp [hx],h⟩
theorem pNext_pos {n s t:Nat} {l:List Arc} (hok:∀ a ∈ l,okArc n a = true) (hs:s < n) (hst:s ≠ t) {fl D:List Int} (hf:Flw n l s t fl) (hD:IsDist n t (pE l fl) D) (h0:0 ≤ D.getD s 0):npos (pNext l fl D s) + 1 ≤ npos fl:=by
  obtain ⟨k,hk⟩:=Int.eq_ofNat_of_zero_le h0
  have hch:=path_chn (pl_lt hok) hD k s hs hk
  have hlen:(pP l fl D s).length = k:=path_len (pl_lt hok) hD k s hs hk
  have hpos:=(pNext_ok hok hs hst hf hD h0).2.1
  have hk0:k ≠ 0:=fun e=>by
    subst e
    exact hst (hD.zero s hs (by omega))
  have hatt:∃ x ∈ pP l fl D s,rmP fl x.k = pRoom l fl D s:=by
    rcases least_attained (rmP fl) (pP l fl D s) 1099511627776 with h | h
    · have hne:pP l fl D s ≠ []:=fun e=>by rw [e] at hlen; simp at hlen; omega
      obtain ⟨x,p,hxp⟩:=List.exists_cons_of_ne_nil hne
      refine ⟨x,by rw [hxp]; simp,?_⟩
      have hle:=(leastR_le (rmP fl) (pP l fl D s) 1099511627776).2 x (by rw [hxp]; simp)
      have hxP:x ∈ pP l fl D s:=by rw [hxp]; simp
      have hxm:=(hch.all x hxP).1.1
      obtain ⟨j,a,ha,rfl⟩:=plinks_iff.1 hxm
      have hjl:j < l.length:=(List.getElem?_eq_some_iff.1 ha).1
      have hfj:fl[j]? = some (fl.getD j 0):=by have:=hf.len; simp [List.getD_eq_getElem?_getD,show j < fl.length by omega]
      have hin:=inCap_get l fl hf.cap j a _ ha hfj
      have hka:=okArc_iff.1 (hok a (List.mem_of_getElem? ha))
      show fl.getD j 0 = _
      have h9:pRoom l fl D s = 1099511627776:=h
      have h10:pRoom l fl D s ≤ fl.getD j 0:=hle
      omega
    · exact h
  obtain ⟨x,hx,hxr⟩:=hatt
  have hxk:x.k < fl.length:=by rw [← hf.len]; exact pl_k (hch.all x hx).1.1
  refine npos_lt fl _ (by rw [subAll_len]) (fun k=>subAll_le (Int.le_of_lt hpos) _ _ k) x.k ?_ ?_
  · have h2:fl.getD x.k 0 = pRoom l fl D s:=hxr
    rw [h2]; exact hpos
  · have h1:=subAll_used (Int.le_of_lt hpos) (pP l fl D s) fl x hx hxk
    have h2:fl.getD x.k 0 = pRoom l fl D s:=hxr
    rw [h2,Int.sub_self] at h1;exact h1
theorem npos_len (l:List Int):npos l ≤ l.length:=List.countP_le_length
end Go.Flow
namespace Go.Flow
theorem RunP.small {n s t:Nat} {l:List Arc} (hok:∀ a ∈ l,okArc n a = true) (hs:s < n) (ht:t < n) (hst:s ≠ t) {fl r:List Int} {ps:List (List Lk × Int)} (h:RunP n l s t fl ps r):Flw n l s t fl → ps.length ≤ npos fl ∧ ∀ p ∈ ps,p.1.length ≤ n:=by
  induction h with
  | done=>intro _; simp
  | @step fl D r ps hD h0 _ ih =>
    intro hf
    obtain ⟨hN1,_,_⟩:=pNext_ok hok hs hst hf hD h0
    have hp:=pNext_pos hok hs hst hf hD h0
    obtain ⟨i1,i2⟩:=ih hN1
    refine ⟨by simp only [List.length_cons]; omega,fun p hp=>?_⟩
    simp at hp
    rcases hp with rfl | hp
    · obtain ⟨k,hk⟩:=Int.eq_ofNat_of_zero_le h0
      have h3:(pP l fl D s).length = k:=path_len (pl_lt hok) hD k s hs hk
      have h2:=hD.lt (fun x hx=>pl_lt hok x hx.1) ht hs
      dsimp only
      omega
    · exact i2 p hp
theorem paths_small {n s t e:Int} {l:List Arc} {fl:List Int} {ps:List (List Lk × Int)} (h:PathsOK n l fl s t ps e):ps.length ≤ 20000 ∧ ∀ p ∈ ps,p.1.length ≤ 2000:=by
  rcases h with ⟨_,_,rfl⟩ | ⟨a1,_,r,a3⟩
  · simp
  · obtain ⟨n',s',t',g,hF,_⟩:=value_good a1
    obtain ⟨rfl,rfl,rfl⟩:=And.intro g.en (And.intro g.es g.et)
    simp only [Int.toNat_natCast] at a3
    obtain ⟨h1,h2⟩:=a3.small g.ok g.sn g.tn g.ne hF
    have:=npos_len fl
    have:=hF.len
    have:=g.l2
    have:=g.n2
    exact ⟨by omega,fun p hp=>by have:=h2 p hp; omega⟩
end Go.Flow
/- A part of a flow's paths is a flow. No program in sight. No conditions. -/
namespace Go.Flow
def addP (m:Int) (part:List Int) (x:Lk):List Int:=part.set x.k (part.getD x.k 0 + m)
def addAll (m:Int) (part:List Int) (p:List Lk):List Int:=p.foldl (addP m) part
def addMany (qs:List (List Lk × Int)) (part:List Int):List Int:=qs.foldl (fun part q=>addAll q.2 part q.1) part
def quotaL:List (List Lk × Int) → Int → List (List Lk × Int)
  | [],_=>[]
  | p :: ps,v=>(p.1,min v p.2) :: quotaL ps (v - min v p.2)
def neededL:List (List Lk × Int) → Int → List (List Lk × Int)
  | [],_=>[]
  | p :: ps,v=>if v = 0 then [] else (p.1,min p.2 v) :: neededL ps (v - min p.2 v)
def restV:List (List Lk × Int) → Int → Int
  | [],v=>v
  | p :: ps,v=>restV ps (v - min v p.2)
theorem addP_len (m:Int) (part:List Int) (x:Lk):(addP m part x).length = part.length:=by simp [addP]
theorem addAll_len (m:Int):∀ (p:List Lk) (part:List Int),(addAll m part p).length = part.length
  | [],_=>rfl
  | x :: p,part=>by
    show (addAll m (addP m part x) p).length = _
    rw [addAll_len m p,addP_len]
theorem addMany_len:∀ (qs:List (List Lk × Int)) (part:List Int),(addMany qs part).length = part.length
  | [],_=>rfl
  | q :: qs,part=>by
    show (addMany qs (addAll q.2 part q.1)).length = _
    rw [addMany_len qs,addAll_len]
theorem addAll_snoc (m:Int) (part:List Int) (p:List Lk) (x:Lk):addAll m part (p ++ [x]) = addP m (addAll m part p) x:=by simp [addAll]
theorem addMany_snoc (part:List Int) (qs:List (List Lk × Int)) (q:List Lk × Int):addMany (qs ++ [q]) part = addAll q.2 (addMany qs part) q.1:=by simp [addMany]
theorem quotaL_len:∀ (ps:List (List Lk × Int)) (v:Int),(quotaL ps v).length = ps.length
  | [],_=>rfl
  | p :: ps,v=>by simp [quotaL,quotaL_len ps]
theorem quotaL_get:∀ (ps:List (List Lk × Int)) (v:Int) (j:Nat),(quotaL ps v)[j]? = (ps[j]?).map (fun p=>(p.1,min (restV (ps.take j) v) p.2))
  | [],_,_=>by simp [quotaL]
  | p :: ps,v,0=>by simp [quotaL,restV]
  | p :: ps,v,j + 1=>by
    simp only [quotaL,List.getElem?_cons_succ,List.take_succ_cons,restV];exact quotaL_get ps _ j
theorem restV_snoc:∀ (ps:List (List Lk × Int)) (v:Int) (p:List Lk × Int),restV (ps ++ [p]) v = restV ps v - min (restV ps v) p.2
  | [],v,p=>rfl
  | q :: ps,v,p=>by simp only [List.cons_append,restV]; exact restV_snoc ps _ p
theorem restV_bd:∀ (ps:List (List Lk × Int)) (v:Int),0 ≤ v → (∀ p ∈ ps,0 ≤ p.2) → 0 ≤ restV ps v ∧ restV ps v ≤ v
  | [],v,h,_=>⟨h,Int.le_refl _⟩
  | p :: ps,v,h,hp=>by
    have h1:=hp p (by simp)
    have h2:=restV_bd ps (v - min v p.2) (by omega) (fun q hq=>hp q (by simp [hq]))
    simp only [restV];omega
theorem addP_zero (part:List Int) (x:Lk):addP 0 part x = part:=by
  unfold addP;rw [Int.add_zero]
  by_cases h:x.k < part.length
  · apply List.ext_getElem?
    intro i
    rw [List.getElem?_set]
    split
    · rename_i e
      subst e
      simp [List.getD_eq_getElem?_getD,h]
    · rfl
  · rw [List.set_eq_of_length_le (by omega)]
theorem addAll_zero:∀ (p:List Lk) (part:List Int),addAll 0 part p = part
  | [],_=>rfl
  | x :: p,part=>by
    show addAll 0 (addP 0 part x) p = _
    rw [addP_zero,addAll_zero p]
theorem quota_zero:∀ (ps:List (List Lk × Int)),(∀ p ∈ ps,0 ≤ p.2) → ∀ q ∈ quotaL ps 0,q.2 = 0
  | [],_,q,hq=>by simp [quotaL] at hq
  | p :: ps,hp,q,hq=>by
    have h1:=hp p (by simp)
    simp only [quotaL,List.mem_cons] at hq
    rcases hq with rfl | hq
    · dsimp only; omega
    · rw [show (0:Int) - min 0 p.2 = 0 by omega] at hq
      exact quota_zero ps (fun q hq=>hp q (by simp [hq])) q hq
theorem addMany_zero:∀ (qs:List (List Lk × Int)) (part:List Int),(∀ q ∈ qs,q.2 = 0) → addMany qs part = part
  | [],_,_=>rfl
  | q :: qs,part,h=>by
    show addMany qs (addAll q.2 part q.1) = _
    rw [h q (by simp),addAll_zero,addMany_zero qs part (fun r hr=>h r (by simp [hr]))]
theorem needed_take:∀ (ps:List (List Lk × Int)) (v:Int),neededL ps v = (quotaL ps v).take (neededL ps v).length
  | [],_=>rfl
  | p :: ps,v=>by
    unfold neededL
    split
    · rfl
    · rw [List.length_cons,quotaL,List.take_succ_cons,Int.min_comm,← needed_take ps]
theorem needed_sum:∀ (ps:List (List Lk × Int)) (v:Int) (part:List Int),(∀ p ∈ ps,0 ≤ p.2) → addMany (neededL ps v) part = addMany (quotaL ps v) part
  | [],_,_,_=>rfl
  | p :: ps,v,part,h=>by
    unfold neededL
    split
    · rename_i e
      subst e;rw [addMany_zero _ _ (quota_zero _ h)]
      rfl
    · rw [quotaL,Int.min_comm]
      exact needed_sum ps _ _ (fun q hq=>h q (by simp [hq]))
theorem needed_len (ps:List (List Lk × Int)) (v:Int):(neededL ps v).length ≤ ps.length:=by
  have h:=congrArg List.length (needed_take ps v)
  rw [List.length_take,quotaL_len] at h;omega
theorem RunP.pos {n s t:Nat} {l:List Arc} (hok:∀ a ∈ l,okArc n a = true) (hs:s < n) (hst:s ≠ t) {fl r:List Int} {ps:List (List Lk × Int)} (h:RunP n l s t fl ps r):Flw n l s t fl → ∀ p ∈ ps,0 < p.2:=by
  induction h with
  | done=>intro _ p hp; simp at hp
  | step hD h0 _ ih =>
    intro hf p hp
    have:=pNext_ok hok hs hst hf hD h0
    simp only [List.mem_cons] at hp
    rcases hp with rfl | hp
    · exact this.2.1
    · exact ih this.1 p hp
theorem add_diff (m:Int) (F:List Int):∀ (p:List Lk) (fl:List Int),F.length = fl.length → (∀ x ∈ p,x.k < fl.length) → addAll m (diffL F fl) p = diffL F (subAll m fl p)
  | [],_,_,_=>rfl
  | x :: p,fl,hl,hp=>by
    have hx:=hp x (by simp)
    show addAll m (addP m (diffL F fl) x) p = diffL F (subAll m (subP m fl x) p)
    have e:addP m (diffL F fl) x = diffL F (subP m fl x):=by
      unfold addP subP
      exact diffL_set m (by omega) hx
    rw [e]
    exact add_diff m F p (subP m fl x) (by rw [subP_len]; exact hl) (fun y hy=>by rw [subP_len]; exact hp y (by simp [hy]))
section
variable {n s t:Nat} {l:List Arc}
theorem path_part (hok:∀ a ∈ l,okArc n a = true) (hs:s < n) {fl D:List Int} (hf:Flw n l s t fl) (hD:IsDist n t (pE l fl) D) (h0:0 ≤ D.getD s 0) {m:Int} (hm:0 ≤ m) (hm2:m ≤ pRoom l fl D s) (i:Nat) :
    inCap l (subAll m fl ((pP l fl D s).take i)) = true ∧ (∀ x ∈ pP l fl D s,x.k < l.length):=by
  obtain ⟨k,hk⟩:=Int.eq_ofNat_of_zero_le h0
  have hch:=path_chn (pl_lt hok) hD k s hs hk
  obtain ⟨w,hw⟩:=hch.take i
  refine ⟨(subAll_ok hok hm (E:=fun x=>pE l fl x ∧ D.getD x.t 0 = D.getD x.f 0 - 1 ∧ D.getD x.f 0 ≤ k) (fun x hx=>hx.1.1) hw fl hf.len hf.cap ((pP_arcs hok hs hD h0).sublist (List.take_sublist _ _)) (fun x hx=>Int.le_trans hm2 ((leastR_le _ _ _).2 x (List.mem_of_mem_take hx)))).1,fun x hx=>pl_k (hch.all x hx).1.1⟩
theorem path_flw (hok:∀ a ∈ l,okArc n a = true) (hs:s < n) (hst:s ≠ t) {fl D:List Int} (hf:Flw n l s t fl) (hD:IsDist n t (pE l fl) D) (h0:0 ≤ D.getD s 0) {m:Int} (hm:0 ≤ m) (hm2:m ≤ pRoom l fl D s) :
    Flw n l s t (subAll m fl (pP l fl D s)) ∧ fval s l (subAll m fl (pP l fl D s)) = fval s l fl - m:=by
  obtain ⟨k,hk⟩:=Int.eq_ofNat_of_zero_le h0
  have hch:=path_chn (pl_lt hok) hD k s hs hk
  obtain ⟨r1,r2⟩:=subAll_ok hok hm (E:=fun x=>pE l fl x ∧ D.getD x.t 0 = D.getD x.f 0 - 1 ∧ D.getD x.f 0 ≤ k) (fun x hx=>hx.1.1) hch fl hf.len hf.cap (pP_arcs hok hs hD h0) (fun x hx=>Int.le_trans hm2 ((leastR_le _ _ _).2 x hx))
  refine ⟨⟨by rw [subAll_len]; exact hf.len,r1,fun v hv h1 h2=>?_⟩,?_⟩
  · rw [r2 v,if_neg (Ne.symm h1),if_neg (Ne.symm h2),hf.bal v hv h1 h2]; rfl
  · rw [r2 s,if_pos rfl,if_neg (Ne.symm hst)]; omega
theorem quota_mid (hok:∀ a ∈ l,okArc n a = true) (hs:s < n) (hst:s ≠ t) {fl r:List Int} {ps:List (List Lk × Int)} (h:RunP n l s t fl ps r):Flw n l s t fl →
    ∀ (F:List Int),F.length = fl.length → (∀ k:Nat,fl.getD k 0 ≤ F.getD k 0) → ∀ (v:Int),0 ≤ v → ∀ (j i:Nat) (q:List Lk × Int),(quotaL ps v)[j]? = some q →
    ∃ fl',addAll q.2 (addMany ((quotaL ps v).take j) (diffL F fl)) (q.1.take i) = diffL F fl' ∧ fl'.length = fl.length ∧ inCap l fl' = true ∧ (∀ k:Nat,fl'.getD k 0 ≤ F.getD k 0):=by
  induction h with
  | done=>intro _ F _ _ v _ j i q hq; simp [quotaL] at hq
  | @step fl D r ps hD h0 hr ih =>
    intro hf F hl hle v hv j i q hq
    have hpos:=(pNext_ok hok hs hst hf hD h0).2.1
    have hnx:=(pNext_ok hok hs hst hf hD h0).1
    obtain ⟨p1,p2⟩:=path_part hok hs hf hD h0 (m:=min v (pRoom l fl D s)) (by omega) (by omega) i
    have hkl:∀ x ∈ pP l fl D s,x.k < fl.length:=fun x hx=>by rw [← hf.len]; exact p2 x hx
    cases j with
    | zero =>
      simp only [quotaL,List.getElem?_cons_zero,Option.some.injEq] at hq;subst hq
      refine ⟨subAll (min v (pRoom l fl D s)) fl ((pP l fl D s).take i),?_,subAll_len _ _ _,p1,fun k=>Int.le_trans (subAll_le (by omega) _ _ k) (hle k)⟩
      exact add_diff _ F _ fl hl (fun x hx=>hkl x (List.mem_of_mem_take hx))
    | succ j =>
      simp only [quotaL,List.getElem?_cons_succ] at hq
      have e:addMany ((quotaL ((pP l fl D s,pRoom l fl D s) :: ps) v).take (j + 1)) (diffL F fl) = addMany ((quotaL ps (v - min v (pRoom l fl D s))).take j) (diffL F (subAll (min v (pRoom l fl D s)) fl (pP l fl D s))):=by
        rw [quotaL,List.take_succ_cons]
        show addMany _ (addAll _ (diffL F fl) _) = _
        rw [add_diff _ F _ fl hl hkl]
      rw [e]
      by_cases hc:pRoom l fl D s ≤ v
      · rw [show min v (pRoom l fl D s) = pRoom l fl D s by omega] at hq ⊢
        obtain ⟨fl',a,b,c⟩:=ih hnx F (by rw [hl]; exact (subAll_len _ _ _).symm) (fun k=>Int.le_trans (subAll_le (by omega) _ _ k) (hle k)) (v - pRoom l fl D s) (by omega) j i q hq
        exact ⟨fl',a,by rw [b]; exact subAll_len _ _ _,c⟩
      · rw [show min v (pRoom l fl D s) = v by omega,Int.sub_self] at hq ⊢
        have hz:=quota_zero ps (fun p hp=>Int.le_of_lt (hr.pos hok hs hst hnx p hp))
        have hq0:=hz q (List.mem_of_getElem? hq)
        rw [addMany_zero _ _ (fun x hx=>hz x (List.mem_of_mem_take hx)),hq0,addAll_zero]
        obtain ⟨k1,k2⟩:=path_flw hok hs hst hf hD h0 hv (by omega)
        exact ⟨_,rfl,subAll_len _ _ _,k1.cap,fun k=>Int.le_trans (subAll_le hv _ _ k) (hle k)⟩
theorem quota_flow (hok:∀ a ∈ l,okArc n a = true) (hs:s < n) (ht:t < n) (hst:s ≠ t) {fl r:List Int} {ps:List (List Lk × Int)} (h:RunP n l s t fl ps r):Flw n l s t fl →
    ∀ (F:List Int),F.length = fl.length → (∀ k:Nat,fl.getD k 0 ≤ F.getD k 0) → ∀ (v:Int),0 ≤ v → v ≤ fval s l fl →
    ∃ fl',addMany (quotaL ps v) (diffL F fl) = diffL F fl' ∧ Flw n l s t fl' ∧ (∀ k:Nat,fl'.getD k 0 ≤ F.getD k 0) ∧ fval s l fl' = fval s l fl - v:=by
  induction h with
  | done hD hn =>
    intro hf F hl hle v hv hv2
    have:=rest_le0 hok hs ht hf hD hn
    exact ⟨_,rfl,hf,hle,by omega⟩
  | @step fl D r ps hD h0 hr ih =>
    intro hf F hl hle v hv hv2
    obtain ⟨hnx,hpos,hval⟩:=pNext_ok hok hs hst hf hD h0
    obtain ⟨p1,p2⟩:=path_part hok hs hf hD h0 (m:=min v (pRoom l fl D s)) (by omega) (by omega) 0
    have hkl:∀ x ∈ pP l fl D s,x.k < fl.length:=fun x hx=>by rw [← hf.len]; exact p2 x hx
    have e:addMany (quotaL ((pP l fl D s,pRoom l fl D s) :: ps) v) (diffL F fl) = addMany (quotaL ps (v - min v (pRoom l fl D s))) (diffL F (subAll (min v (pRoom l fl D s)) fl (pP l fl D s))):=by
      rw [quotaL]
      show addMany _ (addAll _ (diffL F fl) _) = _
      rw [add_diff _ F _ fl hl hkl]
    rw [e]
    by_cases hc:pRoom l fl D s ≤ v
    · rw [show min v (pRoom l fl D s) = pRoom l fl D s by omega]
      obtain ⟨fl',a,b,c,d⟩:=ih hnx F (by rw [hl]; exact (subAll_len _ _ _).symm) (fun k=>Int.le_trans (subAll_le (by omega) _ _ k) (hle k)) (v - pRoom l fl D s) (by omega) (by omega)
      exact ⟨fl',a,b,c,by omega⟩
    · rw [show min v (pRoom l fl D s) = v by omega,Int.sub_self]
      have hz:=quota_zero ps (fun p hp=>Int.le_of_lt (hr.pos hok hs hst hnx p hp))
      rw [addMany_zero _ _ hz]
      obtain ⟨k1,k2⟩:=path_flw hok hs hst hf hD h0 hv (by omega)
      exact ⟨_,rfl,k1,fun k=>Int.le_trans (subAll_le hv _ _ k) (hle k),k2⟩
theorem inCap_diff:∀ (l:List Arc) (F fl:List Int),F.length = fl.length → inCap l F = true → inCap l fl = true → (∀ k:Nat,fl.getD k 0 ≤ F.getD k 0) → inCap l (diffL F fl) = true
  | [],_,_,_,_,_,_=>by simp [inCap]
  | _ :: _,[],[],_,_,_,_=>by simp [inCap,diffL]
  | a :: l,x :: F,y :: fl,hl,h1,h2,h3=>by
    simp only [inCap,Bool.and_eq_true,decide_eq_true_eq] at h1 h2
    have k0:=h3 0
    simp only [List.getD_cons_zero] at k0
    have ih:=inCap_diff l F fl (by simpa using hl) h1.2 h2.2 (fun k=>by simpa using h3 (k + 1))
    simp only [diffL,List.zipWith_cons_cons,inCap,Bool.and_eq_true,decide_eq_true_eq] at ih ⊢
    exact ⟨by omega,ih⟩
theorem part_flow (hok:∀ a ∈ l,okArc n a = true) (hs:s < n) (ht:t < n) (hst:s ≠ t) {F r:List Int} {ps:List (List Lk × Int)} (h:RunP n l s t F ps r) (hF:Flw n l s t F) {v:Int} (hv:0 ≤ v) (hv2:v ≤ fval s l F) :
    Flw n l s t (addMany (quotaL ps v) (List.replicate l.length 0)) ∧ fval s l (addMany (quotaL ps v) (List.replicate l.length 0)) = v:=by
  obtain ⟨fl',a,b,c,d⟩:=quota_flow hok hs ht hst h hF F rfl (fun k=>Int.le_refl _) v hv hv2
  have hl:F.length = fl'.length:=by rw [← hF.len,b.len]
  rw [diffL_self,← hF.len] at a;rw [a]
  refine ⟨⟨by rw [diffL_len hl]; exact hF.len,inCap_diff l F fl' hl hF.cap b.cap c,fun u h1 h2 h3=>?_⟩,?_⟩
  · rw [fval_diff _ _ _ _ hl,hF.bal u h1 h2 h3,b.bal u h1 h2 h3]; rfl
  · rw [fval_diff _ _ _ _ hl,d]; omega
theorem part_mid (hok:∀ a ∈ l,okArc n a = true) (hs:s < n) (hst:s ≠ t) {F r:List Int} {ps:List (List Lk × Int)} (h:RunP n l s t F ps r) (hF:Flw n l s t F) {v:Int} (hv:0 ≤ v) {j i:Nat} {q:List Lk × Int} (hq:(quotaL ps v)[j]? = some q) :
    inCap l (addAll q.2 (addMany ((quotaL ps v).take j) (List.replicate l.length 0)) (q.1.take i)) = true ∧ (addAll q.2 (addMany ((quotaL ps v).take j) (List.replicate l.length 0)) (q.1.take i)).length = l.length:=by
  obtain ⟨fl',a,b,c,d⟩:=quota_mid hok hs hst h hF F rfl (fun k=>Int.le_refl _) v hv j i q hq
  rw [diffL_self,← hF.len] at a;rw [a]
  exact ⟨inCap_diff l F fl' b.symm hF.cap c d,by rw [diffL_len b.symm]; exact hF.len.symm⟩
theorem run_arcs (hok:∀ a ∈ l,okArc n a = true) (hs:s < n) (hst:s ≠ t) {F r:List Int} {ps:List (List Lk × Int)} (h:RunP n l s t F ps r):Flw n l s t F → ∀ p ∈ ps,∀ x ∈ p.1,x.k < l.length:=by
  induction h with
  | done=>intro _ p hp; simp at hp
  | step hD h0 _ ih =>
    intro hf p hp
    simp only [List.mem_cons] at hp
    rcases hp with rfl | hp
    · exact (path_part hok hs hf hD h0 (m:=0) (Int.le_refl _) (Int.le_of_lt (pNext_ok hok hs hst hf hD h0).2.1) 0).2
    · exact ih (pNext_ok hok hs hst hf hD h0).1 p hp
end
end Go.Flow
/- What the planner answers. No program in sight. No conditions. -/
namespace Go.Step
open Go.Flow (MaxOK PathsOK Flw fval addMany quotaL RunP okEnds_iff)
abbrev PathL:=List (List Go.Flow.Lk × Int)
def partF (qs:List Int) (cs:List Ct) (bs:List Bk) (hs:List Hd) (d:Dm) (ps:PathL):List Int:=addMany (quotaL ps d.v) (List.replicate (arcsG qs cs bs hs d).length 0)
def PathN (qs:List Int) (cs:List Ct) (bs:List Bk) (hs:List Hd) (d:Dm) (F:List Int) (ps:PathL) (e:Int):Prop:=PathsOK (vsN qs d) (arcsG qs cs bs hs d) F (vtx d d.s d.r) (vtx d d.d d.e) ps e
def PlanOK (qs:List Int) (cs:List Ct) (bs:List Bk) (hs:List Hd) (d:Dm) (acc:Bool) (vol:Int) (ss:List Sh) (c:Cu):Prop:=
  ∃ F m,MaxN qs cs bs hs d F m 0 ∧ ((m < d.v ∧ acc = false ∧ vol = m ∧ ss = [] ∧ ∃ side k,CutN qs cs bs hs d side k 0 ∧ c = sidesC d qs.length side) ∨
    (d.v ≤ m ∧ acc = true ∧ vol = d.v ∧ c = [] ∧ ∃ ps,PathN qs cs bs hs d F ps 0 ∧ ss = shipsF (arcsE qs cs bs hs d) (partF qs cs bs hs d ps)))
variable {qs:List Int} {cs:List Ct} {bs:List Bk} {hs:List Hd} {d:Dm}
theorem MaxN.uniq {F G:List Int} {m k e f:Int} (h1:MaxN qs cs bs hs d F m e) (h2:MaxN qs cs bs hs d G k f):F = G ∧ m = k ∧ e = f:=MaxOK.uniq h1 h2
theorem PlanOK.uniq {acc acc':Bool} {vol vol':Int} {ss ss':List Sh} {c c':Cu} (h1:PlanOK qs cs bs hs d acc vol ss c) (h2:PlanOK qs cs bs hs d acc' vol' ss' c'):acc = acc' ∧ vol = vol' ∧ ss = ss' ∧ c = c':=by
  obtain ⟨F,m,hm,h1⟩:=h1
  obtain ⟨G,k,hk,h2⟩:=h2
  obtain ⟨rfl,rfl,_⟩:=hm.uniq hk
  rcases h1 with ⟨a1,a2,a3,a4,s1,k1,a5,a6⟩ | ⟨a1,a2,a3,a4,p1,a5,a6⟩ <;> rcases h2 with ⟨b1,b2,b3,b4,s2,k2,b5,b6⟩ | ⟨b1,b2,b3,b4,p2,b5,b6⟩
  · have:=(Go.Flow.CutOK.uniq a5 b5).1
    exact ⟨by rw [a2,b2],by rw [a3,b3],by rw [a4,b4],by rw [a6,b6,this]⟩
  · omega
  · omega
  · have:=(Go.Flow.PathsOK.uniq a5 b5).1
    exact ⟨by rw [a2,b2],by rw [a3,b3],by rw [a6,b6,this],by rw [a4,b4]⟩
theorem path_run (h:VOk qs cs bs hs d) (hv:validT qs cs bs hs d = true) {F:List Int} {m:Int} (hm:MaxN qs cs bs hs d F m 0) {ps:PathL} {e:Int} (hp:PathN qs cs bs hs d F ps e) :
    e = 0 ∧ ∃ N S T:Nat,vsN qs d = N ∧ vtx d d.s d.r = S ∧ vtx d d.d d.e = T ∧ S < N ∧ T < N ∧ S ≠ T ∧ (∀ a ∈ arcsG qs cs bs hs d,Go.Flow.okArc N a = true) ∧ Flw N (arcsG qs cs bs hs d) S T F ∧ m = fval S (arcsG qs cs bs hs d) F ∧ ∃ r,RunP N (arcsG qs cs bs hs d) S T F ps r:=by
  obtain ⟨_,N,S,T,hN,hS,hT,hf,hval,_⟩:=max_cut h hm
  have hsE:=shipsE_flow h hv hN hS hT hf
  have hends:=okEnds_iff.1 h.ends
  have hok:=h.ok
  unfold shipsE at hsE;rw [if_pos hv] at hsE;unfold PathN at hp;rw [hN,hS,hT] at hp hends hsE;rw [hN] at hok
  rcases hp with ⟨a1,_⟩ | ⟨_,a2,r,a3⟩
  · exact absurd hsE a1
  simp only [Int.toNat_natCast] at a3
  exact ⟨a2,N,S,T,hN,hS,hT,by omega,by omega,by omega,hok,hf,hval,r,a3⟩
theorem part_ok (h:VOk qs cs bs hs d) (hv:validT qs cs bs hs d = true) {F:List Int} {m:Int} (hm:MaxN qs cs bs hs d F m 0) {ps:PathL} (hp:PathN qs cs bs hs d F ps 0) (hle:d.v ≤ m) :
    ∃ N S T:Nat,vsN qs d = N ∧ vtx d d.s d.r = S ∧ vtx d d.d d.e = T ∧ Flw N (arcsG qs cs bs hs d) S T (partF qs cs bs hs d ps) ∧ fval S (arcsG qs cs bs hs d) (partF qs cs bs hs d ps) = d.v ∧ shipsE qs cs bs hs d (partF qs cs bs hs d ps) = 0:=by
  obtain ⟨_,N,S,T,hN,hS,hT,s1,s2,s3,hok,hf,hval,r,hr⟩:=path_run h hv hm hp
  have hdm:=h.dm
  unfold okDm at hdm
  obtain ⟨p1,p2⟩:=Go.Flow.part_flow hok s1 s2 s3 hr hf (v:=d.v) (by omega) (by omega)
  exact ⟨N,S,T,hN,hS,hT,p1,p2,shipsE_flow h hv hN hS hT p1⟩
open Go.Flow (addP addAll inCap getD_set inCap_get neededL needed_take quotaL_get restV) in
theorem part_step {l:List Arc} {P:List Int} {m:Int} {x:Go.Flow.Lk} (hc:∀ a ∈ l,a.c ≤ 1099511627776) (h1:inCap l P = true) (hl:P.length = l.length) (h2:inCap l (addP m P x) = true) (hk:x.k < l.length) :
    (0 ≤ P.getD x.k 0 ∧ P.getD x.k 0 ≤ 1099511627776) ∧ (0 ≤ P.getD x.k 0 + m ∧ P.getD x.k 0 + m ≤ 1099511627776):=by
  have ha:=List.getElem?_eq_getElem hk
  have hca:=hc _ (List.getElem_mem hk)
  have e1:P[x.k]? = some (P.getD x.k 0):=by simp [List.getD_eq_getElem?_getD,show x.k < P.length by omega]
  have e2:(addP m P x)[x.k]? = some (P.getD x.k 0 + m):=by
    unfold addP
    simp [show x.k < P.length by omega]
  have b1:=inCap_get l P h1 x.k _ _ ha e1
  have b2:=inCap_get l _ h2 x.k _ _ ha e2
  omega
open Go.Flow (neededL needed_take quotaL_get restV) in
theorem needed_at {ps:PathL} {v:Int} {i:Nat} {q:List Go.Flow.Lk × Int} (h:(neededL ps v)[i]? = some q):(neededL ps v).take i = (quotaL ps v).take i ∧ (neededL ps v).take (i + 1) = (quotaL ps v).take i ++ [q] ∧ (quotaL ps v)[i]? = some q ∧ ∃ p,ps[i]? = some p ∧ q.1 = p.1:=by
  have hi:=(List.getElem?_eq_some_iff.1 h).1
  have e:=needed_take ps v
  have e1:(neededL ps v).take i = (quotaL ps v).take i:=by
    have:=congrArg (List.take i) e
    rwa [List.take_take,Nat.min_eq_left (by omega)] at this
  have e2:(neededL ps v).take (i + 1) = (quotaL ps v).take (i + 1):=by
    have:=congrArg (List.take (i + 1)) e
    rwa [List.take_take,Nat.min_eq_left (by omega)] at this
  have e3:(quotaL ps v)[i]? = some q:=by
    have this:(neededL ps v)[i]? = ((quotaL ps v).take (neededL ps v).length)[i]?:=congrArg (fun l:PathL=>l[i]?) e
    rw [h,List.getElem?_take_of_lt hi] at this;exact this.symm
  refine ⟨e1,?_,e3,?_⟩
  · rw [e2]
    obtain ⟨h1,h2⟩:=List.getElem?_eq_some_iff.1 e3
    rw [List.take_succ_eq_append_getElem h1,h2]
  · rw [quotaL_get] at e3
    obtain ⟨p,h1,h2⟩:=Option.map_eq_some_iff.1 e3
    exact ⟨p,h1,by rw [← h2]⟩
end Go.Step
/- Maximum flows as shipments; cuts of sets. No program in sight. No conditions. -/
namespace Go.Step
open Go.Flow (Flw fval)
variable {qs:List Int} {cs:List Ct} {bs:List Bk} {hs:List Hd} {d:Dm}
theorem max_nonneg (h:VOk qs cs bs hs d) {F:List Int} {m e:Int} (hm:MaxN qs cs bs hs d F m e):0 ≤ m:=by
  obtain ⟨_,_,_,_,_,_,_,_,_,P,_,_,hP⟩:=max_cut h hm
  have hdm:=h.dm
  unfold okDm at hdm
  have hn:0 < qs.length:=by have:=h.nq; omega
  have h1:=waitB_nonneg h P hn d.r
  have h2:=capB_wait_le h P hn (t:=d.r) (Int.le_refl _) (by omega)
  omega
theorem ships_part (h:VOk qs cs bs hs d) (hv:validT qs cs bs hs d = true) {F:List Int} {m:Int} (hm:MaxN qs cs bs hs d F m 0) {ps:PathL} (hp:PathN qs cs bs hs d F ps 0) (hle:d.v ≤ m):flowR qs cs bs hs d (shipsF (arcsE qs cs bs hs d) (partF qs cs bs hs d ps)) = (d.v,0):=by
  have hdm:=h.dm
  unfold okDm at hdm
  obtain ⟨N,S,T,hN,hS,hT,hf,hval,_⟩:=part_ok h hv hm hp hle
  rw [ships_flow h hv hN hS hT hf (by omega),hval]
end Go.Step
/- Answers checked; results that are structs in memory; sums that wrap. No program in sight. No conditions. -/
namespace Go.Step
end Go.Step
namespace Go.Eng
open Go.IntWalk
variable {R H:List PH} {L:Env}
theorem resS2 {fn:Func} {N:Bs} {M:Nat} {P:Program} {t u b1 b2:Nat} {T U:TypeId} {v1 v2:List Value} (hr:fn.results = #[.cell t T,.cell u U]) (ht:look L t = some (.pointer (some ⟨b1,0,none⟩))) (hu:look L u = some (.pointer (some ⟨b2,0,none⟩))) (a1:aggP P T = some true) (a2:aggP P U = some true)
    (n1:szP P T = some v1.length) (n2:szP P U = some v2.length) (c1:Cells N R H b1 0 v1) (c2:Cells N R H b2 0 v2):∀ a w,Frm M L a → Sat N R H w → (results fn a.tmps).run P w = .ok (.tuple #[.agg v1.toArray,.agg v2.toArray]) w:=by
  intro a w hf hs
  have e1:a.tmps[t]?.getD undef = .pointer (some ⟨b1,0,none⟩):=by simpa using hf.get t _ ht
  have e2:a.tmps[u]?.getD undef = .pointer (some ⟨b2,0,none⟩):=by simpa using hf.get u _ hu
  have l1:=run_loadCells_list (P:=P) (w:=w) ⟨b1,0,none⟩ v1 (fun j v hv=>by rw [Addr.add_lit]; exact c1 w hs j v hv)
  have l2:=run_loadCells_list (P:=P) (w:=w) ⟨b2,0,none⟩ v2 (fun j v hv=>by rw [Addr.add_lit]; exact c2 w hs j v hv)
  simp [results,hr,e1,e2,loadVar,run_isAgg a1,run_isAgg a2,run_sizeOf n1,run_sizeOf n2,l1,l2,asAddr]
theorem Flat.agg7 {a b c d e f g:Value} {vs cs:List Value} (h:Flat vs cs):Flat (.agg #[a,b,c,d,e,f,g] :: vs) (a :: b :: c :: d :: e :: f :: g :: cs):=Flat.agg (ws:=[a,b,c,d,e,f,g]) h
theorem EY {C:Cx} {x y:Operand} {dst:Option Tmp} {ty:TypeId} {pos:String} {aft:Array Edge} {g:Option (Nat × Bool)} {xT yT:TypeId} {m n:Int} (h1:evalE L x = some (.int .i64 m)) (h2:evalE L y = some (.int .i64 n)):Quiet C R H L ⟨dst,.binOp .add xT x y yT,ty,pos,aft,g⟩ (.int .i64 (IntKind.i64.wrap (m + n))):=
  EE (C:=C) (R:=R) (H:=H) (dst:=dst) (ty:=ty) (pos:=pos) (aft:=aft) (g:=g) (xT:=xT) (yT:=yT) (.inl ⟨rfl,rfl⟩) h1 h2
end Go.Eng
