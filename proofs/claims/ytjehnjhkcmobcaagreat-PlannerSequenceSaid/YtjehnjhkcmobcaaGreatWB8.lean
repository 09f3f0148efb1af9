/- Texts of this proof, one after the other; no conditions. -/
import Derived.Maps.RangeRun
import Derived.Lib.RowBridge
import Derived.Test.YtjehnjhkcmobcaaGreatWB7
import Derived.Test.YtjehnjhkcmobcaaGreatWB5
import Derived.Test.YtjehnjhkcmobcaaGreatWB6
import Derived.Test.YtjehnjhkcmobcaaGreatWB3
import Derived.Test.YtjehnjhkcmobcaaGreatWB4
set_option linter.all false
/- Shipments bring at most the capacity of a cut. No program in sight. No conditions. -/
namespace Go.Step
/-! sums -/
theorem sumT_add (f g:Int → Int) (a:Int):∀ m:Nat,sumT (fun k=>f k + g k) a m = sumT f a m + sumT g a m
  | 0=>rfl
  | m + 1=>by simp only [sumT]; rw [sumT_add f g a m]; omega
theorem sumT_sub (f g:Int → Int) (a:Int):∀ m:Nat,sumT (fun k=>f k - g k) a m = sumT f a m - sumT g a m
  | 0=>rfl
  | m + 1=>by simp only [sumT]; rw [sumT_sub f g a m]; omega
theorem sumT_none (a:Int):∀ m:Nat,sumT (fun _=>(0:Int)) a m = 0
  | 0=>rfl
  | m + 1=>by simp only [sumT]; rw [sumT_none a m]; rfl
theorem sumT_pick (g:Int → Int) (a b:Int):∀ m:Nat,sumT (fun k=>if b = k then g k else 0) a m = if a ≤ b ∧ b < a + m then g b else 0
  | 0=>by rw [if_neg (by omega)]; rfl
  | m + 1=>by
    simp only [sumT];rw [sumT_pick g a b m]
    by_cases h:b = a + m
    · subst h
      rw [if_neg (by omega),if_pos rfl,if_pos (by omega),Int.zero_add]
    · rw [if_neg h,Int.add_zero]
      by_cases h2:a ≤ b ∧ b < a + m
      · rw [if_pos h2,if_pos (by omega)]
      · rw [if_neg h2,if_neg (by omega)]
/-! one shipment -/
section
variable (cs:List Ct) (d:Dm) (P:Int → Int → Bool)
def cross (x:Sh):Int:=(if P (ctOf cs x).f x.t = true then x.n else 0) - (if P (ctOf cs x).t (arrOf cs x) = true then x.n else 0)
structure ShOk (nq:Nat) (x:Sh):Prop where
  f:0 ≤ (ctOf cs x).f ∧ (ctOf cs x).f < nq
  t:0 ≤ (ctOf cs x).t ∧ (ctOf cs x).t < nq
  a:d.r ≤ x.t ∧ x.t ≤ d.e
  b:d.r ≤ arrOf cs x ∧ arrOf cs x ≤ d.e
variable {cs d P}
/-! the ends -/
/-! the waits -/
/-! the contacts -/
end
section
variable {qs:List Int} {cs:List Ct} {bs:List Bk} {hs:List Hd} {d:Dm}
theorem ships_facts {l:List Sh} (h:firstE (shipE cs bs d l) l.length = 0):(∀ x ∈ l,ship1 cs bs d x = 0) ∧ l.Pairwise (fun x y=>sameSl y x = false):=by
  have h1:∀ (i:Nat) (hi:i < l.length),ship1 cs bs d l[i] = 0 ∧ (l.take i).any (sameSl l[i]) = false:=fun i hi=>by
    have:=firstE_zero h i hi
    rw [shipE_at (List.getElem?_eq_getElem hi)] at this
    by_cases h1:ship1 cs bs d l[i] = 0
    · rw [if_neg (by simpa using h1)] at this
      refine ⟨h1,?_⟩
      cases h2:(l.take i).any (sameSl l[i]) with
      | false=>rfl
      | true=>rw [h2] at this; simp at this
    · rw [if_pos h1] at this
      exact absurd this h1
  refine ⟨fun x hx=>?_,List.pairwise_iff_getElem.2 (fun i j hi hj hij=>?_)⟩
  · obtain ⟨i,hi,rfl⟩:=List.getElem_of_mem hx
    exact (h1 i hi).1
  · have:=(h1 j hj).2
    rw [List.any_eq_false] at this
    have h2:=this l[i] (List.mem_take_iff_getElem.2 ⟨i,by omega,rfl⟩)
    simpa using h2
theorem ship1_ok (h:VOk qs cs bs hs d) {x:Sh} (hx:ship1 cs bs d x = 0):ShOk cs d qs.length x ∧ (0 ≤ x.c ∧ x.c < (cs.length:Int)) ∧ (d.r ≤ x.t ∧ x.t < d.e) ∧ ∀ P,cross cs P x ≤ conB cs bs d P x.c x.t:=by
  unfold ship1 at hx
  split at hx
  · omega
  rename_i h1
  cases hc:cs[x.c.toNat]? with
  | none=>rw [hc] at hx; simp at hx
  | some c =>
    rw [hc] at hx
    dsimp only at hx
    split at hx
    · omega
    rename_i h2
    split at hx
    · omega
    rename_i h3
    split at hx
    · omega
    rename_i h4
    have hct:ctOf cs x = c:=by unfold ctOf; rw [List.getD_eq_getElem?_getD,hc]; rfl
    have hok:=h.ct c (List.mem_of_getElem? hc)
    have harr:arrOf cs x = x.t + 1 + c.g:=by unfold arrOf; rw [hct]
    refine ⟨⟨by rw [hct]; exact hok.1,by rw [hct]; exact hok.2.1,by omega,by omega⟩,by omega,by omega,fun P=>?_⟩
    unfold cross conB;rw [hc,hct,harr]
    dsimp only
    have hb:bookedB bs x.c x.t = false:=by simpa using h4
    by_cases hP:(P c.f x.t && !P c.t (x.t + 1 + c.g)) = true
    · rw [if_pos (show c.s ≤ x.t ∧ x.t < c.e ∧ x.t + 1 + c.g ≤ d.e ∧ bookedB bs x.c x.t = false ∧ (P c.f x.t && !P c.t (x.t + 1 + c.g)) = true from ⟨by omega,by omega,by omega,hb,hP⟩)]
      split <;> split <;> omega
    · rw [if_neg (show ¬ (c.s ≤ x.t ∧ x.t < c.e ∧ x.t + 1 + c.g ≤ d.e ∧ bookedB bs x.c x.t = false ∧ (P c.f x.t && !P c.t (x.t + 1 + c.g)) = true) from fun h=>hP h.2.2.2.2)]
      revert hP
      cases P c.f x.t <;> cases P c.t (x.t + 1 + c.g) <;> simp <;> omega
end
end Go.Step
/- Shipments that are made, and those that can be made besides. No program in sight. No conditions. -/
namespace Go.Step
section
variable {qs:List Int} {cs:List Ct} {bs bs':List Bk} {hs hs':List Hd} {d:Dm}
theorem flow_facts {l:List Sh} {n:Int} (hn:flowR qs cs bs hs d l = (n,0)):firstE (shipE cs bs d l) l.length = 0 ∧ conflB qs.length cs d l = false ∧ fullB qs cs hs d l = false ∧ stock cs d d.d d.e l = n:=by
  unfold flowR at hn
  split at hn
  · simp at hn
  split at hn
  · rename_i _ h3
    rw [Prod.mk.injEq] at hn;exact absurd hn.2 h3
  rename_i _ h3
  split at hn
  · simp at hn
  rename_i hcf
  split at hn
  · simp at hn
  rename_i hfl
  rw [Prod.mk.injEq] at hn
  exact ⟨Decidable.not_not.1 h3,by simpa using hcf,by simpa using hfl,hn.1⟩
end
end Go.Step
/- What shipments bring to each node: all of it to Dest, from Source, nothing elsewhere. No program in sight. No conditions. -/
namespace Go.Step
def net1 (cs:List Ct) (n:Int) (x:Sh):Int:=(if (ctOf cs x).t = n then x.n else 0) - (if (ctOf cs x).f = n then x.n else 0)
def netS (cs:List Ct) (n:Int) (l:List Sh):Int:=lsum (net1 cs n) l
section
variable {qs:List Int} {cs:List Ct} {bs:List Bk} {hs:List Hd} {d:Dm}
theorem net1_stk {nq:Nat} {x:Sh} (h:ShOk cs d nq x) {n:Int} (hn:n ≠ d.s):stk1 cs d n d.e x = net1 cs n x:=by
  have ha:=h.a
  have hb:=h.b
  unfold stk1 net1;rw [if_neg hn]
  by_cases c1:(ctOf cs x).t = n <;> by_cases c2:(ctOf cs x).f = n <;> simp [c1,c2] <;> omega
theorem netS_stock {nq:Nat} {n:Int} (hn:n ≠ d.s):∀ {l:List Sh},(∀ x ∈ l,ShOk cs d nq x) → stock cs d n d.e l = netS cs n l
  | [],_=>rfl
  | x :: l,h=>by
    have ih:=netS_stock hn (l:=l) (fun y hy=>h y (by simp [hy]))
    unfold netS at ih ⊢;simp only [stock,lsum]
    rw [ih,net1_stk (h x (by simp)) hn]
theorem netS_sum {nq:Nat}:∀ {l:List Sh},(∀ x ∈ l,ShOk cs d nq x) → sumT (fun n=>netS cs n l) 0 nq = 0
  | [],_=>sumT_none 0 nq
  | x :: l,h=>by
    have hx:=h x (by simp)
    have ih:=netS_sum (l:=l) (fun y hy=>h y (by simp [hy]))
    have e:sumT (fun n=>netS cs n (x :: l)) 0 nq = sumT (fun n=>net1 cs n x) 0 nq + sumT (fun n=>netS cs n l) 0 nq:=by
      rw [← sumT_add]
      exact sumT_congr (fun k _=>rfl)
    have e2:sumT (fun n=>net1 cs n x) 0 nq = 0:=by
      unfold net1
      rw [sumT_sub (fun n=>if (ctOf cs x).t = n then x.n else 0) (fun n=>if (ctOf cs x).f = n then x.n else 0),sumT_pick (fun _=>x.n),sumT_pick (fun _=>x.n),if_pos (show 0 ≤ (ctOf cs x).t ∧ (ctOf cs x).t < 0 + (nq:Int) by have:=hx.t; omega),if_pos (show 0 ≤ (ctOf cs x).f ∧ (ctOf cs x).f < 0 + (nq:Int) by have:=hx.f; omega)]
      omega
    rw [e,e2,ih]
    rfl
theorem flow_parts {l:List Sh} {n:Int} (hn:flowR qs cs bs hs d l = (n,0)):firstE (shipE cs bs d l) l.length = 0 ∧ conflB qs.length cs d l = false ∧ fullB qs cs hs d l = false ∧ stock cs d d.d d.e l = n:=by
  unfold flowR at hn
  split at hn
  · simp at hn
  split at hn
  · rename_i _ h3
    rw [Prod.mk.injEq] at hn;exact absurd hn.2 h3
  rename_i _ h3
  split at hn
  · simp at hn
  rename_i hcf
  split at hn
  · simp at hn
  rename_i hfl
  rw [Prod.mk.injEq] at hn
  exact ⟨Decidable.not_not.1 h3,by simpa using hcf,by simpa using hfl,hn.1⟩
theorem nets_flow (h:VOk qs cs bs hs d) {l:List Sh} {v:Int} (hv:flowR qs cs bs hs d l = (v,0)):netS cs d.d l = v ∧ netS cs d.s l = -v ∧ ∀ n:Int,0 ≤ n → n < (qs.length:Int) → n ≠ d.s → n ≠ d.d → netS cs n l = 0:=by
  have hdm:=h.dm
  unfold okDm at hdm
  obtain ⟨p1,p2,_,p4⟩:=flow_parts hv
  have hall:∀ x ∈ l,ShOk cs d qs.length x:=fun x hx=>(ship1_ok h ((ships_facts p1).1 x hx)).1
  have hD:netS cs d.d l = v:=by rw [← netS_stock (fun hh=>hdm.2.2.1 hh.symm) hall,p4]
  have hM:∀ n:Int,0 ≤ n → n < (qs.length:Int) → n ≠ d.s → n ≠ d.d → netS cs n l = 0:=fun n h0 h1 h2 h3=>by
    obtain ⟨k,rfl⟩:=Int.eq_ofNat_of_zero_le h0
    rw [← netS_stock h2 hall];unfold conflB at p2
    have q1:=(anyT_none.1 ((anyT_none.1 p2) k (by omega))) (d.e - d.r).toNat (by omega)
    rw [show d.r + ((d.e - d.r).toNat:Int) = d.e by omega,Int.zero_add] at q1
    unfold confAt at q1;rw [decide_eq_false_iff_not] at q1
    exact Decidable.byContradiction (fun q2=>q1 (.inr ⟨rfl,h2,h3,q2⟩))
  refine ⟨hD,?_,hM⟩
  have hsum:=netS_sum hall
  have e:sumT (fun n=>netS cs n l) 0 qs.length = sumT (fun n=>(if d.s = n then netS cs n l else 0) + (if d.d = n then netS cs n l else 0)) 0 qs.length:=by
    refine sumT_congr (fun k hk=>?_)
    by_cases c1:d.s = 0 + (k:Int)
    · rw [if_pos c1,if_neg (by omega)]; omega
    · by_cases c2:d.d = 0 + (k:Int)
      · rw [if_neg c1,if_pos c2]; omega
      · rw [if_neg c1,if_neg c2,hM _ (by omega) (by omega) (fun hh=>c1 hh.symm) (fun hh=>c2 hh.symm)]
        rfl
  rw [e,sumT_add,sumT_pick (fun n=>netS cs n l),sumT_pick (fun n=>netS cs n l),if_pos (by omega),if_pos (by omega),hD] at hsum
  omega
end
end Go.Step
/- What shipments change at a node, and the holds that they need. No program in sight. No conditions. -/
namespace Go.Step
def have1 (cs:List Ct) (n t:Int) (x:Sh):Int:=(if (ctOf cs x).t = n ∧ arrOf cs x ≤ t then x.n else 0) - (if (ctOf cs x).f = n ∧ x.t ≤ t then x.n else 0)
def haveS (cs:List Ct) (n t:Int) (l:List Sh):Int:=lsum (have1 cs n t) l
def chg1 (cs:List Ct) (n t:Int) (x:Sh):Int:=(if (ctOf cs x).t = n ∧ arrOf cs x = t then x.n else 0) - (if (ctOf cs x).f = n ∧ x.t = t then x.n else 0)
def chgS (cs:List Ct) (n t:Int) (l:List Sh):Int:=lsum (chg1 cs n t) l
def evsN (cs:List Ct) (n:Int) (l:List Sh):List Int:=l.flatMap (fun x=>(if (ctOf cs x).f = n then [x.t] else []) ++ (if (ctOf cs x).t = n then [arrOf cs x] else []))
def evtN (cs:List Ct) (n:Int) (l:List Sh):List Int:=Lib.compact ((evsN cs n l).mergeSort fun x y=>decide (x ≤ y))
theorem mem_evsN {cs:List Ct} {n t:Int} {l:List Sh}:t ∈ evsN cs n l ↔ ∃ x ∈ l,((ctOf cs x).f = n ∧ t = x.t) ∨ ((ctOf cs x).t = n ∧ t = arrOf cs x):=by
  unfold evsN;rw [List.mem_flatMap]
  constructor
  · rintro ⟨x,hx,h⟩
    refine ⟨x,hx,?_⟩
    rcases List.mem_append.1 h with h | h
    · split at h
      · rename_i c; exact .inl ⟨c,by simpa using h⟩
      · simp at h
    · split at h
      · rename_i c; exact .inr ⟨c,by simpa using h⟩
      · simp at h
  · rintro ⟨x,hx,⟨c,h⟩ | ⟨c,h⟩⟩
    · exact ⟨x,hx,List.mem_append.2 (.inl (by rw [if_pos c]; simp [h]))⟩
    · exact ⟨x,hx,List.mem_append.2 (.inr (by rw [if_pos c]; simp [h]))⟩
theorem evtN_sa (cs:List Ct) (n:Int) (l:List Sh):SA (evtN cs n l) ∧ ∀ t,t ∈ evtN cs n l ↔ t ∈ evsN cs n l:=by
  have hp:((evsN cs n l).mergeSort fun x y=>decide (x ≤ y)).Pairwise (· ≤ ·):=by
    have:=List.pairwise_mergeSort (le:=fun x y:Int=>decide (x ≤ y)) (by intro a b c h1 h2; simp at *; omega) (by intro a b; simp; omega) (evsN cs n l)
    exact this.imp (fun h=>by simpa using h)
  obtain ⟨h1,h2⟩:=compact_sa hp
  exact ⟨h1,fun x=>by unfold evtN; rw [h2 x,List.mem_mergeSort]⟩
theorem haveS_same {cs:List Ct} {n a b:Int} (hab:a ≤ b) {l:List Sh} (h:∀ t ∈ evsN cs n l,¬ (a < t ∧ t ≤ b)):haveS cs n b l = haveS cs n a l:=by
  unfold haveS
  refine lsum_congr (fun x hx=>?_)
  have h1:(ctOf cs x).f = n → ¬ (a < x.t ∧ x.t ≤ b):=fun c=>h _ (mem_evsN.2 ⟨x,hx,.inl ⟨c,rfl⟩⟩)
  have h2:(ctOf cs x).t = n → ¬ (a < arrOf cs x ∧ arrOf cs x ≤ b):=fun c=>h _ (mem_evsN.2 ⟨x,hx,.inr ⟨c,rfl⟩⟩)
  unfold have1
  by_cases c1:(ctOf cs x).f = n <;> by_cases c2:(ctOf cs x).t = n <;> simp only [c1,c2,true_and,false_and,if_false]
  · have:=h1 c1; have:=h2 c2
    split <;> split <;> split <;> split <;> omega
  · have:=h1 c1
    split <;> split <;> omega
  · have:=h2 c2
    split <;> split <;> omega
theorem haveS_step (cs:List Ct) (n t:Int) (l:List Sh):haveS cs n t l = haveS cs n (t - 1) l + chgS cs n t l:=by
  unfold haveS chgS;rw [← lsum_add]
  refine lsum_congr (fun x _=>?_)
  unfold have1 chg1
  by_cases c1:(ctOf cs x).f = n <;> by_cases c2:(ctOf cs x).t = n <;> simp only [c1,c2,true_and,false_and,if_false]
  · split <;> split <;> split <;> split <;> split <;> split <;> omega
  · split <;> split <;> split <;> omega
  · split <;> split <;> split <;> omega
  · omega
theorem haveS_early {cs:List Ct} {n t:Int} {l:List Sh} (h:∀ u ∈ evsN cs n l,t < u):haveS cs n t l = 0:=by
  unfold haveS
  rw [lsum_congr (g:=fun _=>0) (fun x hx=>?_),lsum_zero]
  have h1:(ctOf cs x).f = n → t < x.t:=fun c=>h _ (mem_evsN.2 ⟨x,hx,.inl ⟨c,rfl⟩⟩)
  have h2:(ctOf cs x).t = n → t < arrOf cs x:=fun c=>h _ (mem_evsN.2 ⟨x,hx,.inr ⟨c,rfl⟩⟩)
  unfold have1
  by_cases c1:(ctOf cs x).f = n <;> by_cases c2:(ctOf cs x).t = n <;> simp only [c1,c2,true_and,false_and,if_false]
  · rw [if_neg (by have:=h2 c2; omega),if_neg (by have:=h1 c1; omega)]; rfl
  · rw [if_neg (by have:=h1 c1; omega)]; rfl
  · rw [if_neg (by have:=h2 c2; omega)]; rfl
  · rfl
theorem haveS_late {cs:List Ct} {n t:Int} {l:List Sh} (h:∀ u ∈ evsN cs n l,u ≤ t):haveS cs n t l = netS cs n l:=by
  unfold haveS netS
  refine lsum_congr (fun x hx=>?_)
  have h1:(ctOf cs x).f = n → x.t ≤ t:=fun c=>h _ (mem_evsN.2 ⟨x,hx,.inl ⟨c,rfl⟩⟩)
  have h2:(ctOf cs x).t = n → arrOf cs x ≤ t:=fun c=>h _ (mem_evsN.2 ⟨x,hx,.inr ⟨c,rfl⟩⟩)
  unfold have1 net1
  by_cases c1:(ctOf cs x).f = n <;> by_cases c2:(ctOf cs x).t = n <;> simp only [c1,c2,true_and,false_and,if_false,if_true]
  · rw [if_pos (h2 c2),if_pos (h1 c1)]
  · rw [if_pos (h1 c1)]
  · rw [if_pos (h2 c2)]
theorem haveS_stock {cs:List Ct} {d:Dm} {n t:Int} (h:n ≠ d.s):∀ l:List Sh,haveS cs n t l = stock cs d n t l
  | []=>rfl
  | x :: l=>by
    have ih:=haveS_stock (cs:=cs) (t:=t) h l
    have e:haveS cs n t (x :: l) = have1 cs n t x + haveS cs n t l:=rfl
    rw [e,ih];simp only [stock,stk1];rw [if_neg h]
    rfl
def lvN (cs:List Ct) (n:Int) (l:List Sh):List Lv:=comb (fun t=>haveS cs n t l) 0 (evtN cs n l)
theorem mem_comb {F:Int → Int}:∀ {ts:List Int} {p:Int},SA ts → (∀ x ∈ ts,p < x) → (∀ a b:Int,p ≤ a → a ≤ b → (∀ y ∈ ts,¬ (a < y ∧ y ≤ b)) → F b = F a) → ∀ y:Lv,y ∈ comb F (F p) ts ↔ y.a ∈ ts ∧ y.v = F y.a ∧ F y.a ≠ F (y.a - 1)
  | [],p,_,_,_,y=>by simp [comb]
  | x :: xs,p,hs,hp,H,y=>by
    have q:=List.pairwise_cons.1 hs
    have hpx:=hp x (by simp)
    have ih:=mem_comb (F:=F) q.2 q.1 (fun a b h1 h2 h3=>H a b (by omega) h2 (fun z hz=>by
      simp at hz
      rcases hz with rfl | hz
      · omega
      · exact h3 z hz)) y
    have hx1:F (x - 1) = F p:=H p (x - 1) (Int.le_refl _) (by omega) (fun z hz=>by
      simp at hz
      rcases hz with rfl | hz
      · omega
      · have:=q.1 z hz; omega)
    have hy:y.a ∈ xs → y.a ≠ x:=fun h he=>by have:=q.1 _ h; omega
    simp only [comb]
    split
    · rename_i hne
      rw [List.mem_cons,ih,List.mem_cons]
      constructor
      · rintro (rfl | ⟨h1,h2,h3⟩)
        · exact ⟨.inl rfl,rfl,by dsimp only; rw [hx1]; exact hne⟩
        · exact ⟨.inr h1,h2,h3⟩
      · rintro ⟨h1 | h1,h2,h3⟩
        · left
          obtain ⟨a,v⟩:=y
          dsimp only at h1 h2
          subst h1;rw [h2]
        · exact .inr ⟨h1,h2,h3⟩
    · rename_i he
      have he:F x = F p:=Classical.not_not.1 he
      rw [ih,List.mem_cons]
      constructor
      · rintro ⟨h1,h2,h3⟩
        exact ⟨.inr h1,h2,h3⟩
      · rintro ⟨h1 | h1,h2,h3⟩
        · rw [h1,hx1,he] at h3
          exact absurd rfl h3
        · exact ⟨h1,h2,h3⟩
theorem comb_asc {F:Int → Int}:∀ {ts:List Int} {c:Int},SA ts → (comb F c ts).Pairwise (fun x y=>x.a < y.a)
  | [],_,_=>.nil
  | x :: xs,c,hs=>by
    have q:=List.pairwise_cons.1 hs
    simp only [comb]
    split
    · exact List.pairwise_cons.2 ⟨fun l hl=>comb_gt q.1 l hl,comb_asc q.2⟩
    · exact comb_asc q.2
theorem evs_low (cs:List Ct) (n:Int) (l:List Sh):∃ p,∀ u ∈ evsN cs n l,p < u:=by
  have:∀ L:List Int,∃ p,∀ u ∈ L,p < u:=fun L=>by
    induction L with
    | nil=>exact ⟨0,by simp⟩
    | cons x L ih =>
      obtain ⟨p,hp⟩:=ih
      refine ⟨min p (x - 1),fun u hu=>?_⟩
      rcases List.mem_cons.1 hu with rfl | hu
      · omega
      · have:=hp u hu; omega
  exact this _
theorem lvN_ok (cs:List Ct) (n:Int) (l:List Sh):(lvN cs n l).Pairwise (fun x y=>x.a < y.a) ∧ (∀ y:Lv,y ∈ lvN cs n l ↔ y.v = haveS cs n y.a l ∧ chgS cs n y.a l ≠ 0) ∧ ∀ t,val (lvN cs n l) t = haveS cs n t l:=by
  obtain ⟨h1,h2⟩:=evtN_sa cs n l
  obtain ⟨p0,hp0⟩:=evs_low cs n l
  have hp:∀ p,p ≤ p0 → ∀ x ∈ evtN cs n l,p < x:=fun p h x hx=>by have:=hp0 x ((h2 x).1 hx); omega
  have hsame:∀ a b:Int,a ≤ b → (∀ y ∈ evtN cs n l,¬ (a < y ∧ y ≤ b)) → haveS cs n b l = haveS cs n a l:=fun a b hab hy=>haveS_same hab (fun t ht=>hy t ((h2 t).2 ht))
  have h0:∀ p,p ≤ p0 → haveS cs n p l = 0:=fun p hp1=>haveS_early (fun u hu=>by have:=hp0 u hu; omega)
  refine ⟨comb_asc h1,fun y=>?_,fun t=>?_⟩
  · have:=mem_comb (F:=fun t=>haveS cs n t l) (p:=p0) h1 (hp p0 (Int.le_refl _)) (fun a b _ h3 h4=>hsame a b h3 h4) y
    rw [h0 p0 (Int.le_refl _)] at this;unfold lvN;rw [this]
    have hst:=haveS_step cs n y.a l
    constructor
    · rintro ⟨a1,a2,a3⟩
      exact ⟨a2,by omega⟩
    · rintro ⟨a2,a3⟩
      refine ⟨?_,a2,by omega⟩
      apply Decidable.byContradiction
      intro hn
      have:=hsame (y.a - 1) y.a (by omega) (fun z hz hh=>hn (by have e:z = y.a:=(by omega); rw [← e]; exact hz))
      omega
  · have hv:=vat_comb (F:=fun t=>haveS cs n t l) (t:=t) (cur:=0) h1
    unfold val lvN;rw [hv]
    have:=tv_eq (F:=fun t=>haveS cs n t l) (p:=min p0 t) (t:=t) h1 (hp _ (by omega)) (by omega) (fun a b _ h3 h4=>hsame a b h3 h4)
    rw [h0 (min p0 t) (by omega)] at this
    exact this
def spL:List Lv → List ((Int × Int) × Int)
  | x :: y :: f=>(if 0 < x.v then [((x.a,y.a),x.v)] else []) ++ spL (y :: f)
  | _=>[]
def coverS (l:List ((Int × Int) × Int)) (t:Int):Int:=lsum (fun p=>if p.1.1 ≤ t ∧ t < p.1.2 then p.2 else 0) l
theorem spL_low:∀ {f:List Lv} {p:Int},f.Pairwise (fun x y=>x.a < y.a) → (∀ x ∈ f,p ≤ x.a) → ∀ s ∈ spL f,p ≤ s.1.1 ∧ s.1.1 < s.1.2 ∧ 0 < s.2 ∧ (∃ x ∈ f,s.1.1 = x.a ∧ s.2 = x.v) ∧ ∃ y ∈ f,s.1.2 = y.a
  | [],_,_,_,s,hs=>by simp [spL] at hs
  | [x],_,_,_,s,hs=>by simp [spL] at hs
  | x :: y :: f,p,hp,hl,s,hs=>by
    have q:=List.pairwise_cons.1 hp
    unfold spL at hs
    rcases List.mem_append.1 hs with h | h
    · split at h
      · rename_i hv
        rw [List.mem_singleton] at h;subst h
        exact ⟨hl x (by simp),q.1 y (by simp),hv,⟨x,by simp,rfl,rfl⟩,y,by simp,rfl⟩
      · simp at h
    · obtain ⟨a1,a2,a3,⟨z,hz,a4⟩,w,hw,a5⟩:=spL_low (p:=p) q.2 (fun z hz=>hl z (by simp [hz])) s h
      exact ⟨a1,a2,a3,⟨z,by simp [hz],a4⟩,w,by simp [hw],a5⟩
theorem cover_none {l:List ((Int × Int) × Int)} {t:Int} (h:∀ s ∈ l,t < s.1.1):coverS l t = 0:=by
  unfold coverS
  rw [lsum_congr (g:=fun _=>0) (fun s hs=>by rw [if_neg (by have:=h s hs; omega)]),lsum_zero]
theorem spL_cover:∀ {f:List Lv} {x:Lv} {t:Int},(x :: f).Pairwise (fun x y=>x.a < y.a) → (∀ y ∈ x :: f,0 ≤ y.v) → (∀ T,(∀ z ∈ x :: f,z.a ≤ T) → vat x.v f T = 0) → x.a ≤ t → coverS (spL (x :: f)) t = vat x.v f t
  | [],x,t,_,_,h0,ht=>(h0 t (by simpa using ht)).symm
  | y :: f,x,t,hp,hn,h0,ht=>by
    have q:=List.pairwise_cons.1 hp
    have hx:=hn x (by simp)
    have hsp:coverS (spL (x :: y :: f)) t = (if 0 < x.v then (if x.a ≤ t ∧ t < y.a then x.v else 0) else 0) + coverS (spL (y :: f)) t:=by
      unfold coverS
      conv=>lhs; unfold spL
      rw [lsum_append]
      congr 1
      split
      · simp [lsum]
      · rfl
    rw [hsp]
    by_cases hty:t < y.a
    · rw [cover_none (fun s hs=>by have:=(spL_low (p:=y.a) q.2 (fun z hz=>by
        rcases List.mem_cons.1 hz with rfl | hz
        · omega
        · have:=(List.pairwise_cons.1 q.2).1 z hz; omega) s hs).1; omega)]
      simp only [vat]
      rw [if_neg (by omega:¬ y.a ≤ t)]
      split
      · rw [if_pos ⟨ht,hty⟩]; omega
      · omega
    · have e:(if 0 < x.v then (if x.a ≤ t ∧ t < y.a then x.v else 0) else 0) = 0:=by
        split
        · rw [if_neg (by omega)]
        · rfl
      have e2:vat x.v (y :: f) t = vat y.v f t:=by simp only [vat]; rw [if_pos (by omega)]
      rw [e,Int.zero_add,e2]
      refine spL_cover q.2 (fun z hz=>hn z (by simp [hz])) (fun T hT=>?_) (by omega)
      have hy:=q.1 y (by simp)
      have hyT:=hT y (by simp)
      have:=h0 T (fun z hz=>by
        rcases List.mem_cons.1 hz with rfl | hz
        · omega
        · exact hT z hz)
      simp only [vat] at this
      rwa [if_pos hyT] at this
def pieces (n a b s:Int) (k:Nat):List Hd:=(List.range k).map (fun i:Nat=>⟨n,a,b,min (s - 65536 * i) 65536,0⟩)
def pieceN (s:Int):Nat:=((s + 65535) / 65536).toNat
def holdsN (cs:List Ct) (n:Int) (l:List Sh):List Hd:=(spL (lvN cs n l)).flatMap (fun p=>pieces n p.1.1 p.1.2 p.2 (pieceN p.2))
def holdsA (cs:List Ct) (l:List Sh):Nat → List Hd
  | 0=>[]
  | k + 1=>holdsA cs l k ++ (if netS cs k l = 0 then holdsN cs k l else [])
def negN (cs:List Ct) (n:Int) (l:List Sh):Bool:=decide (netS cs n l = 0) && (lvN cs n l).any (fun y=>decide (y.v < 0))
theorem stored_pieces (n a b s m t:Int) (h0:0 ≤ s):∀ k:Nat,65536 * (k:Int) < s + 65536 → stored (pieces n a b s k) m t = if n = m ∧ a ≤ t ∧ t < b then min s (65536 * k) else 0
  | 0,_=>by
    show (0:Int) = _
    split <;> omega
  | k + 1,h=>by
    have ih:=stored_pieces n a b s m t h0 k (by omega)
    have e:pieces n a b s (k + 1) = pieces n a b s k ++ [⟨n,a,b,min (s - 65536 * k) 65536,0⟩]:=by
      unfold pieces;rw [List.range_succ,List.map_append]
      rfl
    rw [e,stored_append,ih];simp only [stored]
    split <;> omega
theorem pieceN_ok {s:Int} (h:0 < s):65536 * (pieceN s:Int) < s + 65536 ∧ s ≤ 65536 * (pieceN s:Int):=by
  unfold pieceN;omega
theorem stored_holdsN {cs:List Ct} {n:Int} {l:List Sh} (m t:Int):stored (holdsN cs n l) m t = if n = m then coverS (spL (lvN cs n l)) t else 0:=by
  unfold holdsN coverS
  have hpos:∀ s ∈ spL (lvN cs n l),0 < s.2:=fun s hs=>by
    obtain ⟨h1,_,_⟩:=lvN_ok cs n l
    have:∀ (f:List Lv),f.Pairwise (fun x y=>x.a < y.a) → ∀ s ∈ spL f,0 < s.2:=fun f=>by
      intro hf s hs
      cases f with
      | nil=>simp [spL] at hs
      | cons x f=>exact (spL_low (p:=x.a) hf (fun z hz=>by
          rcases List.mem_cons.1 hz with rfl | hz
          · omega
          · have:=(List.pairwise_cons.1 hf).1 z hz; omega) s hs).2.2.1
    exact this _ h1 s hs
  generalize spL (lvN cs n l) = L at hpos
  induction L with
  | nil=>simp [stored,lsum]
  | cons s L ih =>
    have h1:=pieceN_ok (hpos s (by simp))
    rw [List.flatMap_cons,stored_append,ih (fun z hz=>hpos z (by simp [hz])),stored_pieces _ _ _ _ _ _ (by have:=hpos s (by simp); omega) _ h1.1]
    simp only [lsum]
    by_cases c:n = m
    · simp only [c,true_and,if_true]
      split <;> omega
    · simp only [c,false_and,if_false]
      rfl
theorem negN_not {cs:List Ct} {n:Int} {l:List Sh} (hz:netS cs n l = 0) (hn:negN cs n l = false):∀ y ∈ lvN cs n l,0 ≤ y.v:=fun y hy=>by
  unfold negN at hn;rw [decide_eq_true hz,Bool.true_and,List.any_eq_false] at hn
  have:=hn y hy
  simp at this
  omega
theorem evs_high (cs:List Ct) (n:Int) (l:List Sh) (a:Int):∃ p,a ≤ p ∧ ∀ u ∈ evsN cs n l,u ≤ p:=by
  have:∀ L:List Int,∃ p,a ≤ p ∧ ∀ u ∈ L,u ≤ p:=fun L=>by
    induction L with
    | nil=>exact ⟨a,by omega,by simp⟩
    | cons x L ih =>
      obtain ⟨p,hp0,hp⟩:=ih
      refine ⟨max p x,by omega,fun u hu=>?_⟩
      rcases List.mem_cons.1 hu with rfl | hu
      · omega
      · have:=hp u hu; omega
  exact this _
theorem vat_after:∀ {f:List Lv} {c a b:Int},(∀ z ∈ f,z.a ≤ a) → a ≤ b → vat c f b = vat c f a
  | [],_,_,_,_,_=>rfl
  | z :: f,c,a,b,h,hab=>by
    have:=h z (by simp)
    simp only [vat]
    rw [if_pos (by omega),if_pos (by omega)]
    exact vat_after (fun w hw=>h w (by simp [hw])) hab
theorem holdsN_have {cs:List Ct} {n:Int} {l:List Sh} (hz:netS cs n l = 0) (hn:negN cs n l = false) (t:Int):stored (holdsN cs n l) n t = haveS cs n t l:=by
  obtain ⟨h1,h2,h3⟩:=lvN_ok cs n l
  have hnn:=negN_not hz hn
  rw [stored_holdsN,if_pos rfl,← h3 t]
  have hlate:∀ T,(∀ z ∈ lvN cs n l,z.a ≤ T) → val (lvN cs n l) T = 0:=fun T hT=>by
    obtain ⟨p,p1,p2⟩:=evs_high cs n l T
    have:=h3 p
    rw [haveS_late p2,hz] at this;rw [← this];unfold val;exact (vat_after hT p1).symm
  generalize lvN cs n l = f at h1 hnn hlate
  cases f with
  | nil=>rfl
  | cons x f =>
    unfold val at hlate ⊢
    by_cases hx:x.a ≤ t
    · rw [spL_cover h1 hnn (fun T hT=>by
        have:=hlate T hT
        simp only [vat] at this
        rwa [if_pos (hT x (by simp))] at this) hx]
      simp only [vat];rw [if_pos hx]
    · simp only [vat]
      rw [if_neg hx]
      exact cover_none (fun s hs=>by
        have:=(spL_low (p:=x.a) h1 (fun z hz=>by
          rcases List.mem_cons.1 hz with rfl | hz
          · omega
          · have:=(List.pairwise_cons.1 h1).1 z hz; omega) s hs).1
        omega)
theorem holdsA_have {cs:List Ct} {l:List Sh} {n t:Int}:∀ {k:Nat},(∀ m:Nat,m < k → negN cs m l = false) → 0 ≤ n → stored (holdsA cs l k) n t = if n < k ∧ netS cs n l = 0 then haveS cs n t l else 0
  | 0,_,h0=>by rw [if_neg (by omega)]; rfl
  | k + 1,h,h0=>by
    have ih:=holdsA_have (t:=t) (k:=k) (fun m hm=>h m (by omega)) h0
    unfold holdsA;rw [stored_append,ih]
    by_cases hk:n = k
    · subst hk
      rw [if_neg (by omega)]
      by_cases hz:netS cs k l = 0
      · rw [if_pos hz,if_pos ⟨by omega,hz⟩,holdsN_have hz (h k (by omega)),Int.zero_add]
      · rw [if_neg hz,if_neg (fun c=>hz c.2)]; rfl
    · have e:stored (if netS cs k l = 0 then holdsN cs k l else []) n t = 0:=by
        split
        · rw [stored_holdsN,if_neg (fun c=>hk c.symm)]
        · rfl
      rw [e,Int.add_zero]
      by_cases hc:n < k ∧ netS cs n l = 0
      · rw [if_pos hc,if_pos ⟨by omega,hc.2⟩]
      · rw [if_neg hc,if_neg (fun c=>hc ⟨by omega,c.2⟩)]
theorem holdsA_ok {cs:List Ct} {l:List Sh} {nq:Nat} (hev:∀ n:Int,∀ t ∈ evsN cs n l,0 ≤ t ∧ t ≤ 1099511627776):∀ {k:Nat},k ≤ nq → ∀ h ∈ holdsA cs l k,okHd nq h ∧ h.k = 0
  | 0,_,h,hh=>by simp [holdsA] at hh
  | k + 1,hk,h,hh=>by
    unfold holdsA at hh
    rcases List.mem_append.1 hh with hh | hh
    · exact holdsA_ok hev (by omega) h hh
    · split at hh
      · unfold holdsN at hh
        obtain ⟨s,hs,hp⟩:=List.mem_flatMap.1 hh
        obtain ⟨i,hi,rfl⟩:=List.mem_map.1 hp
        rw [List.mem_range] at hi
        obtain ⟨h1,h2,h3⟩:=lvN_ok cs k l
        have hlo:∀ x ∈ lvN cs k l,x.a ∈ evsN cs k l:=fun x hx=>by
          unfold lvN at hx
          have hc:∀ (F:Int → Int) (ts:List Int) (c:Int),∀ x ∈ comb F c ts,x.a ∈ ts:=fun F ts=>by
            induction ts with
            | nil=>intro c x hx; simp [comb] at hx
            | cons t ts ih =>
              intro c x hx
              simp only [comb] at hx
              split at hx
              · rcases List.mem_cons.1 hx with rfl | hx
                · simp
                · exact List.mem_cons_of_mem _ (ih _ x hx)
              · exact List.mem_cons_of_mem _ (ih _ x hx)
          exact ((evtN_sa cs k l).2 _).1 (hc _ _ _ x hx)
        obtain ⟨_,a2,a3,⟨x,hx,a4,_⟩,y,hy,a5⟩:=spL_low (p:=0) h1 (fun x hx=>(hev _ _ (hlo x hx)).1) s hs
        have e1:=hev _ _ (hlo x hx)
        have e2:=hev _ _ (hlo y hy)
        have e3:=pieceN_ok a3
        unfold okHd
        dsimp only
        omega
      · simp at hh
end Go.Step
/- The longest runs of ticks: bookings of shipments. No program in sight. No conditions. -/
namespace Go.Step
def IsRun (K:List (Int × Int)) (b:Bk):Prop:=b.k = 0 ∧ b.a < b.b ∧ (∀ t,b.a ≤ t → t < b.b → (b.c,t) ∈ K) ∧ (b.c,b.a - 1) ∉ K ∧ (b.c,b.b) ∉ K
theorem IsRun.same {K:List (Int × Int)} {x y:Bk} (hx:IsRun K x) (hy:IsRun K y) (hc:x.c = y.c) {t:Int} (h1:x.a ≤ t) (h2:t < x.b) (h3:y.a ≤ t) (h4:t < y.b):x = y:=by
  obtain ⟨a1,a2,a3,a4,a5⟩:=hx
  obtain ⟨b1,b2,b3,b4,b5⟩:=hy
  have e1:x.a = y.a:=by
    rcases Int.lt_trichotomy x.a y.a with h | h | h
    · exact absurd (hc ▸ a3 (y.a - 1) (by omega) (by omega)) b4
    · exact h
    · exact absurd (hc ▸ b3 (x.a - 1) (by omega) (by omega):(x.c,x.a - 1) ∈ K) a4
  have e2:x.b = y.b:=by
    rcases Int.lt_trichotomy x.b y.b with h | h | h
    · exact absurd (hc ▸ b3 x.b (by omega) h:(x.c,x.b) ∈ K) a5
    · exact h
    · exact absurd (hc ▸ a3 y.b (by omega) h) b5
  obtain ⟨xc,xa,xb,xk⟩:=x
  obtain ⟨yc,ya,yb,yk⟩:=y
  dsimp only at *
  subst hc e1 e2 a1 b1
  rfl
def addT (out:List Bk) (x:Int × Int):List Bk:=match out.getLast? with
  | some b=>if b.c = x.1 ∧ b.b = x.2 then out.dropLast ++ [⟨b.c,b.a,b.b + 1,b.k⟩] else out ++ [⟨x.1,x.2,x.2 + 1,0⟩]
  | none=>[⟨x.1,x.2,x.2 + 1,0⟩]
def runsK (K:List (Int × Int)):List Bk:=K.foldl addT []
theorem runsK_snoc (K:List (Int × Int)) (x:Int × Int):runsK (K ++ [x]) = addT (runsK K) x:=by
  unfold runsK;rw [List.foldl_append]
  rfl
abbrev lexT (x y:Int × Int):Prop:=x.1 < y.1 ∨ (x.1 = y.1 ∧ x.2 < y.2)
structure RunsOf (K:List (Int × Int)) (out:List Bk):Prop where
  p:out.Pairwise (fun x y=>x.c < y.c ∨ (x.c = y.c ∧ x.b < y.a))
  q:∀ b ∈ out,b.a < b.b ∧ b.k = 0
  r:∀ c t,(c,t) ∈ K ↔ ∃ b ∈ out,b.c = c ∧ b.a ≤ t ∧ t < b.b
theorem RunsOf.add {K:List (Int × Int)} {out:List Bk} (h:RunsOf K out) {x:Int × Int} (hx:∀ y ∈ K,lexT y x):RunsOf (K ++ [x]) (addT out x):=by
  obtain ⟨xc,xt⟩:=x
  have hold:∀ b ∈ out,b.c < xc ∨ (b.c = xc ∧ b.b ≤ xt):=fun b hb=>by
    have h1:=h.q b hb
    have:=hx (b.c,b.b - 1) ((h.r _ _).2 ⟨b,hb,rfl,by omega,by omega⟩)
    unfold lexT at this
    dsimp only at this
    omega
  unfold addT
  cases hl:out.getLast? with
  | none =>
    have:out = []:=by simpa using hl
    subst this
    refine ⟨List.pairwise_singleton _ _,fun b hb=>?_,fun c t=>?_⟩
    · rw [List.mem_singleton] at hb; subst hb; dsimp only; omega
    · rw [List.mem_append,h.r,List.mem_singleton,Prod.mk.injEq]
      constructor
      · rintro (⟨b,hb,_⟩ | ⟨rfl,rfl⟩)
        · simp at hb
        · exact ⟨_,List.mem_singleton.2 rfl,rfl,by dsimp only; omega,by dsimp only; omega⟩
      · rintro ⟨b,hb,h1,h2,h3⟩
        rw [List.mem_singleton] at hb;subst hb
        dsimp only at h1 h2 h3
        exact .inr ⟨h1.symm,by omega⟩
  | some b =>
    obtain ⟨pre,rfl⟩:∃ pre,out = pre ++ [b]:=by
      have hne:out ≠ []:=by intro hh; rw [hh] at hl; simp at hl
      refine ⟨out.dropLast,?_⟩
      have h1:=List.dropLast_concat_getLast hne
      rw [List.getLast?_eq_some_getLast hne] at hl;rw [← Option.some.inj hl];exact h1.symm
    dsimp only
    have hp:=List.pairwise_append.1 h.p
    split
    · rename_i hc
      rw [List.dropLast_concat]
      refine ⟨List.pairwise_append.2 ⟨hp.1,List.pairwise_singleton _ _,fun y hy z hz=>?_⟩,fun y hy=>?_,fun c t=>?_⟩
      · rw [List.mem_singleton] at hz
        subst hz
        exact hp.2.2 y hy b (by simp)
      · rcases List.mem_append.1 hy with hy | hy
        · exact h.q y (by simp [hy])
        · rw [List.mem_singleton] at hy
          subst hy
          have:=h.q b (by simp)
          dsimp only
          omega
      · rw [List.mem_append,h.r,List.mem_singleton,Prod.mk.injEq]
        constructor
        · rintro (⟨y,hy,h1,h2,h3⟩ | ⟨rfl,rfl⟩)
          · rcases List.mem_append.1 hy with hy | hy
            · exact ⟨y,by simp [hy],h1,h2,h3⟩
            · rw [List.mem_singleton] at hy
              subst hy
              exact ⟨_,List.mem_append.2 (.inr (List.mem_singleton.2 rfl)),h1,h2,by dsimp only; omega⟩
          · have:=h.q b (by simp)
            exact ⟨_,List.mem_append.2 (.inr (List.mem_singleton.2 rfl)),hc.1,by dsimp only; omega,by dsimp only; omega⟩
        · rintro ⟨y,hy,h1,h2,h3⟩
          rcases List.mem_append.1 hy with hy | hy
          · exact .inl ⟨y,by simp [hy],h1,h2,h3⟩
          · rw [List.mem_singleton] at hy
            subst hy
            dsimp only at h1 h2 h3
            by_cases ht:t < b.b
            · exact .inl ⟨b,by simp,h1,h2,ht⟩
            · exact .inr ⟨by omega,by omega⟩
    · rename_i hc
      refine ⟨List.pairwise_append.2 ⟨h.p,List.pairwise_singleton _ _,fun y hy z hz=>?_⟩,fun y hy=>?_,fun c t=>?_⟩
      · rw [List.mem_singleton] at hz
        subst hz
        dsimp only
        have h1:=hold y hy
        rcases List.mem_append.1 hy with hy2 | hy2
        · have h2:=hp.2.2 y hy2 b (by simp)
          have h3:=hold b (by simp)
          have h4:=h.q b (by simp)
          omega
        · rw [List.mem_singleton] at hy2
          subst hy2;omega
      · rcases List.mem_append.1 hy with hy | hy
        · exact h.q y hy
        · rw [List.mem_singleton] at hy
          subst hy
          dsimp only
          omega
      · rw [List.mem_append,h.r,List.mem_singleton,Prod.mk.injEq]
        constructor
        · rintro (⟨y,hy,h1,h2,h3⟩ | ⟨rfl,rfl⟩)
          · exact ⟨y,List.mem_append.2 (.inl hy),h1,h2,h3⟩
          · exact ⟨_,List.mem_append.2 (.inr (List.mem_singleton.2 rfl)),rfl,by dsimp only; omega,by dsimp only; omega⟩
        · rintro ⟨y,hy,h1,h2,h3⟩
          rcases List.mem_append.1 hy with hy | hy
          · exact .inl ⟨y,hy,h1,h2,h3⟩
          · rw [List.mem_singleton] at hy
            subst hy
            dsimp only at h1 h2 h3
            exact .inr ⟨h1.symm,by omega⟩
theorem runsK_ok:∀ {K:List (Int × Int)},K.Pairwise lexT → RunsOf K (runsK K):=fun {K} h=>by
  have hk:∀ k,k ≤ K.length → RunsOf (K.take k) (runsK (K.take k)):=fun k=>by
    induction k with
    | zero=>exact fun _=>⟨.nil,by simp [runsK],fun c t=>by simp [runsK]⟩
    | succ k ih =>
      intro hk
      rw [List.take_succ_eq_append_getElem (by omega),runsK_snoc]
      refine (ih (by omega)).add (fun y hy=>?_)
      obtain ⟨i,hi,rfl⟩:=List.mem_take_iff_getElem.1 hy
      exact (List.pairwise_iff_getElem.1 h) i k (by omega) (by omega) (by omega)
  have:=hk K.length (Nat.le_refl _)
  rwa [List.take_length] at this
theorem RunsOf.is {K:List (Int × Int)} {out:List Bk} (h:RunsOf K out):(∀ b,b ∈ out ↔ IsRun K b) ∧ out.Nodup:=by
  have hsame:∀ x ∈ out,∀ y ∈ out,x.c = y.c → ∀ t,x.a ≤ t → t ≤ x.b → y.a ≤ t → t ≤ y.b → x = y:=fun x hx y hy hc t h1 h2 h3 h4=>by
    obtain ⟨i,hi,rfl⟩:=List.getElem_of_mem hx
    obtain ⟨j,hj,rfl⟩:=List.getElem_of_mem hy
    rcases Nat.lt_trichotomy i j with hij | hij | hij
    · have:=(List.pairwise_iff_getElem.1 h.p) i j hi hj hij
      omega
    · subst hij; rfl
    · have:=(List.pairwise_iff_getElem.1 h.p) j i hj hi hij
      omega
  have h1:∀ b ∈ out,IsRun K b:=fun b hb=>by
    have hq:=h.q b hb
    refine ⟨hq.2,hq.1,fun t h2 h3=>(h.r _ _).2 ⟨b,hb,rfl,h2,h3⟩,fun hm=>?_,fun hm=>?_⟩
    · obtain ⟨y,hy,e1,e2,e3⟩:=(h.r _ _).1 hm
      have:=hsame b hb y hy e1.symm b.a (by omega) (by omega) (by omega) (by omega)
      subst this;omega
    · obtain ⟨y,hy,e1,e2,e3⟩:=(h.r _ _).1 hm
      have:=hsame b hb y hy e1.symm b.b (by omega) (by omega) (by omega) (by omega)
      subst this;omega
  refine ⟨fun b=>⟨h1 b,fun hb=>?_⟩,?_⟩
  · obtain ⟨y,hy,e1,e2,e3⟩:=(h.r b.c b.a).1 (hb.2.2.1 b.a (Int.le_refl _) hb.2.1)
    have:=IsRun.same hb (h1 y hy) e1.symm (t:=b.a) (Int.le_refl _) hb.2.1 e2 e3
    rw [this]; exact hy
  · refine List.pairwise_iff_getElem.2 (fun i j hi hj hij e=>?_)
    have h2:=(List.pairwise_iff_getElem.1 h.p) i j hi hj hij
    have h3:=h.q _ (List.getElem_mem hj)
    rw [e] at h2;omega
end Go.Step
/- One more booking. No program in sight. No conditions. -/
namespace Go.Step
open Go.Eng (insL insL_len)
theorem bookedB_iff {l:List Bk} {c t:Int}:bookedB l c t = true ↔ ∃ y ∈ l,y.c = c ∧ y.a ≤ t ∧ t < y.b:=by
  unfold bookedB busyL;rw [List.any_eq_true]
  constructor
  · rintro ⟨s,hs,h⟩
    obtain ⟨y,hy,rfl⟩:=List.mem_map.1 hs
    rw [List.mem_filter,decide_eq_true_eq] at hy;rw [Bool.and_eq_true,decide_eq_true_eq,decide_eq_true_eq] at h;exact ⟨y,hy.1,hy.2,h⟩
  · rintro ⟨y,hy,hc,h1,h2⟩
    refine ⟨(y.a,y.b),List.mem_map.2 ⟨y,List.mem_filter.2 ⟨hy,decide_eq_true hc⟩,rfl⟩,?_⟩;rw [Bool.and_eq_true,decide_eq_true_eq,decide_eq_true_eq];exact ⟨h1,h2⟩
theorem bks_of {cs:List Ct} {l:List Bk} (hok:∀ y ∈ l,okBk cs y) (hp:l.Pairwise (fun x y=>x.c < y.c ∨ (x.c = y.c ∧ x.b ≤ y.a))):firstE (bkE cs l) l.length = 0:=by
  refine firstE_all (fun k hk=>?_)
  rw [bkE_at (List.getElem?_eq_getElem hk),if_neg (by rw [(okBkB_iff cs _).2 (hok _ (List.getElem_mem hk))]; simp)]
  by_cases h0:k = 0
  · rw [if_pos h0]
  rw [if_neg h0,List.getD_eq_getElem?_getD,List.getElem?_eq_getElem (show k - 1 < l.length by omega),Option.getD_some]
  have h1:=List.pairwise_iff_getElem.1 hp (k - 1) k (by omega) hk (by omega)
  obtain ⟨_,c,_,_,h2,_⟩:=hok _ (List.getElem_mem (show k - 1 < l.length by omega))
  unfold bk2E
  rw [if_neg (fun h=>h ((cmpBk_lt _ _).2 (by omega))),if_neg (by omega)]
end Go.Step
/- Fewer bookings, fewer holds, a later deadline: still valid, and no less can be brought. No program in sight. No conditions. -/
namespace Go.Step
theorem chkT_of {qs:List Int} {cs:List Ct} {bs:List Bk} {hs:List Hd} (h1:chkPl qs cs = 0) (h2:chkB qs cs bs = 0) (h3:chkH qs cs hs = 0):chkT qs cs bs hs = 0:=by
  unfold chkT
  rw [if_neg (by simpa using h1),if_neg (by simpa using h2),h3]
section
variable {qs:List Int} {cs:List Ct} {bs:List Bk} {hs:List Hd} {d:Dm} {F F':List Int} {m m' e e':Int}
end
end Go.Step
/- Tables in which shipments are reserved. No program in sight. No conditions. -/
namespace Go.Step
def ticksS (l:List Sh):List (Int × Int):=l.map (fun x=>(x.c,x.t))
def rsv1 (cs:List Ct) (x:Sh):Int:=
  if x.c < 0 ∨ (cs.length:Int) ≤ x.c then 2 else match cs[x.c.toNat]? with
    | none=>2
    | some c=>if x.t < c.s ∨ c.e ≤ x.t ∨ x.n < 1 ∨ c.r < x.n then 2 else 0
def rsvE (cs:List Ct) (bs:List Bk) (l:List Sh) (i:Nat):Int:=match l[i]? with
  | none=>0
  | some x=>if rsv1 cs x ≠ 0 then rsv1 cs x else if (l.take i).any (sameSl x) || bookedB bs x.c x.t then 14 else 0
theorem rsvE_at {cs:List Ct} {bs:List Bk} {l:List Sh} {i:Nat} {x:Sh} (h:l[i]? = some x):rsvE cs bs l i = if rsv1 cs x ≠ 0 then rsv1 cs x else if (l.take i).any (sameSl x) || bookedB bs x.c x.t then 14 else 0:=by unfold rsvE; rw [h]
theorem rsv1_ok {cs:List Ct} {x:Sh} (h:rsv1 cs x = 0):∃ c,cs[x.c.toNat]? = some c ∧ ctOf cs x = c ∧ (0 ≤ x.c ∧ x.c < (cs.length:Int)) ∧ c.s ≤ x.t ∧ x.t < c.e ∧ 1 ≤ x.n ∧ x.n ≤ c.r:=by
  unfold rsv1 at h
  split at h
  · omega
  rename_i h1
  cases hc:cs[x.c.toNat]? with
  | none=>rw [hc] at h; simp at h
  | some c =>
    rw [hc] at h
    dsimp only at h
    split at h
    · omega
    rename_i h2
    exact ⟨c,rfl,by unfold ctOf; rw [List.getD_eq_getElem?_getD,hc]; rfl,by omega,by omega,by omega,by omega,by omega⟩
theorem rsv_facts {cs:List Ct} {bs:List Bk} {l:List Sh} (h:firstE (rsvE cs bs l) l.length = 0):(∀ x ∈ l,rsv1 cs x = 0 ∧ bookedB bs x.c x.t = false) ∧ l.Pairwise (fun x y=>sameSl y x = false):=by
  have h1:∀ (i:Nat) (hi:i < l.length),rsv1 cs l[i] = 0 ∧ (l.take i).any (sameSl l[i]) = false ∧ bookedB bs l[i].c l[i].t = false:=fun i hi=>by
    have:=firstE_zero h i hi
    rw [rsvE_at (List.getElem?_eq_getElem hi)] at this
    by_cases h1:rsv1 cs l[i] = 0
    · rw [if_neg (by simpa using h1)] at this
      split at this
      · omega
      rename_i h2
      rw [Bool.or_eq_true,not_or] at h2
      exact ⟨h1,by simpa using h2.1,by simpa using h2.2⟩
    · rw [if_pos h1] at this
      exact absurd this h1
  refine ⟨fun x hx=>?_,List.pairwise_iff_getElem.2 (fun i j hi hj hij=>?_)⟩
  · obtain ⟨i,hi,rfl⟩:=List.getElem_of_mem hx
    exact ⟨(h1 i hi).1,(h1 i hi).2.2⟩
  · have:=(h1 j hj).2.1
    rw [List.any_eq_false] at this
    have h2:=this l[i] (List.mem_take_iff_getElem.2 ⟨i,by omega,rfl⟩)
    simpa using h2
structure RsvOK (qs:List Int) (cs:List Ct) (bs:List Bk) (hs:List Hd) (l:List Sh) (R bs':List Bk) (hs':List Hd):Prop where
  rn:R.Nodup
  rm:∀ b,b ∈ R ↔ IsRun (ticksS l) b
  pb:bs'.Perm (bs ++ R)
  sb:bs'.Pairwise (fun x y=>cmpBk x y < 0)
  ph:hs'.Perm (hs ++ holdsA cs l qs.length)
  sh:SortH hs'
section
variable {qs:List Int} {cs:List Ct} {bs:List Bk} {hs:List Hd} {l:List Sh} {R bs':List Bk} {hs':List Hd}
theorem mem_ticks {c t:Int}:(c,t) ∈ ticksS l ↔ ∃ x ∈ l,x.c = c ∧ x.t = t:=by
  unfold ticksS;rw [List.mem_map]
  constructor
  · rintro ⟨x,hx,h⟩
    rw [Prod.mk.injEq] at h;exact ⟨x,hx,h.1,h.2⟩
  · rintro ⟨x,hx,h1,h2⟩
    exact ⟨x,hx,by rw [h1,h2]⟩
theorem run_ok (h:∀ x ∈ l,rsv1 cs x = 0) {b:Bk} (hb:IsRun (ticksS l) b):okBk cs b:=by
  obtain ⟨h1,h2,h3,_,_⟩:=hb
  obtain ⟨x,hx,e1,e2⟩:=mem_ticks.1 (h3 b.a (Int.le_refl _) h2)
  obtain ⟨y,hy,e3,e4⟩:=mem_ticks.1 (h3 (b.b - 1) (by omega) (by omega))
  obtain ⟨c,c1,_,c3,c4,_⟩:=rsv1_ok (h x hx)
  obtain ⟨c',d1,_,d3,d4,d5,_⟩:=rsv1_ok (h y hy)
  rw [e3,← e1,c1] at d1
  obtain rfl:=Option.some.inj d1
  exact ⟨by omega,c,by rw [← e1]; exact c1,by omega,h2,by omega⟩
theorem bks_same (h:firstE (bkE cs bs) bs.length = 0) {x y:Bk} (hx:x ∈ bs) (hy:y ∈ bs) (hc:x.c = y.c) {t:Int} (h1:x.a ≤ t) (h2:t < x.b) (h3:y.a ≤ t) (h4:t < y.b):x = y:=by
  have hp:=bks_apart h
  obtain ⟨i,hi,rfl⟩:=List.getElem_of_mem hx
  obtain ⟨j,hj,rfl⟩:=List.getElem_of_mem hy
  rcases Nat.lt_trichotomy i j with hij | hij | hij
  · have:=(List.pairwise_iff_getElem.1 hp) i j hi hj hij
    omega
  · subst hij; rfl
  · have:=(List.pairwise_iff_getElem.1 hp) j i hj hi hij
    omega
theorem rsv_same (h:firstE (bkE cs bs) bs.length = 0) (hb:∀ x ∈ l,bookedB bs x.c x.t = false) (hm:∀ b,b ∈ R ↔ IsRun (ticksS l) b) {x y:Bk} (hx:x ∈ bs ++ R) (hy:y ∈ bs ++ R) (hc:x.c = y.c) {t:Int} (h1:x.a ≤ t) (h2:t < x.b) (h3:y.a ≤ t) (h4:t < y.b):x = y:=by
  have hno:∀ u v:Bk,u ∈ bs → v ∈ R → u.c = v.c → u.a ≤ t → t < u.b → v.a ≤ t → t < v.b → False:=fun u v hu hv e a1 a2 a3 a4=>by
    obtain ⟨z,hz,e1,e2⟩:=mem_ticks.1 (((hm v).1 hv).2.2.1 t a3 a4)
    have:=hb z hz
    rw [e1,e2,bookedB_iff.2 ⟨u,hu,e,a1,a2⟩] at this
    simp at this
  rcases List.mem_append.1 hx with hx | hx <;> rcases List.mem_append.1 hy with hy | hy
  · exact bks_same h hx hy hc h1 h2 h3 h4
  · exact (hno x y hx hy hc h1 h2 h3 h4).elim
  · exact (hno y x hy hx hc.symm h3 h4 h1 h2).elim
  · exact IsRun.same ((hm x).1 hx) ((hm y).1 hy) hc h1 h2 h3 h4
theorem rsv_bks (h0:chkB qs cs bs = 0) (hE:firstE (rsvE cs bs l) l.length = 0) (hR:RsvOK qs cs bs hs l R bs' hs') (hlen:bs'.length ≤ 512):chkB qs cs bs' = 0:=by
  obtain ⟨a1,a2⟩:=chkB_ok h0
  have hpl:chkPl qs cs = 0:=by
    unfold chkB at h0
    by_cases c:chkPl qs cs = 0
    · exact c
    · rw [if_pos c] at h0; omega
  obtain ⟨f1,_⟩:=rsv_facts hE
  have hok:∀ y ∈ bs',okBk cs y:=fun y hy=>by
    rcases List.mem_append.1 (hR.pb.mem_iff.1 hy) with hy | hy
    · exact bkE_ok a2 y hy
    · exact run_ok (fun x hx=>(f1 x hx).1) ((hR.rm y).1 hy)
  unfold chkB
  rw [if_neg (by rw [hpl]; simp),if_neg (by omega)]
  refine bks_of hok (hR.sb.imp_of_mem (fun {x y} hx hy hxy=>?_))
  have h1:=(cmpBk_lt x y).1 hxy
  obtain ⟨_,_,_,_,k1,_⟩:=hok x hx
  obtain ⟨_,_,_,_,k2,_⟩:=hok y hy
  by_cases hlt:y.a < x.b
  · rcases h1 with h1 | ⟨h1,h2⟩
    · exact .inl h1
    · have:=rsv_same a2 (fun x hx=>(f1 x hx).2) hR.rm (hR.pb.mem_iff.1 hx) (hR.pb.mem_iff.1 hy) h1 (t:=y.a) (by omega) hlt (Int.le_refl _) k2
      subst this;omega
  · omega
theorem run_of (hn:(ticksS l).Nodup) {c t:Int} (h:(c,t) ∈ ticksS l):∃ b,IsRun (ticksS l) b ∧ b.c = c ∧ b.a ≤ t ∧ t < b.b:=by
  have hp:=List.pairwise_mergeSort (le:=fun x y:Int × Int=>decide (lexT x y ∨ x = y)) (by
    intro a b c h1 h2
    simp only [decide_eq_true_eq] at *
    rcases h1 with h1 | rfl
    · rcases h2 with h2 | rfl
      · left; unfold lexT at *; omega
      · exact .inl h1
    · exact h2) (by
    intro a b
    simp only [Bool.or_eq_true,decide_eq_true_eq];unfold lexT
    by_cases e:a = b
    · exact .inl (.inr e)
    · have:a.1 ≠ b.1 ∨ a.2 ≠ b.2:=by
        apply Decidable.byContradiction
        intro hh
        rw [not_or,Decidable.not_not,Decidable.not_not] at hh;exact e (Prod.ext hh.1 hh.2)
      omega) (ticksS l)
  have hperm:=List.mergeSort_perm (ticksS l) (fun x y:Int × Int=>decide (lexT x y ∨ x = y))
  have hn2:=hperm.nodup_iff.2 hn
  generalize (ticksS l).mergeSort (fun x y:Int × Int=>decide (lexT x y ∨ x = y)) = K at hp hperm hn2
  have hp2:K.Pairwise lexT:=by
    refine (hp.and hn2).imp (fun {x y} hxy=>?_)
    rcases of_decide_eq_true hxy.1 with h1 | h1
    · exact h1
    · exact absurd h1 hxy.2
  have hk:=runsK_ok hp2
  obtain ⟨b,hb,e1,e2,e3⟩:=(hk.r c t).1 (hperm.mem_iff.2 h)
  obtain ⟨b1,b2,b3,b4,b5⟩:=(hk.is.1 b).1 hb
  exact ⟨b,⟨b1,b2,fun t h1 h2=>hperm.mem_iff.1 (b3 t h1 h2),fun hh=>b4 (hperm.mem_iff.2 hh),fun hh=>b5 (hperm.mem_iff.2 hh)⟩,e1,e2,e3⟩
theorem ticks_nodup (h:l.Pairwise (fun x y=>sameSl y x = false)):(ticksS l).Nodup:=by
  unfold ticksS;rw [List.Nodup,List.pairwise_map]
  refine h.imp (fun {x y} hxy e=>?_)
  rw [Prod.mk.injEq] at e;unfold sameSl at hxy;rw [decide_eq_false_iff_not] at hxy;exact hxy ⟨e.1.symm,e.2.symm⟩
theorem stored_perm {a b:List Hd} (h:a.Perm b) (n t:Int):stored a n t = stored b n t:=by
  induction h with
  | nil=>rfl
  | cons x _ ih=>simp only [stored,ih]
  | swap x y l=>simp only [stored]; omega
  | trans _ _ h1 h2=>exact h1.trans h2
theorem rsv_booked (hR:RsvOK qs cs bs hs l R bs' hs') (hn:(ticksS l).Nodup):(∀ i t,bookedB bs i t = true → bookedB bs' i t = true) ∧ ∀ x ∈ l,bookedB bs' x.c x.t = true:=by
  refine ⟨fun i t h=>?_,fun x hx=>?_⟩
  · obtain ⟨y,hy,h1⟩:=bookedB_iff.1 h
    exact bookedB_iff.2 ⟨y,hR.pb.mem_iff.2 (List.mem_append.2 (.inl hy)),h1⟩
  · obtain ⟨b,hb,h1⟩:=run_of hn (mem_ticks.2 ⟨x,hx,rfl,rfl⟩)
    exact bookedB_iff.2 ⟨b,hR.pb.mem_iff.2 (List.mem_append.2 (.inr ((hR.rm b).2 hb))),h1⟩
end
section
variable {qs:List Int} {cs:List Ct} {bs:List Bk} {hs:List Hd} {d:Dm} {l:List Sh} {v:Int}
theorem ship1_rsv {x:Sh} (h:ship1 cs bs d x = 0):rsv1 cs x = 0 ∧ bookedB bs x.c x.t = false ∧ d.r ≤ x.t ∧ arrOf cs x ≤ d.e:=by
  unfold ship1 at h
  split at h
  · omega
  rename_i h1
  unfold rsv1;rw [if_neg h1]
  cases hc:cs[x.c.toNat]? with
  | none=>rw [hc] at h; simp at h
  | some c =>
    rw [hc] at h
    dsimp only at h ⊢
    split at h
    · omega
    rename_i h2
    split at h
    · omega
    rename_i h3
    split at h
    · omega
    rename_i h4
    have hct:ctOf cs x = c:=by unfold ctOf; rw [List.getD_eq_getElem?_getD,hc]; rfl
    unfold arrOf
    rw [hct,if_neg (by omega)]
    exact ⟨rfl,by simpa using h4,by omega,by omega⟩
theorem flow_rsv (hl:flowR qs cs bs hs d l = (v,0)):firstE (rsvE cs bs l) l.length = 0:=by
  obtain ⟨a1,_⟩:=flow_facts hl
  obtain ⟨a5,a6⟩:=ships_facts a1
  refine firstE_all (fun i hi=>?_)
  have h1:=ship1_rsv (a5 _ (List.getElem_mem hi))
  rw [rsvE_at (List.getElem?_eq_getElem hi),if_neg (fun hh=>hh h1.1),if_neg]
  rw [Bool.or_eq_true,not_or]
  refine ⟨?_,by rw [h1.2.1]; simp⟩
  rw [Bool.not_eq_true,List.any_eq_false]
  intro y hy
  obtain ⟨j,hj,rfl⟩:=List.mem_take_iff_getElem.1 hy
  have:=(List.pairwise_iff_getElem.1 a6) j i (by omega) hi (by omega)
  simpa using this
theorem flow_evs (h:VOk qs cs bs hs d) (hl:flowR qs cs bs hs d l = (v,0)) (n:Int):∀ t ∈ evsN cs n l,d.r ≤ t ∧ t ≤ d.e:=fun t ht=>by
  obtain ⟨a1,_⟩:=flow_facts hl
  obtain ⟨a5,a6⟩:=ships_facts a1
  obtain ⟨x,hx,hh⟩:=mem_evsN.1 ht
  have h1:=ship1_rsv (a5 x hx)
  obtain ⟨c,c1,c2,c3,_⟩:=rsv1_ok h1.1
  have hg:=(h.ct c (List.mem_of_getElem? c1)).2.2.2.2
  have:arrOf cs x = x.t + 1 + c.g:=by unfold arrOf; rw [c2]
  omega
theorem flow_nets (h:VOk qs cs bs hs d) (hl:flowR qs cs bs hs d l = (v,0)) (hv:1 ≤ v) {n:Int} (h0:0 ≤ n) (hn:n < (qs.length:Int)):netS cs n l = 0 ↔ n ≠ d.s ∧ n ≠ d.d:=by
  obtain ⟨k1,k2,k3⟩:=nets_flow h hl
  constructor
  · intro hz
    refine ⟨fun e=>?_,fun e=>?_⟩
    · rw [e,k2] at hz; omega
    · rw [e,k1] at hz; omega
  · rintro ⟨e1,e2⟩
    exact k3 n h0 hn e1 e2
theorem flow_have (h:VOk qs cs bs hs d) (hl:flowR qs cs bs hs d l = (v,0)) {n t:Int} (h0:0 ≤ n) (hn:n < (qs.length:Int)) (h1:n ≠ d.s) (h2:n ≠ d.d):0 ≤ haveS cs n t l ∧ stored hs n t + haveS cs n t l ≤ qs.getD n.toNat 0:=by
  obtain ⟨a1,a2,a3,a4⟩:=flow_facts hl
  have hev:=flow_evs h hl n
  have hdm:=h.dm
  unfold okDm at hdm
  have hst:stored hs n t ≤ qs.getD n.toNat 0:=by
    have hq:0 ≤ qs.getD n.toNat 0:=by
      rw [List.getD_eq_getElem?_getD,List.getElem?_eq_getElem (show n.toNat < qs.length by omega),Option.getD_some]
      exact (h.quo n.toNat _ (List.getElem?_eq_getElem (by omega))).1
    refine fits_all h.hd hq (fun x hx e=>?_)
    have:=(fitB_iff.1 h.fit) x hx
    rwa [e] at this
  by_cases ht:t < d.r
  · rw [haveS_early (fun u hu=>by have:=hev u hu; omega)]
    omega
  by_cases ht2:d.e ≤ t
  · rw [haveS_late (fun u hu=>by have:=hev u hu; omega),(nets_flow h hl).2.2 n h0 hn h1 h2]
    omega
  unfold conflB at a2;unfold fullB at a3
  have e1:=(anyT_none.1 ((anyT_none.1 a2) n.toNat (by omega))) (t - d.r).toNat (by omega)
  have e2:=(anyT_none.1 ((anyT_none.1 a3) n.toNat (by omega))) (t - d.r).toNat (by omega)
  unfold confAt at e1;unfold fullAt roomT at e2;rw [decide_eq_false_iff_not] at e1 e2
  rw [show 0 + (n.toNat:Int) = n by omega,show d.r + ((t - d.r).toNat:Int) = t by omega] at e1 e2
  rw [if_neg (by omega)] at e2
  rw [haveS_stock h1];omega
theorem flow_neg (h:VOk qs cs bs hs d) (hl:flowR qs cs bs hs d l = (v,0)) (hv:1 ≤ v) {n:Nat} (hn:n < qs.length):negN cs n l = false:=by
  unfold negN
  by_cases hz:netS cs n l = 0
  · rw [decide_eq_true hz,Bool.true_and,List.any_eq_false]
    obtain ⟨e1,e2⟩:=(flow_nets h hl hv (by omega) (by omega)).1 hz
    intro y hy
    have h1:=((lvN_ok cs n l).2.1 y).1 hy
    have:=(flow_have h hl (n:=n) (t:=y.a) (by omega) (by omega) e1 e2).1
    simp
    omega
  · rw [decide_eq_false hz]; rfl
theorem flow_tables (hv:validT qs cs bs hs d = true) (h:VOk qs cs bs hs d) (hl:flowR qs cs bs hs d l = (v,0)) (hv1:1 ≤ v) {R bs':List Bk} {hs':List Hd} (hR:RsvOK qs cs bs hs l R bs' hs') (hb:bs'.length ≤ 512) (hh:hs'.length ≤ 512) :
    chkH qs cs hs' = 0 ∧ validT qs cs bs' hs' d = true ∧ ∀ n t:Int,0 ≤ n → n < (qs.length:Int) → n ≠ d.s → n ≠ d.d → stored hs' n t = stored hs n t + stock cs d n t l:=by
  obtain ⟨v1,v2⟩:=of_decide_eq_true hv
  obtain ⟨p,b,hH⟩:=chkT_ok v1
  have hE:=flow_rsv hl
  have hdm:=h.dm
  unfold okDm at hdm
  have hneg:∀ m:Nat,m < qs.length → negN cs m l = false:=fun m hm=>flow_neg h hl hv1 hm
  have hst:∀ n t:Int,0 ≤ n → n < (qs.length:Int) → stored hs' n t = stored hs n t + (if n ≠ d.s ∧ n ≠ d.d then haveS cs n t l else 0):=fun n t h0 hn=>by
    rw [stored_perm hR.ph,stored_append,holdsA_have hneg h0]
    congr 1
    have:=flow_nets h hl hv1 h0 hn
    by_cases c:n ≠ d.s ∧ n ≠ d.d
    · rw [if_pos ⟨hn,this.2 c⟩,if_pos c]
    · rw [if_neg (fun hh=>c (this.1 hh.2)),if_neg c]
  have hev:∀ n:Int,∀ t ∈ evsN cs n l,0 ≤ t ∧ t ≤ 1099511627776:=fun n t ht=>by
    have:=flow_evs h hl n t ht
    omega
  have hok:∀ y ∈ hs',okHd qs.length y:=fun y hy=>by
    rcases List.mem_append.1 (hR.ph.mem_iff.1 hy) with hy | hy
    · exact h.hd y hy
    · exact (holdsA_ok hev (Nat.le_refl _) y hy).1
  have hfit:fitB qs hs' = true:=by
    rw [fitB_iff]
    intro y hy
    have hyo:=(hok y hy).1
    rw [hst y.n y.a hyo.1 hyo.2]
    split
    · rename_i c
      exact (flow_have h hl hyo.1 hyo.2 c.1 c.2).2
    · have hq:0 ≤ qs.getD y.n.toNat 0:=by
        rw [List.getD_eq_getElem?_getD,List.getElem?_eq_getElem (show y.n.toNat < qs.length by omega),Option.getD_some]
        exact (h.quo y.n.toNat _ (List.getElem?_eq_getElem (by omega))).1
      have:=fits_all h.hd hq (t:=y.a) (n:=y.n) (fun x hx e=>by
        have:=(fitB_iff.1 h.fit) x hx
        rwa [e] at this)
      omega
  have hH':chkH qs cs hs' = 0:=by
    unfold chkH
    rw [if_neg (by rw [p]; simp),if_neg (by omega),if_neg (by rw [sortH_first hok hR.sh]; simp),if_pos hfit]
  refine ⟨hH',?_,fun n t h0 hn e1 e2=>by rw [hst n t h0 hn,if_pos ⟨e1,e2⟩,haveS_stock e1]⟩
  unfold validT;exact decide_eq_true ⟨chkT_of p (rsv_bks b hE hR hb) hH',v2⟩
end
end Go.Step
/- What reserving answers: an error, or one pair of tables. No program in sight. No conditions. -/
namespace Go.Step
section
variable {qs:List Int} {cs:List Ct} {bs:List Bk} {hs:List Hd} {l:List Sh}
theorem perm_sorted {α:Type} {r:α → α → Prop} (anti:∀ x y,r x y → r y x → x = y):∀ {a b:List α},a.Perm b → a.Pairwise r → b.Pairwise r → a = b
  | [],b,h,_,_=>(List.nil_perm.1 h).symm
  | x :: a,[],h,_,_=>by have:=h.length_eq; simp at this
  | x :: a,y :: b,h,ha,hb=>by
    obtain ⟨a1,a2⟩:=List.pairwise_cons.1 ha
    obtain ⟨b1,b2⟩:=List.pairwise_cons.1 hb
    have e:x = y:=by
      have h1:x ∈ y :: b:=h.mem_iff.1 (by simp)
      have h2:y ∈ x :: a:=h.mem_iff.2 (by simp)
      rcases List.mem_cons.1 h1 with h1 | h1
      · exact h1
      · rcases List.mem_cons.1 h2 with h2 | h2
        · exact h2.symm
        · exact anti _ _ (a1 y h2) (b1 x h1)
    subst e;rw [perm_sorted anti ((List.perm_cons x).1 h) a2 b2]
theorem RsvOK.uniq {R R' bs1 bs2:List Bk} {hs1 hs2:List Hd} (h1:RsvOK qs cs bs hs l R bs1 hs1) (h2:RsvOK qs cs bs hs l R' bs2 hs2):bs1 = bs2 ∧ hs1 = hs2:=by
  have hR:R.Perm R':=(List.perm_ext_iff_of_nodup h1.rn h2.rn).2 (fun b=>by rw [h1.rm,h2.rm])
  refine ⟨perm_sorted (r:=fun x y=>cmpBk x y < 0) (fun x y a b=>?_) (h1.pb.trans ((hR.append_left bs).trans h2.pb.symm)) h1.sb h2.sb,perm_sorted (r:=fun x y=>cmpHd x y ≤ 0) (fun x y a b=>?_) (h1.ph.trans h2.ph.symm) h1.sh h2.sh⟩
  · have:=(cmpBk_lt x y).1 a
    have:=(cmpBk_lt y x).1 b
    omega
  · exact cmpHd_anti (by have:=cmpHd_neg x y; omega)
theorem RsvOK.lens {R bs1:List Bk} {hs1:List Hd} (h1:RsvOK qs cs bs hs l R bs1 hs1):bs1.length = bs.length + R.length ∧ hs1.length = hs.length + (holdsA cs l qs.length).length:=by
  have a:=h1.pb.length_eq
  have b:=h1.ph.length_eq
  rw [List.length_append] at a b;exact ⟨a,b⟩
theorem runs_exist (hn:(ticksS l).Nodup):∃ R:List Bk,R.Nodup ∧ ∀ b,b ∈ R ↔ IsRun (ticksS l) b:=by
  have hp:=List.pairwise_mergeSort (le:=fun x y:Int × Int=>decide (lexT x y ∨ x = y)) (by
    intro a b c h1 h2
    simp only [decide_eq_true_eq] at *
    rcases h1 with h1 | rfl
    · rcases h2 with h2 | rfl
      · left; unfold lexT at *; omega
      · exact .inl h1
    · exact h2) (by
    intro a b
    simp only [Bool.or_eq_true,decide_eq_true_eq];unfold lexT
    by_cases e:a = b
    · exact .inl (.inr e)
    · have:a.1 ≠ b.1 ∨ a.2 ≠ b.2:=by
        apply Decidable.byContradiction
        intro hh
        rw [not_or,Decidable.not_not,Decidable.not_not] at hh;exact e (Prod.ext hh.1 hh.2)
      omega) (ticksS l)
  have hperm:=List.mergeSort_perm (ticksS l) (fun x y:Int × Int=>decide (lexT x y ∨ x = y))
  have hn2:=hperm.nodup_iff.2 hn
  generalize (ticksS l).mergeSort (fun x y:Int × Int=>decide (lexT x y ∨ x = y)) = K at hp hperm hn2
  have hp2:K.Pairwise lexT:=by
    refine (hp.and hn2).imp (fun {x y} hxy=>?_)
    rcases of_decide_eq_true hxy.1 with h1 | h1
    · exact h1
    · exact absurd h1 hxy.2
  have hk:=(runsK_ok hp2).is
  refine ⟨runsK K,hk.2,fun b=>(hk.1 b).trans ?_⟩
  unfold IsRun;simp only [hperm.mem_iff]
def negA (cs:List Ct) (nq:Nat) (l:List Sh):Prop:=∃ n:Nat,n < nq ∧ negN cs n l = true
def RsvR (qs:List Int) (cs:List Ct) (bs:List Bk) (hs:List Hd) (l:List Sh) (e:Int) (bs':List Bk) (hs':List Hd):Prop:=
  (chkT qs cs bs hs ≠ 0 ∧ e = 1 ∧ bs' = [] ∧ hs' = []) ∨
  (chkT qs cs bs hs = 0 ∧ ((firstE (rsvE cs bs l) l.length ≠ 0 ∧ e = firstE (rsvE cs bs l) l.length ∧ bs' = [] ∧ hs' = []) ∨
   (firstE (rsvE cs bs l) l.length = 0 ∧ ((negA cs qs.length l ∧ e = 24 ∧ bs' = [] ∧ hs' = []) ∨
    (¬ negA cs qs.length l ∧ ∃ R bs1 hs1,RsvOK qs cs bs hs l R bs1 hs1 ∧
      ((¬ (bs1.length ≤ 512 ∧ hs1.length ≤ 512) ∧ e = 4 ∧ bs' = [] ∧ hs' = []) ∨ ((bs1.length ≤ 512 ∧ hs1.length ≤ 512) ∧
        ((chkH qs cs hs1 ≠ 0 ∧ e = 15 ∧ bs' = [] ∧ hs' = []) ∨ (chkH qs cs hs1 = 0 ∧ e = 0 ∧ bs' = bs1 ∧ hs' = hs1)))))))))
theorem RsvR.uniq {e1 e2:Int} {bs1 bs2:List Bk} {hs1 hs2:List Hd} (h1:RsvR qs cs bs hs l e1 bs1 hs1) (h2:RsvR qs cs bs hs l e2 bs2 hs2):e1 = e2 ∧ bs1 = bs2 ∧ hs1 = hs2:=by
  rcases h1 with ⟨a,rfl,rfl,rfl⟩ | ⟨a,h1⟩ <;> rcases h2 with ⟨b,rfl,rfl,rfl⟩ | ⟨b,h2⟩
  · exact ⟨rfl,rfl,rfl⟩
  · exact absurd b a
  · exact absurd a b
  rcases h1 with ⟨a,rfl,rfl,rfl⟩ | ⟨a,h1⟩ <;> rcases h2 with ⟨b,rfl,rfl,rfl⟩ | ⟨b,h2⟩
  · exact ⟨rfl,rfl,rfl⟩
  · exact absurd b a
  · exact absurd a b
  rcases h1 with ⟨a,rfl,rfl,rfl⟩ | ⟨a,h1⟩ <;> rcases h2 with ⟨b,rfl,rfl,rfl⟩ | ⟨b,h2⟩
  · exact ⟨rfl,rfl,rfl⟩
  · exact absurd a b
  · exact absurd b a
  obtain ⟨R,x1,y1,k1,h1⟩:=h1
  obtain ⟨R',x2,y2,k2,h2⟩:=h2
  obtain ⟨rfl,rfl⟩:=k1.uniq k2
  rcases h1 with ⟨a,rfl,rfl,rfl⟩ | ⟨a,h1⟩ <;> rcases h2 with ⟨b,rfl,rfl,rfl⟩ | ⟨b,h2⟩
  · exact ⟨rfl,rfl,rfl⟩
  · exact absurd b a
  · exact absurd a b
  rcases h1 with ⟨u,rfl,rfl,rfl⟩ | ⟨u,rfl,rfl,rfl⟩ <;> rcases h2 with ⟨w,rfl,rfl,rfl⟩ | ⟨w,rfl,rfl,rfl⟩
  · exact ⟨rfl,rfl,rfl⟩
  · exact absurd w u
  · exact absurd u w
  · exact ⟨rfl,rfl,rfl⟩
end
section
variable {qs:List Int} {cs:List Ct} {bs:List Bk} {hs:List Hd} {d:Dm} {l:List Sh} {v:Int}
theorem flow_reserve (hv:validT qs cs bs hs d = true) (h:VOk qs cs bs hs d) (hl:flowR qs cs bs hs d l = (v,0)) (hv1:1 ≤ v) {e:Int} {bs':List Bk} {hs':List Hd} (hR:RsvR qs cs bs hs l e bs' hs') :
    e = 4 ∨ (e = 0 ∧ ∃ R,RsvOK qs cs bs hs l R bs' hs' ∧ bs'.length ≤ 512 ∧ hs'.length ≤ 512 ∧ chkT qs cs bs' hs' = 0 ∧ validT qs cs bs' hs' d = true):=by
  have h0:=(of_decide_eq_true hv).1
  have hE:=flow_rsv hl
  rcases hR with ⟨a,_⟩ | ⟨_,⟨a,_⟩ | ⟨_,⟨⟨n,hn,a⟩,_⟩ | ⟨_,R,bs1,hs1,hR,⟨_,rfl,_⟩ | ⟨⟨l1,l2⟩,h3⟩⟩⟩⟩
  · exact absurd h0 a
  · exact absurd hE a
  · rw [flow_neg h hl hv1 hn] at a; simp at a
  · exact .inl rfl
  · obtain ⟨t1,t2,_⟩:=flow_tables hv h hl hv1 hR l1 l2
    rcases h3 with ⟨a,_⟩ | ⟨_,rfl,rfl,rfl⟩
    · exact absurd t1 a
    · exact .inr ⟨rfl,R,hR,l1,l2,(of_decide_eq_true t2).1,t2⟩
end
end Go.Step
/- Shipments that are to be reserved: checked. -/
namespace Go.Proofs.YtjehnjhkcmobcaaGreat
open Go.Eng Go.Step
set_option maxRecDepth 100000
set_option maxHeartbeats 4000000

theorem used_next2 {x y:Sh} {M:List (List Int × Value)} {a:Bool} (h:mgetS [x.c,x.t] M = if a then some (.bool true) else none):mgetS [x.c,x.t] (msetS [y.c,y.t] (.bool true) M) = if (a || sameSl x y) then some (.bool true) else none:=by
 rw [mgetS_mset,h];unfold sameSl
 by_cases e:x.c = y.c ∧ x.t = y.t
 ·rw [decide_eq_true e,Bool.or_true,if_pos rfl,if_pos (by rw [e.1,e.2])]
 ·rw [decide_eq_false e,Bool.or_false,if_neg (fun k=>e (by simpa using k))]
theorem any_take2 {α:Type} (p:α → Bool) {l:List α} {k:Nat} (h:k < l.length):(l.take (k + 1)).any p = ((l.take k).any p || p l[k]):=by
 rw [List.take_succ_eq_append_getElem h,List.any_append]
 simp
theorem busyFn_spec (b7:Nat) (x:Sh) (s:Int × Int) :
  Ans Tryz.prog (.func (.func 82) #[] #[.pointer (some ⟨b7,0,none⟩)]) [.agg (encS s).toArray] [sng b7 (.cells #[int x.c,int x.t,int x.n] 62 (0,0))] (fun r=>r = .bool (decide (s.1 ≤ x.t) && decide (x.t < s.2))):=by
 have cx1:rdc (sng b7 (.cells #[int x.c,int x.t,int x.n] 62 (0,0))) b7 1 = some (int x.t):=by rw [rdc_sng]; rfl
 refine spec_in (cap:=[.pointer (some ⟨b7,0,none⟩)]) Tryz.func82 rfl rfl Tryz.ntmps82 rfl envZ (fun N β=>?_)
 refine Aa ?_;refine BH (BM rfl) rfl rfl rfl ?_;rintro _ _ ⟨b2,rfl,rfl⟩;refine AT (ρ:=sng b2 _) takeZ ?_
 have cs_:=rdB b2 152 [int s.1,int s.2]
 have cs_0:=rdC cs_ 0
 have cs_1:=rdC cs_ 1
 by_cases h1:s.1 ≤ x.t
 ·rw [decide_eq_true h1]
  by_cases h2:x.t < s.2
  ·rw [decide_eq_true h2]
   refine Aen ?_;refine CU ?_;refine Aa5 ?_;refine BB ?_;refine Ab2 ?_;exact AI (res1 rfl rfl) rsubZ selZ ⟨rfl,rfl⟩
  ·rw [decide_eq_false h2]
   refine Aen ?_;refine CU ?_;refine Aa5 ?_;refine A0 ?_;refine Ab2 ?_;exact AI (res1 rfl rfl) rsubZ selZ ⟨rfl,rfl⟩
 ·rw [decide_eq_false h1]
  refine Aen ?_;refine CZ ?_;refine Abz ?_;refine Ab4 ?_;exact AI (res1 rfl rfl) rsubZ selZ ⟨rfl,rfl⟩
set_option maxHeartbeats 32000000 in
theorem pCheckSh_spec {ρ τ σ υ:PH} (ω:PH) {pq pc pb ph:Option Addr} {kq kc kb kh:Nat} {qs:List Int} {cs:List Ct} {bs:List Bk} {hs:List Hd} (hT:TbAt ρ τ σ υ pq pc pb ph kq kc kb kh qs cs bs hs) (v:Value) (l:List Sh) (hv:ShAt ω v l) (hll:l.length ≤ 1000000) (hbl:bs.length ≤ 1000) :
  Ans Tryz.prog (fv 34) [.agg #[.slice pq qs.length kq,.slice pc cs.length kc,.slice pb bs.length kb,.slice ph hs.length kh],v] [ρ,τ,σ,υ,ω] (fun r=>r = int (firstE (rsvE cs bs l) l.length)):=by
 obtain ⟨q,cc,rfl,hr⟩:=hv.val encX_len
 have hrc:=hT.rc
 refine spec_in (cap:=[]) Tryz.func34 rfl rfl Tryz.ntmps34 rfl envZ (fun N β=>?_)
 refine Aa ?_;refine BH (BM rfl) rfl rfl rfl ?_;rintro _ _ ⟨b1,rfl,rfl⟩;refine AT (ρ:=sng b1 _) takeZ ?_
 have ct:=rdB b1 29 [.slice pq qs.length kq,.slice pc cs.length kc,.slice pb bs.length kb,.slice ph hs.length kh]
 have ct0:=rdC ct 0
 have ct1:=rdC ct 1
 have ct2:=rdC ct 2
 have ct3:=rdC ct 3
 have ctp:RdP (sng b1 (.cells #[.slice pq qs.length kq,.slice pc cs.length kc,.slice pb bs.length kb,.slice ph hs.length kh] 29 (0,0))) b1 0 [.slice pq qs.length kq,.slice pc cs.length kc]:=rdP_sng (xs:=[.slice pq qs.length kq,.slice pc cs.length kc,.slice pb bs.length kb,.slice ph hs.length kh]) rfl
 refine Aaa ?_;refine Aa ?_
 focus ((refine' BH _ rfl rfl rfl _; rotate_left; (exact DV); rintro _ _ ⟨b,rfl,rfl⟩))
 refine Ad5 ?_
 revert b; intro bm
 refine BA [2,5,11,12] (X:=Nat × List (List Int × Value)) (0,[]) (fun x=>x.1 ≤ l.length ∧ firstE (rsvE cs bs l) x.1 = 0 ∧ (∀ e ∈ x.2,e.1.length = 2) ∧ ∀ y:Sh,mgetS [y.c,y.t] x.2 = if (l.take x.1).any (sameSl y) then some (.bool true) else none) (fun x=>[(13,int x.1)]) (fun x=>[sng bm (mapS x.2)]) (fun x=>l.length - x.1) pickZ ⟨by dsimp only; omega,rfl,by simp,fun y=>rfl⟩ covZ selZ ?_
 rintro ⟨k,M⟩ ⟨hk,hI,hM2,hM⟩
 dsimp only at hk hI hM2 hM ⊢
 by_cases hlt:k < l.length
 rotate_left
 ·have hke:k = l.length:=by omega
  subst hke;refine Abl ?_;refine Aak ?_
  exact AI (res1 rfl rfl) rsubZ selZ ⟨rfl,by rw [hI]⟩
 have hx:=List.getElem?_eq_getElem hlt
 have hnx:=fun y=>any_take2 (sameSl y) hlt
 have hE:=rsvE_at (cs:=cs) (bs:=bs) hx
 obtain ⟨b6,o6,rfl,hrx,x0,x1,x2⟩:=shRow hr hx
 generalize l[k] = x at hrx x0 x1 x2 hnx hE
 clear x0 x1 x2
 have hhit:=fun (e:Int) (he:e ≠ 0) (hE:rsvE cs bs l k = e)=>(firstE_hit hI (by rw [hE]; exact he) _ hlt).trans hE
 have hbad:∀ e:Int,e ≠ 0 → rsv1 cs x = e → firstE (rsvE cs bs l) l.length = e:=fun e he h=>hhit e he (by rw [hE,if_pos (by rw [h]; exact he),h])
 have hr0:rsv1 cs x = if x.c < 0 ∨ (cs.length:Int) ≤ x.c then 2 else match cs[x.c.toNat]? with
  | none=>2
  | some c=>if x.t < c.s ∨ c.e ≤ x.t ∨ x.n < 1 ∨ c.r < x.n then 2 else 0:=rfl
 obtain ⟨xc,xt,xn⟩:=x
 dsimp only at hrx hr0 hE hnx
 refine Ab1 ?_;refine AY ?_; rintro _ _ ⟨b,rfl,rfl⟩;refine AU ?_; rintro _ _ ⟨rfl,rfl⟩;refine Acg ?_
 revert b; intro b7
 by_cases h0:xc < 0
 ·have hh:=hbad 2 (by decide) (by rw [hr0,if_pos (.inl h0)])
  rw [hh];refine BB ?_;refine Abg ?_;refine Aam ?_;refine AN ?_;refine Aa4 ?_;exact AI (res1 rfl rfl) rsubZ selZ ⟨rfl,rfl⟩
 by_cases h1:(cs.length:Int) ≤ xc
 ·have hh:=hbad 2 (by decide) (by rw [hr0,if_pos (.inr h1)])
  rw [hh];refine Acs ?_;refine AG ?_;refine Ac ?_;refine CL ?_;refine Adu ?_;exact AI (res1 rfl rfl) rsubZ selZ ⟨rfl,rfl⟩
 obtain ⟨i,hi⟩:=Int.eq_ofNat_of_zero_le (show 0 ≤ xc by omega)
 have hil:i < cs.length:=by omega
 have hy:=List.getElem?_eq_getElem hil
 have hr1:rsv1 cs ⟨xc,xt,xn⟩ = if xt < cs[i].s ∨ cs[i].e ≤ xt ∨ xn < 1 ∨ cs[i].r < xn then 2 else 0:=by
  rw [hr0,if_neg (by omega),hi,Int.toNat_natCast,hy]
 obtain ⟨b9,o9,ec,hrd9⟩:=ctRow hrc hy
 generalize cs[i] = y at hy hr1 hrd9
 subst hi;subst ec
 by_cases h2:xt < y.s ∨ y.e ≤ xt ∨ xn < 1 ∨ y.r < xn
 ·rw [if_pos h2] at hr1
  rw [hbad 2 (by decide) hr1]
  by_cases k1:xt < y.s
  ·refine A0 ?_
   refine Aag ?_;refine AG ?_;refine Ac ?_;refine BL ?_;refine Abh ?_;refine Aep ?_;refine AY ?_; rintro _ _ ⟨b,rfl,rfl⟩;refine AU ?_; rintro _ _ ⟨rfl,rfl⟩;refine Acg ?_;refine Aac ?_;refine BB ?_;refine Adw ?_;refine Abw ?_;refine Ae0 ?_;exact AI (res1 rfl rfl) rsubZ selZ ⟨rfl,rfl⟩
  by_cases k2:y.e ≤ xt
  ·refine A0 ?_
   refine Aag ?_;refine AG ?_;refine Ac ?_;refine BL ?_;refine Abh ?_;refine Aep ?_;refine AY ?_; rintro _ _ ⟨b,rfl,rfl⟩;refine AU ?_; rintro _ _ ⟨rfl,rfl⟩;refine Acg ?_;refine Aac ?_;refine Ad2 ?_;refine CL ?_;refine AJ ?_;refine Abw ?_;refine Ae0 ?_;exact AI (res1 rfl rfl) rsubZ selZ ⟨rfl,rfl⟩
  by_cases k3:xn < 1
  ·refine A0 ?_
   refine Aag ?_;refine AG ?_;refine Ac ?_;refine BL ?_;refine Abh ?_;refine Aep ?_;refine AY ?_; rintro _ _ ⟨b,rfl,rfl⟩;refine AU ?_; rintro _ _ ⟨rfl,rfl⟩;refine Acg ?_;refine Aac ?_;refine Ad2 ?_;refine Abj ?_;refine BB ?_;refine AJ ?_;refine Ae0 ?_;exact AI (res1 rfl rfl) rsubZ selZ ⟨rfl,rfl⟩
  have k4:y.r < xn:=by omega
  refine Acs ?_;refine AG ?_;refine Ac ?_;refine BL ?_;refine Abh ?_;refine Aep ?_;refine AY ?_; rintro _ _ ⟨b,rfl,rfl⟩;refine AU ?_; rintro _ _ ⟨rfl,rfl⟩;refine Acg ?_;refine Aac ?_;refine Ad2 ?_;refine Abj ?_;refine Abq ?_;refine Aac ?_;refine CQ ?_;refine Adu ?_;exact AI (res1 rfl rfl) rsubZ selZ ⟨rfl,rfl⟩
 rw [if_neg h2] at hr1
 rw [if_neg (fun hh=>hh hr1)] at hE
 have k1:¬ xt < y.s:=by omega
 have k2:¬ y.e ≤ xt:=by omega
 have k3:¬ xn < 1:=by omega
 have k4:¬ y.r < xn:=by omega
 have hbz:=busy_spec σ _ bs (i:Int) hT.hb hbl
 refine Acs ?_;refine AG ?_;refine Ac ?_;refine BL ?_;refine Abh ?_;refine Aep ?_;refine AY ?_; rintro _ _ ⟨b,rfl,rfl⟩;refine AU ?_; rintro _ _ ⟨rfl,rfl⟩;refine Acg ?_;refine Aac ?_;refine Ad2 ?_;refine Abj ?_;refine Abq ?_;refine Aac ?_;refine B0 ?_;refine Acz ?_;refine Aac ?_
 revert b; intro b8
 refine CB hbz rfl rfl rdZ rfl rfl ?_;rintro w χb hOb
 have hSb:SpAt χb w (busyL bs i):=hOb.at
 obtain ⟨pw,kw,rfl⟩:=hOb.form
 have hbll:=busyL_len bs i
 refine Adx ?_;refine Aco ?_;refine BR ?_
 refine CH (EC 2 [(i:Int),xt] (l:=M) (z:=.bool false) rfl rfl rfl ⟨by kernel_rfl,by kernel_rfl⟩ rfl hM2 rfl (mapAtS_own memZ)) rfl rfl rfl ?_
 have hMx:=hM ⟨i,xt,xn⟩
 dsimp only at hMx
 rw [hMx]
 cases hany:(l.take k).any (sameSl ⟨i,xt,xn⟩) with
 | true =>
  rw [hany,Bool.true_or,if_pos rfl] at hE
  rw [hhit 14 (by decide) hE,if_pos rfl,Option.getD_some]
  refine Adr ?_;exact AI (res1 rfl rfl) rsubZ selZ ⟨rfl,rfl⟩
 | false =>
 rw [hany,Bool.false_or] at hE
 rw [if_neg (by simp),Option.getD_none]
 refine Aa1 ?_;refine CA ?_
 have hct:=contS_spec χb [sng b7 (.cells #[int i,int xt,int xn] 62 (0,0))] _ (.func (.func 82) #[] #[.pointer (some ⟨b7,0,none⟩)]) (busyL bs i) (fun s=>decide (s.1 ≤ xt) && decide (xt < s.2)) hSb (by omega) (fun j s _=>busyFn_spec b7 ⟨i,xt,xn⟩ s)
 have hbk:(busyL bs i).any (fun s=>decide (s.1 ≤ xt) && decide (xt < s.2)) = bookedB bs i xt:=rfl
 rw [hbk] at hct;refine A3 hct rfl rfl rdZ rfl rfl ?_;rintro _ rfl
 cases hbb:bookedB bs i xt with
 | true =>
  rw [hbb,if_pos rfl] at hE
  rw [hhit 14 (by decide) hE]
  refine Adu ?_;exact AI (res1 rfl rfl) rsubZ selZ ⟨rfl,rfl⟩
 | false =>
 rw [hbb,if_neg (by simp)] at hE
 refine Abh ?_;refine AA ?_;refine Aa5 ?_;refine BR ?_
 refine B5 (DG 2 [(i:Int),xt] (v:=.bool true) (l:=M) rfl rfl rfl rfl ⟨by kernel_rfl,by kernel_rfl⟩ rfl hM2 takeZ) rfl rfl ?_
 rintro _ _ ⟨rfl,rfl⟩;refine Adj ?_
 refine AX (k + 1,_) ⟨by dsimp only; omega,firstE_ok hI hE,msetS_len rfl hM2,fun z=>?_⟩ (by dsimp only; omega) covZ selZ
 dsimp only
 rw [hnx z];exact used_next2 (x:=z) (y:=⟨i,xt,xn⟩) (hM z)
end Go.Proofs.YtjehnjhkcmobcaaGreat
/- A range over a map from int to int. No conditions. -/
namespace Go.Eng
open Go.ChangeMaps (setBlock)
variable {C:Cx} {D:List Deferred} {R H:List PH} {L:Env} {K:List It}
variable {dst:Option Tmp} {ty:TypeId} {pos:String} {aft:Array Edge} {g:Option (Nat × Bool)}
def iterO (b n:Nat) (seen:Array Nat):Obj:=.mapIter (some b) n seen n
theorem mem_ents {e:MapEntry}:∀ {l:List (Int × Int)} {j:Nat},e ∈ ents j l ↔ ∃ i,∃ h:i < l.length,e = ⟨int l[i].1,int l[i].2,j + i⟩
  | [],j=>by simp [ents]
  | kv :: l,j=>by
    simp only [ents,List.mem_cons];rw [mem_ents (l:=l) (j:=j + 1)]
    constructor
    · rintro (rfl | ⟨i,h,rfl⟩)
      · exact ⟨0,by simp,rfl⟩
      · exact ⟨i + 1,by simpa using h,by simp; omega⟩
    · rintro ⟨i,h,rfl⟩
      cases i with
      | zero=>exact .inl rfl
      | succ i=>exact .inr ⟨i,by simpa using h,by simp; omega⟩
theorem ents_born:∀ (l:List (Int × Int)) (j:Nat),(ents j l).map (·.born) = List.range' j l.length
  | [],_=>rfl
  | _ :: l,j=>by simp only [ents,List.map_cons,List.length_cons,List.range'_succ]; rw [ents_born l (j + 1)]
theorem mem_left {e:MapEntry} {l:List (Int × Int)} {seen:Array Nat}:e ∈ (leftOf (ents 0 l).toArray seen).toList ↔ ∃ i,∃ h:i < l.length,e = ⟨int l[i].1,int l[i].2,i⟩ ∧ i ∉ seen:=by
  unfold leftOf;rw [Array.mem_toList_iff,Array.mem_filter,List.mem_toArray,mem_ents]
  constructor
  · rintro ⟨⟨i,h,rfl⟩,h2⟩
    refine ⟨i,h,by rw [Nat.zero_add],?_⟩
    simpa using h2
  · rintro ⟨i,h,rfl,h2⟩
    exact ⟨⟨i,h,by rw [Nat.zero_add]⟩,by simpa using h2⟩
theorem G6 {t kt et:TypeId} {x:Operand} {b:Nat} {l:List (Int × Int)} (h:evalE L x = some (.map (some b))) (ht:C.P.underlying t = some (.map kt et)) (hm:MapAt C.N R H b l) :
    Loud C R H L ⟨dst,.range t x,ty,pos,aft,g⟩ (fun v H'=>∃ r,v = .pointer (some ⟨r,0,none⟩) ∧ H' = sng r (iterO b l.length #[]) :: H):=by
  refine ⟨fun a w hx hs next Q hn=>?_⟩
  have e1:=hx x (by simp [Op.operands]) _ h
  have hg:=hm w hs
  refine wpIn_value (v:=.pointer (some ⟨w.heap.size,0,none⟩)) (w':=w.alloc (iterO b l.length #[])) (by intro c; simp) ?_ (hn _ _ _ ⟨_,rfl,rfl⟩ (hs.alloc _))
  simp [execOp,e1,Instr.range,Go.underlying,Sem.run,ht,getObj,hg,mapO,newObj,iterO]
theorem l_next {x:Operand} {r b:Nat} {l:List (Int × Int)} {seen:Array Nat} {H':List PH} (h:evalE L x = some (.pointer (some ⟨r,0,none⟩))) (hm:MapAt C.N R H b l) (ht:Take (sng r (iterO b l.length seen)) H H') :
    Loud C R H L ⟨dst,.next x false,ty,pos,aft,g⟩ (fun v H2=>((∀ i,i < l.length → i ∈ seen) ∧ v = .tuple #[.bool false] ∧ H2 = sng r (iterO b l.length seen) :: H') ∨ (∃ i,∃ hi:i < l.length,i ∉ seen ∧ v = .tuple #[.bool true,int l[i].1,int l[i].2] ∧ H2 = sng r (iterO b l.length (seen.push i)) :: H')):=by
  refine ⟨fun a w hx hs next Q hnx=>?_⟩
  have e1:=hx x (by simp [Op.operands]) _ h
  have hg:=hm w hs
  have hr:=hs.own ht
  have hold:∀ z ∈ (ents 0 l).toArray.toList,z.born < l.length:=fun z hz=>by
    obtain ⟨i,hi,rfl⟩:=mem_ents.1 (by simpa using hz)
    dsimp only
    omega
  rcases run_next_at (P:=C.P) w ty r b l.length l.length seen (ents 0 l).toArray l.length hr hg hold (Nat.le_refl _) with ⟨h0,hrun⟩ | ⟨e,he,w1,hal,hrun⟩
  · refine wpIn_value (v:=.tuple #[.bool false]) (w':=w) (by intro c; simp) ?_ (hnx _ _ _ (.inl ⟨fun i hi=>?_,rfl,rfl⟩) (hs.take ht))
    · simp [execOp,e1,hrun]
    · apply Decidable.byContradiction
      intro hn
      have:=mem_left.2 ⟨i,hi,rfl,hn⟩
      rw [Array.eq_empty_of_size_eq_zero h0] at this
      simp at this
  · obtain ⟨i,hi,rfl,hn⟩:=mem_left.1 he
    have hs1:Sat C.N R H w1:=by
      rcases hal with rfl | rfl
      · exact hs
      · exact hs.drew
    have hr1:=hs1.own ht
    refine wpIn_value (v:=.tuple #[.bool true,int l[i].1,int l[i].2]) (w':=setBlock w1 r (.mapIter (some b) l.length (seen.push i) l.length)) (by intro c; simp) ?_ (hnx _ _ _ (.inr ⟨i,hi,hn,rfl,rfl⟩) (hs1.turn ht ?_ ?_ ?_))
    · simp [execOp,e1,hrun]
    · simp [setBlock]
    · have:r < w1.heap.size:=(Array.getElem?_eq_some_iff.1 hr1).1
      simp [setBlock,this,iterO]
    · intro k hk; simp [setBlock,Array.getElem?_setIfInBounds,Ne.symm hk]
structure Came (l:List (Int × Int)) (seen:Array Nat) (done:List (Int × Int)):Prop where
  nd:seen.toList.Nodup
  lt:∀ i ∈ seen.toList,i < l.length
  eq:done = seen.toList.map (fun i=>l.getD i (0,0))
theorem Came.nil (l:List (Int × Int)):Came l #[] []:=⟨by simp,by simp,by simp⟩
theorem Came.push {l:List (Int × Int)} {seen:Array Nat} {done:List (Int × Int)} (h:Came l seen done) {i:Nat} (hi:i < l.length) (hn:i ∉ seen):Came l (seen.push i) (done ++ [l[i]]):=by
  refine ⟨?_,fun j hj=>?_,?_⟩
  · rw [Array.toList_push,List.nodup_append]
    refine ⟨h.nd,by simp,fun a ha b hb=>?_⟩
    rw [List.mem_singleton] at hb;subst hb
    intro e
    subst e
    exact hn (by simpa using ha)
  · rw [Array.toList_push,List.mem_append,List.mem_singleton] at hj
    rcases hj with hj | rfl
    · exact h.lt j hj
    · exact hi
  · rw [Array.toList_push,List.map_append,← h.eq]
    simp [List.getD_eq_getElem?_getD,hi]
theorem Came.len {l:List (Int × Int)} {seen:Array Nat} {done:List (Int × Int)} (h:Came l seen done):done.length = seen.size ∧ seen.size ≤ l.length:=by
  refine ⟨by rw [h.eq]; simp,?_⟩
  have h1:seen.toList.Perm ((List.range l.length).filter (fun i=>decide (i ∈ seen.toList))):=(List.perm_ext_iff_of_nodup h.nd (List.nodup_range.filter _)).2 (fun i=>by
    rw [List.mem_filter,List.mem_range,decide_eq_true_eq]
    exact ⟨fun hi=>⟨h.lt i hi,hi⟩,fun hi=>hi.2⟩)
  have h2:=h1.length_eq
  have h3:=List.length_filter_le (fun i=>decide (i ∈ seen.toList)) (List.range l.length)
  rw [List.length_range] at h3;rw [Array.length_toList] at h2;omega
theorem Came.all {l:List (Int × Int)} {seen:Array Nat} {done:List (Int × Int)} (h:Came l seen done) (ha:∀ i,i < l.length → i ∈ seen):done.Perm l:=by
  have hp:seen.toList.Perm (List.range l.length):=(List.perm_ext_iff_of_nodup h.nd List.nodup_range).2 (fun i=>by
    rw [List.mem_range]
    exact ⟨h.lt i,fun hi=>by simpa using ha i hi⟩)
  rw [h.eq];refine (hp.map _).trans (List.Perm.of_eq ?_)
  apply List.ext_getElem?
  intro i
  rw [List.getElem?_map]
  by_cases hi:i < l.length
  · rw [List.getElem?_range hi]
    simp [List.getD_eq_getElem?_getD,hi]
  · rw [List.getElem?_eq_none (by simp; omega),List.getElem?_eq_none (by omega)]
    rfl
end Go.Eng
namespace Go.Eng
variable {C:Cx} {D:List Deferred} {R H:List PH} {L:Env} {K:List It}
variable {dst:Option Tmp} {ty:TypeId} {pos:String} {aft:Array Edge} {g:Option (Nat × Bool)}
theorem G7 {x:Operand} {r b i:Nat} {l:List (Int × Int)} {seen:Array Nat} (h:evalE L x = some (.pointer (some ⟨r,0,none⟩))) (hm:MapAt C.N R H b l) (ht:Mem (sng r (iterO b l.length (seen.push i))) H) (hi:i < l.length) :
    Quiet C R H L ⟨dst,.entry x,ty,pos,aft,g⟩ (.tuple #[int l[i].1,int l[i].2]):=
  ⟨by intro c; simp,fun a w hx hs=>by
    have e1:=hx x (by simp [Op.operands]) _ h
    have hr:=hs.h _ ht.mem r _ (sng_self r _)
    have he:(⟨int l[i].1,int l[i].2,i⟩:MapEntry) ∈ (ents 0 l).toArray.toList:=by
      have:=mem_ents (l:=l) (j:=0) (e:=⟨int l[i].1,int l[i].2,i⟩)
      exact this.2 ⟨i,hi,by rw [Nat.zero_add]⟩
    have:=run_entry_at (P:=C.P) w r b l.length seen (ents 0 l).toArray l.length ⟨int l[i].1,int l[i].2,i⟩ hr (hm w hs) he (by rw [show (ents 0 l).toArray.toList = ents 0 l from rfl,ents_born]; exact List.nodup_range')
    simp [execOp,e1,this]⟩
end Go.Eng
/- Levels of a node, one after the other; spans between them. No program in sight. No conditions. -/
namespace Go.Step
theorem spL_snoc:∀ (g:List Lv) (x y:Lv),spL (g ++ [x,y]) = spL (g ++ [x]) ++ (if 0 < x.v then [((x.a,y.a),x.v)] else [])
  | [],x,y=>by
    simp only [List.nil_append];unfold spL
    split <;> simp [spL]
  | [z],x,y=>by
    simp only [List.cons_append,List.nil_append];unfold spL;simp only [List.append_assoc]
    congr 1
    unfold spL
    split <;> simp [spL]
  | z :: w :: g,x,y=>by
    have ih:=spL_snoc (w :: g) x y
    simp only [List.cons_append] at ih ⊢
    conv=>lhs; unfold spL
    conv=>rhs; unfold spL
    rw [ih,List.append_assoc]
theorem spL_next {f:List Lv} {k:Nat} {x y:Lv} (h1:f[k]? = some x) (h2:f[k + 1]? = some y):spL (f.take (k + 2)) = spL (f.take (k + 1)) ++ (if 0 < x.v then [((x.a,y.a),x.v)] else []):=by
  obtain ⟨a1,rfl⟩:=List.getElem?_eq_some_iff.1 h1
  obtain ⟨a2,rfl⟩:=List.getElem?_eq_some_iff.1 h2
  rw [List.take_succ_eq_append_getElem a2,List.take_succ_eq_append_getElem a1,List.append_assoc];exact spL_snoc _ _ _
theorem spL_len:∀ (f:List Lv),(spL f).length ≤ f.length
  | []=>by simp [spL]
  | [x]=>by simp [spL]
  | x :: y :: f=>by
    have:=spL_len (y :: f)
    unfold spL;rw [List.length_append];simp only [List.length_cons] at this ⊢
    split <;> simp <;> omega
theorem vat_mid {f:List Lv} {c t:Int} (hp:f.Pairwise (fun x y=>x.a < y.a)) {k:Nat} {x:Lv} (h:f[k]? = some x) (h1:x.a ≤ t) (h2:∀ y,f[k + 1]? = some y → t < y.a):vat c f t = x.v:=by
  obtain ⟨hk,rfl⟩:=List.getElem?_eq_some_iff.1 h
  have e:f = f.take (k + 1) ++ f.drop (k + 1):=(List.take_append_drop _ _).symm
  have hlo:∀ z ∈ f.take (k + 1),z.a ≤ t:=fun z hz=>by
    obtain ⟨i,hi,rfl⟩:=List.mem_take_iff_getElem.1 hz
    by_cases hik:i = k
    · subst hik; exact h1
    · have:=(List.pairwise_iff_getElem.1 hp) i k (by omega) hk (by omega)
      omega
  conv=>lhs; rw [e]
  rw [vat_append _ _ _ _ hlo,vat_late]
  · rw [List.take_succ_eq_append_getElem hk]
    exact vat_last _ _ _ _ (fun z hz=>hlo z (by rw [List.take_succ_eq_append_getElem hk]; exact List.mem_append.2 (.inl hz))) h1
  · intro l hl
    rw [List.head?_drop] at hl;exact h2 l hl
theorem lvN_step {cs:List Ct} {n:Int} {l:List Sh} {k:Nat} {x:Lv} (h:(lvN cs n l)[k]? = some x):x.v = (if k = 0 then 0 else ((lvN cs n l).getD (k - 1) ⟨0,0⟩).v) + chgS cs n x.a l:=by
  obtain ⟨h1,h2,h3⟩:=lvN_ok cs n l
  have hx:=((h2 x).1 (List.mem_of_getElem? h)).1
  have hst:=haveS_step cs n x.a l
  rw [← h3 (x.a - 1)] at hst
  obtain ⟨hk,e⟩:=List.getElem?_eq_some_iff.1 h
  by_cases h0:k = 0
  · subst h0
    rw [if_pos rfl]
    have:val (lvN cs n l) (x.a - 1) = 0:=by
      unfold val
      refine vat_late _ _ _ (fun y hy=>?_)
      rw [List.head?_eq_getElem?,h] at hy
      obtain rfl:=Option.some.inj hy
      omega
    omega
  · rw [if_neg h0]
    have hk1:k - 1 < (lvN cs n l).length:=by omega
    have hg:(lvN cs n l).getD (k - 1) ⟨0,0⟩ = (lvN cs n l)[k - 1]:=by rw [List.getD_eq_getElem?_getD,List.getElem?_eq_getElem hk1]; rfl
    have hlt:=(List.pairwise_iff_getElem.1 h1) (k - 1) k hk1 hk (by omega)
    have:val (lvN cs n l) (x.a - 1) = (lvN cs n l)[k - 1].v:=by
      unfold val
      refine vat_mid h1 (List.getElem?_eq_getElem hk1) (by rw [e] at hlt; omega) (fun y hy=>?_)
      rw [show k - 1 + 1 = k by omega,h] at hy
      obtain rfl:=Option.some.inj hy
      omega
    rw [hg];omega
theorem lvN_times {cs:List Ct} {n:Int} {l:List Sh} {T:List Int} (hT:T.Pairwise (· < ·)) (hm:∀ t,t ∈ T ↔ chgS cs n t l ≠ 0):(lvN cs n l).map (fun x=>x.a) = T:=by
  obtain ⟨h1,h2,h3⟩:=lvN_ok cs n l
  refine SA.unique (List.pairwise_map.2 h1) hT (fun t=>?_)
  rw [hm,List.mem_map]
  constructor
  · rintro ⟨x,hx,rfl⟩
    exact ((h2 x).1 hx).2
  · intro h
    exact ⟨⟨t,haveS cs n t l⟩,(h2 _).2 ⟨rfl,h⟩,rfl⟩
theorem chg_evs {cs:List Ct} {n t:Int} {l:List Sh} (h:t ∉ evsN cs n l):chgS cs n t l = 0:=by
  have h1:=haveS_step cs n t l
  have h2:=haveS_same (cs:=cs) (n:=n) (a:=t - 1) (b:=t) (l:=l) (by omega) (fun u hu hh=>h (by rw [show t = u by omega]; exact hu))
  omega
theorem lvN_len (cs:List Ct) (n:Int) (l:List Sh):(lvN cs n l).length ≤ 2 * l.length:=by
  have h1:=comb_len (fun t=>haveS cs n t l) (evtN cs n l) 0
  have h2:(evtN cs n l).length ≤ (evsN cs n l).length:=by
    unfold evtN
    have:=Go.Lib.compact_length_le ((evsN cs n l).mergeSort fun x y=>decide (x ≤ y))
    rwa [List.length_mergeSort] at this
  have h3:∀ l:List Sh,(evsN cs n l).length ≤ 2 * l.length:=fun l=>by
    induction l with
    | nil=>simp [evsN]
    | cons x l ih =>
      have e:evsN cs n (x :: l) = ((if (ctOf cs x).f = n then [x.t] else []) ++ (if (ctOf cs x).t = n then [arrOf cs x] else [])) ++ evsN cs n l:=rfl
      rw [e,List.length_append,List.length_append,List.length_cons]
      have h1:(if (ctOf cs x).f = n then [x.t] else []).length ≤ 1:=by split <;> simp
      have h2:(if (ctOf cs x).t = n then [arrOf cs x] else []).length ≤ 1:=by split <;> simp
      omega
  have:=h3 l
  unfold lvN;omega
theorem have1_bd (cs:List Ct) (n t:Int) (x:Sh) (h:0 ≤ x.n ∧ x.n ≤ 1000):-1000 ≤ have1 cs n t x ∧ have1 cs n t x ≤ 1000:=by
  unfold have1
  split <;> split <;> omega
theorem haveS_bd (cs:List Ct) (n t:Int):∀ (l:List Sh),(∀ x ∈ l,0 ≤ x.n ∧ x.n ≤ 1000) → -(1000 * (l.length:Int)) ≤ haveS cs n t l ∧ haveS cs n t l ≤ 1000 * l.length
  | [],_=>by simp [haveS,lsum]
  | x :: l,h=>by
    have ih:=haveS_bd cs n t l (fun y hy=>h y (by simp [hy]))
    have:=have1_bd cs n t x (h x (by simp))
    have e:haveS cs n t (x :: l) = have1 cs n t x + haveS cs n t l:=rfl
    rw [e];simp only [List.length_cons]
    push_cast
    omega
theorem chg1_bd (cs:List Ct) (n t:Int) (x:Sh) (h:0 ≤ x.n ∧ x.n ≤ 1000):-1000 ≤ chg1 cs n t x ∧ chg1 cs n t x ≤ 1000:=by
  unfold chg1
  split <;> split <;> omega
theorem chgS_bd (cs:List Ct) (n t:Int):∀ (l:List Sh),(∀ x ∈ l,0 ≤ x.n ∧ x.n ≤ 1000) → -(1000 * (l.length:Int)) ≤ chgS cs n t l ∧ chgS cs n t l ≤ 1000 * l.length
  | [],_=>by simp [chgS,lsum]
  | x :: l,h=>by
    have ih:=chgS_bd cs n t l (fun y hy=>h y (by simp [hy]))
    have:=chg1_bd cs n t x (h x (by simp))
    have e:chgS cs n t (x :: l) = chg1 cs n t x + chgS cs n t l:=rfl
    rw [e];simp only [List.length_cons]
    push_cast
    omega
theorem netS_snoc (cs:List Ct) (n:Int) {l:List Sh} {k:Nat} {x:Sh} (h:l[k]? = some x):netS cs n (l.take (k + 1)) = netS cs n (l.take k) + net1 cs n x:=by
  obtain ⟨hk,rfl⟩:=List.getElem?_eq_some_iff.1 h
  unfold netS;rw [List.take_succ_eq_append_getElem hk,lsum_append]
  simp [lsum]
theorem net1_bd (cs:List Ct) (n:Int) (x:Sh) (h:0 ≤ x.n ∧ x.n ≤ 1000):-1000 ≤ net1 cs n x ∧ net1 cs n x ≤ 1000:=by
  unfold net1
  split <;> split <;> omega
theorem netS_bd (cs:List Ct) (n:Int):∀ (l:List Sh),(∀ x ∈ l,0 ≤ x.n ∧ x.n ≤ 1000) → -(1000 * (l.length:Int)) ≤ netS cs n l ∧ netS cs n l ≤ 1000 * l.length
  | [],_=>by simp [netS,lsum]
  | x :: l,h=>by
    have ih:=netS_bd cs n l (fun y hy=>h y (by simp [hy]))
    have:=net1_bd cs n x (h x (by simp))
    have e:netS cs n (x :: l) = net1 cs n x + netS cs n l:=rfl
    rw [e];simp only [List.length_cons]
    push_cast
    omega
end Go.Step
/- A map that sums what is noted at times. No conditions. -/
namespace Go.Eng
theorem mem_mset {k v:Int}:∀ {m:List (Int × Int)},(m.map (·.1)).Nodup → ∀ a b:Int,(a,b) ∈ mset k v m ↔ (a = k ∧ b = v) ∨ (a ≠ k ∧ (a,b) ∈ m)
  | [],_,a,b=>by simp [mset]
  | (c,w) :: m,h,a,b=>by
    have h2:=List.nodup_cons.1 h
    unfold mset
    split
    · rename_i hk
      subst hk
      have hno:∀ b,(k,b) ∉ m:=fun b hb=>h2.1 (List.mem_map.2 ⟨_,hb,rfl⟩)
      rw [List.mem_cons,List.mem_cons,Prod.mk.injEq,Prod.mk.injEq]
      constructor
      · rintro (⟨rfl,rfl⟩ | hm)
        · exact .inl ⟨rfl,rfl⟩
        · refine .inr ⟨fun e=>hno b (e ▸ hm),.inr hm⟩
      · rintro (⟨rfl,rfl⟩ | ⟨e,⟨rfl,_⟩ | hm⟩)
        · exact .inl ⟨rfl,rfl⟩
        · exact absurd rfl e
        · exact .inr hm
    · rename_i hk
      rw [List.mem_cons,mem_mset h2.2,List.mem_cons,Prod.mk.injEq]
      constructor
      · rintro (⟨rfl,rfl⟩ | ⟨rfl,rfl⟩ | ⟨e,hm⟩)
        · exact .inr ⟨fun e=>hk e.symm,.inl ⟨rfl,rfl⟩⟩
        · exact .inl ⟨rfl,rfl⟩
        · exact .inr ⟨e,.inr hm⟩
      · rintro (⟨rfl,rfl⟩ | ⟨e,⟨rfl,rfl⟩ | hm⟩)
        · exact .inr (.inl ⟨rfl,rfl⟩)
        · exact .inl ⟨rfl,rfl⟩
        · exact .inr (.inr ⟨e,hm⟩)
theorem mset_keys {k v:Int}:∀ (m:List (Int × Int)),(mset k v m).map (·.1) = if k ∈ m.map (·.1) then m.map (·.1) else m.map (·.1) ++ [k]
  | []=>by simp [mset]
  | (c,w) :: m=>by
    unfold mset
    split
    · rename_i hk
      subst hk
      simp
    · rename_i hk
      rw [List.map_cons,mset_keys m,List.map_cons]
      by_cases hm:k ∈ m.map (·.1)
      · rw [if_pos hm,if_pos (List.mem_cons_of_mem _ hm)]
      · rw [if_neg hm,if_neg (by rw [List.mem_cons,not_or]; exact ⟨hk,hm⟩)]
        rfl
theorem mset_nodup {k v:Int} {m:List (Int × Int)} (h:(m.map (·.1)).Nodup):((mset k v m).map (·.1)).Nodup:=by
  rw [mset_keys]
  split
  · exact h
  · rename_i hk
    rw [List.nodup_append]
    refine ⟨h,by simp,fun a ha b hb=>?_⟩
    rw [List.mem_singleton] at hb;subst hb
    intro e
    exact hk (e ▸ ha)
theorem mget_none {k:Int}:∀ {m:List (Int × Int)},k ∉ m.map (·.1) → mget k m = none
  | [],_=>rfl
  | (c,w) :: m,h=>by
    rw [List.map_cons,List.mem_cons,not_or] at h
    have ih:=mget_none h.2
    unfold mget at ih ⊢;unfold midx;rw [if_neg h.1]
    simp at ih ⊢
    exact ih
theorem mget_some {k v:Int}:∀ {m:List (Int × Int)},(m.map (·.1)).Nodup → (k,v) ∈ m → mget k m = some v
  | [],_,h=>by simp at h
  | (c,w) :: m,hn,h=>by
    have h2:=List.nodup_cons.1 hn
    unfold mget midx;rw [List.mem_cons,Prod.mk.injEq] at h
    split
    · rename_i hk
      subst hk
      rcases h with ⟨_,rfl⟩ | h
      · rfl
      · exact absurd (List.mem_map.2 ⟨_,h,rfl⟩) h2.1
    · rename_i hk
      rcases h with ⟨rfl,_⟩ | h
      · exact absurd rfl hk
      · have ih:=mget_some h2.2 h
        unfold mget at ih;rw [Option.map_map];exact ih
def atS (E:List (Int × Int)) (t:Int):Int:=Go.Step.lsum (fun e:Int × Int=>if e.1 = t then e.2 else 0) E
structure EvM (E m:List (Int × Int)):Prop where
  nd:(m.map (·.1)).Nodup
  mem:∀ a b:Int,(a,b) ∈ m ↔ a ∈ E.map (·.1) ∧ b = atS E a
theorem EvM.nil:EvM [] []:=⟨by simp,by simp⟩
theorem atS_snoc (E:List (Int × Int)) (t d a:Int):atS (E ++ [(t,d)]) a = atS E a + if t = a then d else 0:=by
  unfold atS;rw [Go.Step.lsum_append]
  simp [Go.Step.lsum]
theorem atS_none {E:List (Int × Int)} {t:Int} (h:t ∉ E.map (·.1)):atS E t = 0:=by
  unfold atS
  rw [Go.Step.lsum_congr (g:=fun _=>0) (fun e he=>by rw [if_neg (fun hh=>h (List.mem_map.2 ⟨e,he,hh⟩))]),Go.Step.lsum_zero]
theorem EvM.get {E m:List (Int × Int)} (h:EvM E m) (t:Int):(mget t m).getD 0 = atS E t:=by
  by_cases ht:t ∈ E.map (·.1)
  · rw [mget_some h.nd ((h.mem t _).2 ⟨ht,rfl⟩)]
    rfl
  · rw [mget_none (fun hm=>by
      obtain ⟨⟨a,b⟩,hab,e⟩:=List.mem_map.1 hm
      dsimp only at e
      subst e
      exact ht ((h.mem _ _).1 hab).1),atS_none ht]
    rfl
theorem EvM.note {E m:List (Int × Int)} (h:EvM E m) (t d:Int):EvM (E ++ [(t,d)]) (mset t (atS E t + d) m):=by
  refine ⟨mset_nodup h.nd,fun a b=>?_⟩
  rw [mem_mset h.nd,h.mem,List.map_append,List.mem_append,atS_snoc];simp only [List.map_cons,List.map_nil,List.mem_singleton]
  constructor
  · rintro (⟨rfl,rfl⟩ | ⟨e,h1,rfl⟩)
    · exact ⟨.inr rfl,by rw [if_pos rfl]⟩
    · exact ⟨.inl h1,by rw [if_neg (fun hh=>e hh.symm)]; omega⟩
  · rintro ⟨h1,rfl⟩
    by_cases e:a = t
    · subst e
      exact .inl ⟨rfl,by rw [if_pos rfl]⟩
    · rcases h1 with h1 | h1
      · exact .inr ⟨e,h1,by rw [if_neg (fun hh=>e hh.symm)]; omega⟩
      · exact absurd h1 e
theorem EvM.times {E m done:List (Int × Int)} (h:EvM E m) (hp:done.Perm m):(sortd ((done.filter (fun e=>decide (e.2 ≠ 0))).map (·.1))).Pairwise (· < ·) ∧ ∀ t,t ∈ sortd ((done.filter (fun e=>decide (e.2 ≠ 0))).map (·.1)) ↔ atS E t ≠ 0:=by
  have hnd:((done.filter (fun e=>decide (e.2 ≠ 0))).map (·.1)).Nodup:=by
    have h1:(done.map (·.1)).Nodup:=(hp.map _).nodup_iff.2 h.nd
    exact h1.sublist (List.filter_sublist.map _)
  have hle:(sortd ((done.filter (fun e=>decide (e.2 ≠ 0))).map (·.1))).Pairwise (· ≤ ·):=by
    have:=List.pairwise_mergeSort (le:=fun x y:Int=>decide (x ≤ y)) (by intro a b c h1 h2; simp at *; omega) (by intro a b; simp; omega) ((done.filter (fun e=>decide (e.2 ≠ 0))).map (·.1))
    exact this.imp (fun h=>by simpa using h)
  have hn2:(sortd ((done.filter (fun e=>decide (e.2 ≠ 0))).map (·.1))).Nodup:=(List.mergeSort_perm _ _).nodup_iff.2 hnd
  refine ⟨(hle.and hn2).imp (fun h=>by omega),fun t=>?_⟩
  rw [List.mem_mergeSort,List.mem_map]
  constructor
  · rintro ⟨⟨a,b⟩,he,rfl⟩
    obtain ⟨h1,h2⟩:=List.mem_filter.1 he
    rw [decide_eq_true_eq] at h2
    have:=((h.mem a b).1 (hp.mem_iff.1 h1)).2
    rw [← this];exact h2
  · intro h0
    have ht:t ∈ E.map (·.1):=Decidable.byContradiction (fun hh=>h0 (atS_none hh))
    exact ⟨(t,atS E t),List.mem_filter.2 ⟨hp.mem_iff.2 ((h.mem _ _).2 ⟨ht,rfl⟩),decide_eq_true h0⟩,rfl⟩
end Go.Eng
namespace Go.Step
def evE (cs:List Ct) (n:Int) (l:List Sh):List (Int × Int):=l.flatMap (fun x=>(if (ctOf cs x).f = n then [(x.t,-x.n)] else []) ++ (if (ctOf cs x).t = n then [(arrOf cs x,x.n)] else []))
theorem evE_at (cs:List Ct) (n:Int) (l:List Sh) (t:Int):Go.Eng.atS (evE cs n l) t = chgS cs n t l:=by
  unfold Go.Eng.atS evE chgS
  induction l with
  | nil=>rfl
  | cons x l ih =>
    rw [List.flatMap_cons,lsum_append,ih];simp only [lsum]
    congr 1
    rw [lsum_append];unfold chg1
    by_cases c1:(ctOf cs x).f = n <;> by_cases c2:(ctOf cs x).t = n <;> simp [c1,c2,lsum] <;> (try split) <;> (try split) <;> omega
theorem evE_next {cs:List Ct} {n:Int} {l:List Sh} {k:Nat} {x:Sh} (h:l[k]? = some x):evE cs n (l.take (k + 1)) = (evE cs n (l.take k) ++ (if (ctOf cs x).f = n then [(x.t,-x.n)] else [])) ++ (if (ctOf cs x).t = n then [(arrOf cs x,x.n)] else []):=by
  obtain ⟨hk,rfl⟩:=List.getElem?_eq_some_iff.1 h
  unfold evE;rw [List.take_succ_eq_append_getElem hk,List.flatMap_append,List.append_assoc]
  simp
end Go.Step
/- What shipments change at a node. -/
namespace Go.Proofs.YtjehnjhkcmobcaaGreat
open Go.Eng Go.Step
set_option maxRecDepth 100000
set_option maxHeartbeats 4000000

def ShB (cs:List Ct) (x:Sh):Prop:=∃ c,cs[x.c.toNat]? = some c ∧ ctOf cs x = c ∧ (0 ≤ x.c ∧ x.c < (cs.length:Int)) ∧ (0 ≤ x.t ∧ x.t ≤ 1099511627776) ∧ (1 ≤ x.n ∧ x.n ≤ 1000) ∧ (1 ≤ c.g ∧ c.g ≤ 1048576)
theorem ShB.n {cs:List Ct} {x:Sh} (h:ShB cs x):0 ≤ x.n ∧ x.n ≤ 1000:=by
 obtain ⟨_,_,_,_,_,h,_⟩:=h
 omega
set_option maxHeartbeats 32000000 in
theorem changes_spec {ρ τ σ υ:PH} (ω:PH) {pq pc pb ph:Option Addr} {kq kc kb kh:Nat} {qs:List Int} {cs:List Ct} {bs:List Bk} {hs:List Hd} (hT:TbAt ρ τ σ υ pq pc pb ph kq kc kb kh qs cs bs hs) (v:Value) (l:List Sh) (n:Int) (hv:ShAt ω v l) (hll:l.length ≤ 1000000) (hok:∀ x ∈ l,ShB cs x) :
  Eng.Spec Tryz.prog (fv 83) [.agg #[.slice pq qs.length kq,.slice pc cs.length kc,.slice pb bs.length kb,.slice ph hs.length kh],v,int n] [ρ,τ,σ,υ,ω] [] (fun r H'=>∃ bm m,r = .tuple #[.map (some bm),.bool (decide (netS cs n l = 0))] ∧ H' = [sng bm (mapO m)] ∧ EvM (evE cs n l) m):=by
 obtain ⟨q,cc,rfl,hr⟩:=hv.val encX_len
 have hrc:=hT.rc
 refine spec_in (cap:=[]) Tryz.func83 rfl rfl Tryz.ntmps83 rfl envZ (fun N β=>?_)
 refine Aa ?_;refine BH (BM rfl) rfl rfl rfl ?_;rintro _ _ ⟨b1,rfl,rfl⟩;refine AT (ρ:=sng b1 _) takeZ ?_
 have ct:=rdB b1 29 [.slice pq qs.length kq,.slice pc cs.length kc,.slice pb bs.length kb,.slice ph hs.length kh]
 have ct0:=rdC ct 0
 have ct1:=rdC ct 1
 have ct2:=rdC ct 2
 have ct3:=rdC ct 3
 have ctp:RdP (sng b1 (.cells #[.slice pq qs.length kq,.slice pc cs.length kc,.slice pb bs.length kb,.slice ph hs.length kh] 29 (0,0))) b1 0 [.slice pq qs.length kq,.slice pc cs.length kc]:=rdP_sng (xs:=[.slice pq qs.length kq,.slice pc cs.length kc,.slice pb bs.length kb,.slice ph hs.length kh]) rfl
 refine Aan ?_;refine Aa ?_
 focus ((refine' BH _ rfl rfl rfl _; rotate_left; (exact D7); rintro _ _ ⟨b,rfl,rfl⟩))
 refine Aaa ?_;refine Acy ?_
 revert b; intro bm
 refine BA [2,3,8,14,15] (X:=Nat × List (Int × Int)) (0,[]) (fun x=>x.1 ≤ l.length ∧ EvM (evE cs n (l.take x.1)) x.2) (fun x=>[(16,int x.1),(9,int (netS cs n (l.take x.1)))]) (fun x=>[sng bm (mapO x.2)]) (fun x=>l.length - x.1) pickZ ⟨by dsimp only; omega,EvM.nil⟩ covZ selZ ?_
 rintro ⟨k,m⟩ ⟨hk,hE⟩
 dsimp only at hk hE ⊢
 by_cases hlt:k < l.length
 rotate_left
 ·have hke:k = l.length:=by omega
  subst hke;rw [List.take_length] at hE ⊢
  by_cases hz:netS cs n l = 0
  ·rw [decide_eq_true hz,hz]
   refine Abl ?_;refine Abn ?_;refine CT ?_;refine Aan ?_;exact AI (res2 rfl rfl rfl) rsubZ selZ ⟨_,_,rfl,rfl,hE⟩
  ·rw [decide_eq_false hz]
   have hnb:=netS_bd cs n l (fun z hz=>(hok z hz).n)
   generalize netS cs n l = z at hz hnb
   refine Abl ?_;refine Abn ?_;refine CI ?_;refine Aan ?_;exact AI (res2 rfl rfl rfl) rsubZ selZ ⟨_,_,rfl,rfl,hE⟩
 have hx:=List.getElem?_eq_getElem hlt
 obtain ⟨y,y1,y2,y3,y4,y5,y6⟩:=hok _ (List.getElem_mem hlt)
 have hen:=evE_next (cs:=cs) (n:=n) hx
 have hns:=netS_snoc cs n hx
 have hnb:=netS_bd cs n (l.take k) (fun z hz=>(hok z (List.mem_of_mem_take hz)).n)
 have hcb:=fun t=>chgS_bd cs n t (l.take k) (fun z hz=>(hok z (List.mem_of_mem_take hz)).n)
 have hlk:(l.take k).length ≤ 1000000:=by rw [List.length_take]; omega
 obtain ⟨b6,o6,rfl,hrx,_⟩:=shRow hr hx
 generalize l[k] = x at hx y1 y2 y3 y4 y5 hen hns hrx
 obtain ⟨i,hi⟩:=Int.eq_ofNat_of_zero_le y3.1
 rw [hi,Int.toNat_natCast] at y1
 obtain ⟨b9,o9,ec,hrd9⟩:=ctRow hrc y1
 have harr:arrOf cs x = x.t + 1 + y.g:=by unfold arrOf; rw [y2]
 unfold net1 at hns;rw [y2,harr] at hen;rw [y2] at hns
 obtain ⟨xc,xt,xn⟩:=x
 dsimp only at hi y3 y4 y5 hen hns hrx
 subst hi;subst ec
 by_cases d1:y.f = n
 ·by_cases d2:y.t = n
  ·have c1:y.f = n:=by assumption
   have c2:y.t = n:=by assumption
   rw [if_pos c1,if_pos c2] at hen hns
   have g1:(mget xt m).getD 0 = atS (evE cs n (l.take k)) xt:=hE.get xt
   have b1:=hcb xt
   rw [← evE_at] at b1
   have b2:=hcb (xt + 1 + y.g)
   rw [← evE_at] at b2
   have hE1:=hE.note xt (-xn)
   have e2:=atS_snoc (evE cs n (l.take k)) xt (-xn) (xt + 1 + y.g)
   rw [if_neg (by omega)] at e2
   have hE2:=hE1.note (xt + 1 + y.g) xn
   have g2:=hE1.get (xt + 1 + y.g)
   refine Ab1 ?_;refine AY ?_; rintro _ _ ⟨b,rfl,rfl⟩;refine AU ?_; rintro _ _ ⟨rfl,rfl⟩;refine AE ?_;refine Aep ?_;refine AY ?_; rintro _ _ ⟨b,rfl,rfl⟩;refine AU ?_; rintro _ _ ⟨rfl,rfl⟩;refine Acg ?_;refine AB ?_;refine Aea ?_;refine Aad ?_;refine Aac ?_;refine CH (CX (k:=xt) (l:=m) rfl rfl rfl rfl rfl (mapAt_own memZ)) rfl rfl rfl ?_;rw [g1];refine Aac ?_;refine CN ?_
   rw [show atS (evE cs n (l.take k)) xt - xn = atS (evE cs n (l.take k)) xt + -xn by omega]
   refine B5 (CW (k:=xt) (v:=atS (evE cs n (l.take k)) xt + -xn) (l:=m) rfl rfl rfl rfl rfl takeZ) rfl rfl ?_;rintro _ _ ⟨rfl,rfl⟩;refine Adt ?_;refine Aag ?_;refine CN ?_;refine Abu ?_;refine AB ?_;refine Aea ?_;refine Aad ?_;refine Aac ?_;refine CG ?_;refine Aac ?_;refine CG ?_;refine CH (CX (k:=xt + 1 + y.g) (l:=mset xt (atS (evE cs n (l.take k)) xt + -xn) m) rfl rfl rfl rfl rfl (mapAt_own memZ)) rfl rfl rfl ?_;rw [g2];rw [e2,Int.add_zero];refine Aac ?_;refine CG ?_;refine B5 (CW (k:=xt + 1 + y.g) (v:=atS (evE cs n (l.take k)) (xt + 1 + y.g) + xn) (l:=mset xt (atS (evE cs n (l.take k)) xt + -xn) m) rfl rfl rfl rfl rfl takeZ) rfl rfl ?_;rintro _ _ ⟨rfl,rfl⟩;refine Adt ?_;refine Aag ?_;refine CG ?_;refine Adp ?_;rw [e2,Int.add_zero] at hE2
   refine AX (k + 1,_) ⟨by dsimp only; omega,by dsimp only; rw [hen]; exact hE2⟩ (by dsimp only; omega) ?_ selZ
   dsimp only
   rw [hns,show netS cs n (l.take k) + (xn - xn) = netS cs n (l.take k) - xn + xn by omega]
   exact covZ
  ·have c1:y.f = n:=by assumption
   have c2:¬ y.t = n:=by assumption
   rw [if_pos c1,if_neg c2] at hen hns
   have g1:(mget xt m).getD 0 = atS (evE cs n (l.take k)) xt:=hE.get xt
   have b1:=hcb xt
   rw [← evE_at] at b1
   have b2:=hcb (xt + 1 + y.g)
   rw [← evE_at] at b2
   have hE1:=hE.note xt (-xn)
   have e2:=atS_snoc (evE cs n (l.take k)) xt (-xn) (xt + 1 + y.g)
   rw [if_neg (by omega)] at e2
   refine Ab1 ?_;refine AY ?_; rintro _ _ ⟨b,rfl,rfl⟩;refine AU ?_; rintro _ _ ⟨rfl,rfl⟩;refine AE ?_;refine Aep ?_;refine AY ?_; rintro _ _ ⟨b,rfl,rfl⟩;refine AU ?_; rintro _ _ ⟨rfl,rfl⟩;refine Acg ?_;refine AB ?_;refine Aea ?_;refine Aad ?_;refine Aac ?_;refine CH (CX (k:=xt) (l:=m) rfl rfl rfl rfl rfl (mapAt_own memZ)) rfl rfl rfl ?_;rw [g1];refine Aac ?_;refine CN ?_
   rw [show atS (evE cs n (l.take k)) xt - xn = atS (evE cs n (l.take k)) xt + -xn by omega]
   refine B5 (CW (k:=xt) (v:=atS (evE cs n (l.take k)) xt + -xn) (l:=m) rfl rfl rfl rfl rfl takeZ) rfl rfl ?_;rintro _ _ ⟨rfl,rfl⟩;refine Adt ?_;refine Aag ?_;refine CN ?_;refine Abu ?_;refine AB ?_;refine CI ?_;refine Ac5 ?_
   refine AX (k + 1,_) ⟨by dsimp only; omega,by dsimp only; rw [hen]; rw [List.append_nil]; exact hE1⟩ (by dsimp only; omega) ?_ selZ
   dsimp only
   rw [hns,show netS cs n (l.take k) + (0 - xn) = netS cs n (l.take k) - xn by omega]
   exact covZ
 ·by_cases d2:y.t = n
  ·have c1:¬ y.f = n:=by assumption
   have c2:y.t = n:=by assumption
   rw [if_neg c1,if_pos c2] at hen hns
   have g1:(mget xt m).getD 0 = atS (evE cs n (l.take k)) xt:=hE.get xt
   have b1:=hcb xt
   rw [← evE_at] at b1
   have b2:=hcb (xt + 1 + y.g)
   rw [← evE_at] at b2
   have hE1:=hE
   have hE2:=hE1.note (xt + 1 + y.g) xn
   have g2:=hE1.get (xt + 1 + y.g)
   refine Ab1 ?_;refine AY ?_; rintro _ _ ⟨b,rfl,rfl⟩;refine AU ?_; rintro _ _ ⟨rfl,rfl⟩;refine AE ?_;refine Aep ?_;refine AY ?_; rintro _ _ ⟨b,rfl,rfl⟩;refine AU ?_; rintro _ _ ⟨rfl,rfl⟩;refine Acg ?_;refine AB ?_;refine CI ?_;refine Aaj ?_;refine Ad0 ?_;refine Aea ?_;refine Aad ?_;refine Aac ?_;refine CG ?_;refine Aac ?_;refine CG ?_;refine CH (CX (k:=xt + 1 + y.g) (l:=m) rfl rfl rfl rfl rfl (mapAt_own memZ)) rfl rfl rfl ?_;rw [g2];refine Aac ?_;refine CG ?_;refine B5 (CW (k:=xt + 1 + y.g) (v:=atS (evE cs n (l.take k)) (xt + 1 + y.g) + xn) (l:=m) rfl rfl rfl rfl rfl takeZ) rfl rfl ?_;rintro _ _ ⟨rfl,rfl⟩;refine Adt ?_;refine Aag ?_;refine CG ?_;refine Adp ?_
   refine AX (k + 1,_) ⟨by dsimp only; omega,by dsimp only; rw [hen]; rw [List.append_nil]; exact hE2⟩ (by dsimp only; omega) ?_ selZ
   dsimp only
   rw [hns,show netS cs n (l.take k) + (xn - 0) = netS cs n (l.take k) + xn by omega]
   exact covZ
  ·have c1:¬ y.f = n:=by assumption
   have c2:¬ y.t = n:=by assumption
   rw [if_neg c1,if_neg c2] at hen hns
   have g1:(mget xt m).getD 0 = atS (evE cs n (l.take k)) xt:=hE.get xt
   have b1:=hcb xt
   rw [← evE_at] at b1
   have b2:=hcb (xt + 1 + y.g)
   rw [← evE_at] at b2
   have hE1:=hE
   refine Ab1 ?_;refine AY ?_; rintro _ _ ⟨b,rfl,rfl⟩;refine AU ?_; rintro _ _ ⟨rfl,rfl⟩;refine AE ?_;refine Aep ?_;refine AY ?_; rintro _ _ ⟨b,rfl,rfl⟩;refine AU ?_; rintro _ _ ⟨rfl,rfl⟩;refine Acg ?_;refine AB ?_;refine CI ?_;refine Aaj ?_;refine Ad0 ?_;refine CI ?_;refine Ac5 ?_
   refine AX (k + 1,_) ⟨by dsimp only; omega,by dsimp only; rw [hen]; rw [List.append_nil,List.append_nil]; exact hE1⟩ (by dsimp only; omega) ?_ selZ
   dsimp only
   rw [hns,show netS cs n (l.take k) + (0 - 0) = netS cs n (l.take k) by omega]
   exact covZ
end Go.Proofs.YtjehnjhkcmobcaaGreat
