/- Texts of this proof, one after the other; no conditions. -/
import Derived.WideKeyRuns
import Derived.Test.YtphehihohghfoaaGreatWB7
import Derived.Test.YtphehihohghfoaaGreatWB5
import Derived.Test.YtphehihohghfoaaGreatWB1
import Derived.Test.YtphehihohghfoaaGreatWB3
import Derived.Test.YtphehihohghfoaaGreatWB6
import Derived.Test.YtphehihohghfoaaGreatWB0
import Derived.Test.YtphehihohghfoaaGreatWB2
set_option linter.all false
/- Maximum flows as shipments; cuts of sets. No program in sight. No conditions. -/
namespace Go.Step
open Go.Flow (Flw fval)
variable {qs:List Int} {cs:List Ct} {bs:List Bk} {hs:List Hd} {d:Dm}
theorem max_nonneg (h:VOk qs cs bs hs d) {F:List Int} {m e:Int} (hm:MaxN qs cs bs hs d F m e):0 ≤ m:=by
  obtain ⟨_,_,_,_,_,_,_,_,_,P,_,_,hP⟩:=max_cut h hm
  have hdm:=h.dm
  unfold okDm at hdm
  have hn:0 < qs.length:=by have:=h.nq; omega
  have h1:=waitB_nonneg h P hn d.r
  have h2:=capB_wait_le h P hn (t:=d.r) (Int.le_refl _) (by omega)
  omega
theorem ships_part (h:VOk qs cs bs hs d) (hv:validT qs cs bs hs d = true) {F:List Int} {m:Int} (hm:MaxN qs cs bs hs d F m 0) {ps:PathL} (hp:PathN qs cs bs hs d F ps 0) (hle:d.v ≤ m):flowR qs cs bs hs d (shipsF (arcsE qs cs bs hs d) (partF qs cs bs hs d ps)) = (d.v,0):=by
  have hdm:=h.dm
  unfold okDm at hdm
  obtain ⟨N,S,T,hN,hS,hT,hf,hval,_⟩:=part_ok h hv hm hp hle
  rw [ships_flow h hv hN hS hT hf (by omega),hval]
theorem capR_set (h:VOk qs cs bs hs d) (hv:validT qs cs bs hs d = true) (side:List Int) :
    capR qs cs bs hs d (sidesC d qs.length side) = if vtx d d.s d.r ∈ side ∧ ¬ vtx d d.d d.e ∈ side then (Go.Flow.capOf (fun j=>decide ((j:Int) ∈ side)) (arcsG qs cs bs hs d),0) else (0,24):=by
  have hdm:=h.dm
  unfold okDm at hdm
  have hall:∀ n t:Int,0 ≤ n → n < (qs.length:Int) → d.r ≤ t → t ≤ d.e → hasI (cuAt (sidesC d qs.length side) n) t = decide (vtx d n t ∈ side):=fun n t h1 h2 h3 h4=>by
    obtain ⟨j,rfl⟩:=Int.eq_ofNat_of_zero_le h1
    rw [sidesC_at d side (by omega),sideI_has h side h3 h4]
  have hs:=hall _ _ hdm.1.1 hdm.1.2 (Int.le_refl d.r) (by omega)
  have hd:=hall _ _ hdm.2.1.1 hdm.2.1.2 (show d.r ≤ d.e by omega) (Int.le_refl d.e)
  have hbad:(sidesC d qs.length side).any (badL2 d) = false:=any_badL2.2 (fun l hm=>by
    unfold sidesC at hm
    obtain ⟨n,_,rfl⟩:=List.mem_map.1 hm
    exact ⟨sideI_chk h side _,sideI_in (by omega) side _⟩)
  unfold capR
  rw [if_neg (by rw [hv]; simp),if_neg (by unfold sidesC; simp),if_neg (by rw [hbad]; simp),hs,hd]
  by_cases hc:vtx d d.s d.r ∈ side ∧ ¬ vtx d d.d d.e ∈ side
  · rw [if_pos hc,if_neg (by rw [decide_eq_false_iff_not,decide_eq_true_eq]; rintro (h1 | h1); exact h1 hc.1; exact hc.2 h1)]
    congr 1
    rw [capSum_B,capB_eq h]
    refine capB_congr h (fun n t h0 hn h1 h2=>?_)
    rw [hall _ _ h0 hn h1 h2]
    have hp:=vtx_lt (d:=d) (n:=n) (t:=t) (N:=qs.length) h0 hn h1 h2
    rw [Int.toNat_of_nonneg hp.1]
  · rw [if_neg hc,if_pos]
    rw [decide_eq_false_iff_not,decide_eq_true_eq]
    by_cases h1:vtx d d.s d.r ∈ side
    · exact .inr (Decidable.not_not.1 (fun h2=>hc ⟨h1,h2⟩))
    · exact .inl h1
theorem cut_max (h:VOk qs cs bs hs d) (hv:validT qs cs bs hs d = true) {F side:List Int} {m k:Int} (hm:MaxN qs cs bs hs d F m 0) (hk:CutN qs cs bs hs d side k 0):capR qs cs bs hs d (sidesC d qs.length side) = (m,0):=by
  obtain ⟨_,k2,k3,k4,k5,k6⟩:=cut_facts h hv hm hk
  rw [capR_set h hv side,if_pos ⟨k4,k5⟩]
  congr 1
  have hE:sidesE qs cs bs hs d side = 0:=k3
  have hc:(Go.Flow.capacitySpec (vsN qs d) (arcsG qs cs bs hs d) side).1 = Go.Flow.capOf (fun j=>decide ((j:Int) ∈ side)) (arcsG qs cs bs hs d):=by
    unfold sidesE at hE;rw [if_pos hv] at hE;unfold Go.Flow.capacitySpec at hE ⊢
    split at hE
    · rename_i h1; exact absurd hE h1
    rename_i h1
    rw [if_neg h1]
    split at hE
    · rename_i h2; exact absurd hE h2
    rename_i h2
    rw [if_neg h2]
  rw [← k2]
  have hend:=Go.Flow.okEnds_iff.1 h.ends
  have hok:=h.ok
  have hvs:=h.vs
  have he:=max_err h
  obtain ⟨N,hN⟩:∃ N:Nat,vsN qs d = N:=⟨(vsN qs d).toNat,by omega⟩
  unfold CutN at hk
  rcases hk with ⟨a1,_⟩ | ⟨_,_,F',B,_,_,b5,b6⟩
  · exact absurd he a1
  rw [b6,b5];rw [hN] at hok ⊢
  refine Go.Flow.capOf_congr (n:=N) (fun v hv2=>?_) _ hok
  rw [Int.toNat_natCast]
  by_cases hB:Go.Flow.bget B v = true
  · rw [hB,decide_eq_true (Go.Flow.mem_sideOf.2 ⟨v,rfl,hv2,hB⟩)]
  · rw [decide_eq_false (fun hm2=>by
      obtain ⟨u,e1,_,e3⟩:=Go.Flow.mem_sideOf.1 hm2
      have:u = v:=by omega
      subst this
      exact hB e3)]
    cases hb:Go.Flow.bget B v with
    | false=>rfl
    | true=>exact absurd hb hB
end Go.Step
/- Answers checked; results that are structs in memory; sums that wrap. No program in sight. No conditions. -/
namespace Go.Step
end Go.Step
namespace Go.Eng
open Go.IntWalk
variable {R H:List PH} {L:Env}
theorem resS2 {fn:Func} {N:Bs} {M:Nat} {P:Program} {t u b1 b2:Nat} {T U:TypeId} {v1 v2:List Value} (hr:fn.results = #[.cell t T,.cell u U]) (ht:look L t = some (.pointer (some ⟨b1,0,none⟩))) (hu:look L u = some (.pointer (some ⟨b2,0,none⟩))) (a1:aggP P T = some true) (a2:aggP P U = some true)
    (n1:szP P T = some v1.length) (n2:szP P U = some v2.length) (c1:Cells N R H b1 0 v1) (c2:Cells N R H b2 0 v2):∀ a w,Frm M L a → Sat N R H w → (results fn a.tmps).run P w = .ok (.tuple #[.agg v1.toArray,.agg v2.toArray]) w:=by
  intro a w hf hs
  have e1:a.tmps[t]?.getD undef = .pointer (some ⟨b1,0,none⟩):=by simpa using hf.get t _ ht
  have e2:a.tmps[u]?.getD undef = .pointer (some ⟨b2,0,none⟩):=by simpa using hf.get u _ hu
  have l1:=run_loadCells_list (P:=P) (w:=w) ⟨b1,0,none⟩ v1 (fun j v hv=>by rw [Addr.add_lit]; exact c1 w hs j v hv)
  have l2:=run_loadCells_list (P:=P) (w:=w) ⟨b2,0,none⟩ v2 (fun j v hv=>by rw [Addr.add_lit]; exact c2 w hs j v hv)
  simp [results,hr,e1,e2,loadVar,run_isAgg a1,run_isAgg a2,run_sizeOf n1,run_sizeOf n2,l1,l2,asAddr]
theorem Flat.agg7 {a b c d e f g:Value} {vs cs:List Value} (h:Flat vs cs):Flat (.agg #[a,b,c,d,e,f,g] :: vs) (a :: b :: c :: d :: e :: f :: g :: cs):=Flat.agg (ws:=[a,b,c,d,e,f,g]) h
theorem EL {C:Cx} {x y:Operand} {dst:Option Tmp} {ty:TypeId} {pos:String} {aft:Array Edge} {g:Option (Nat × Bool)} {xT yT:TypeId} {m n:Int} (h1:evalE L x = some (.int .i64 m)) (h2:evalE L y = some (.int .i64 n)):Quiet C R H L ⟨dst,.binOp .add xT x y yT,ty,pos,aft,g⟩ (.int .i64 (IntKind.i64.wrap (m + n))):=
  D3 (C:=C) (R:=R) (H:=H) (dst:=dst) (ty:=ty) (pos:=pos) (aft:=aft) (g:=g) (xT:=xT) (yT:=yT) (.inl ⟨rfl,rfl⟩) h1 h2
end Go.Eng
/- Shipments bring at most the capacity of a cut. No program in sight. No conditions. -/
namespace Go.Step
/-! sums -/
theorem sumT_add (f g:Int → Int) (a:Int):∀ m:Nat,sumT (fun k=>f k + g k) a m = sumT f a m + sumT g a m
  | 0=>rfl
  | m + 1=>by simp only [sumT]; rw [sumT_add f g a m]; omega
theorem sumT_sub (f g:Int → Int) (a:Int):∀ m:Nat,sumT (fun k=>f k - g k) a m = sumT f a m - sumT g a m
  | 0=>rfl
  | m + 1=>by simp only [sumT]; rw [sumT_sub f g a m]; omega
theorem sumT_none (a:Int):∀ m:Nat,sumT (fun _=>(0:Int)) a m = 0
  | 0=>rfl
  | m + 1=>by simp only [sumT]; rw [sumT_none a m]; rfl
theorem sumT_pick (g:Int → Int) (a b:Int):∀ m:Nat,sumT (fun k=>if b = k then g k else 0) a m = if a ≤ b ∧ b < a + m then g b else 0
  | 0=>by rw [if_neg (by omega)]; rfl
  | m + 1=>by
    simp only [sumT];rw [sumT_pick g a b m]
    by_cases h:b = a + m
    · subst h
      rw [if_neg (by omega),if_pos rfl,if_pos (by omega),Int.zero_add]
    · rw [if_neg h,Int.add_zero]
      by_cases h2:a ≤ b ∧ b < a + m
      · rw [if_pos h2,if_pos (by omega)]
      · rw [if_neg h2,if_neg (by omega)]
/-! one shipment -/
section
variable (cs:List Ct) (d:Dm) (P:Int → Int → Bool)
def cross (x:Sh):Int:=(if P (ctOf cs x).f x.t = true then x.n else 0) - (if P (ctOf cs x).t (arrOf cs x) = true then x.n else 0)
structure ShOk (nq:Nat) (x:Sh):Prop where
  f:0 ≤ (ctOf cs x).f ∧ (ctOf cs x).f < nq
  t:0 ≤ (ctOf cs x).t ∧ (ctOf cs x).t < nq
  a:d.r ≤ x.t ∧ x.t ≤ d.e
  b:d.r ≤ arrOf cs x ∧ arrOf cs x ≤ d.e
variable {cs d P}
/-! the ends -/
/-! the waits -/
/-! the contacts -/
end
section
variable {qs:List Int} {cs:List Ct} {bs:List Bk} {hs:List Hd} {d:Dm}
theorem ships_facts {l:List Sh} (h:firstE (shipE cs bs d l) l.length = 0):(∀ x ∈ l,ship1 cs bs d x = 0) ∧ l.Pairwise (fun x y=>sameSl y x = false):=by
  have h1:∀ (i:Nat) (hi:i < l.length),ship1 cs bs d l[i] = 0 ∧ (l.take i).any (sameSl l[i]) = false:=fun i hi=>by
    have:=firstE_zero h i hi
    rw [shipE_at (List.getElem?_eq_getElem hi)] at this
    by_cases h1:ship1 cs bs d l[i] = 0
    · rw [if_neg (by simpa using h1)] at this
      refine ⟨h1,?_⟩
      cases h2:(l.take i).any (sameSl l[i]) with
      | false=>rfl
      | true=>rw [h2] at this; simp at this
    · rw [if_pos h1] at this
      exact absurd this h1
  refine ⟨fun x hx=>?_,List.pairwise_iff_getElem.2 (fun i j hi hj hij=>?_)⟩
  · obtain ⟨i,hi,rfl⟩:=List.getElem_of_mem hx
    exact (h1 i hi).1
  · have:=(h1 j hj).2
    rw [List.any_eq_false] at this
    have h2:=this l[i] (List.mem_take_iff_getElem.2 ⟨i,by omega,rfl⟩)
    simpa using h2
theorem ship1_ok (h:VOk qs cs bs hs d) {x:Sh} (hx:ship1 cs bs d x = 0):ShOk cs d qs.length x ∧ (0 ≤ x.c ∧ x.c < (cs.length:Int)) ∧ (d.r ≤ x.t ∧ x.t < d.e) ∧ ∀ P,cross cs P x ≤ conB cs bs d P x.c x.t:=by
  unfold ship1 at hx
  split at hx
  · omega
  rename_i h1
  cases hc:cs[x.c.toNat]? with
  | none=>rw [hc] at hx; simp at hx
  | some c =>
    rw [hc] at hx
    dsimp only at hx
    split at hx
    · omega
    rename_i h2
    split at hx
    · omega
    rename_i h3
    split at hx
    · omega
    rename_i h4
    have hct:ctOf cs x = c:=by unfold ctOf; rw [List.getD_eq_getElem?_getD,hc]; rfl
    have hok:=h.ct c (List.mem_of_getElem? hc)
    have harr:arrOf cs x = x.t + 1 + c.g:=by unfold arrOf; rw [hct]
    refine ⟨⟨by rw [hct]; exact hok.1,by rw [hct]; exact hok.2.1,by omega,by omega⟩,by omega,by omega,fun P=>?_⟩
    unfold cross conB;rw [hc,hct,harr]
    dsimp only
    have hb:bookedB bs x.c x.t = false:=by simpa using h4
    by_cases hP:(P c.f x.t && !P c.t (x.t + 1 + c.g)) = true
    · rw [if_pos (show c.s ≤ x.t ∧ x.t < c.e ∧ x.t + 1 + c.g ≤ d.e ∧ bookedB bs x.c x.t = false ∧ (P c.f x.t && !P c.t (x.t + 1 + c.g)) = true from ⟨by omega,by omega,by omega,hb,hP⟩)]
      split <;> split <;> omega
    · rw [if_neg (show ¬ (c.s ≤ x.t ∧ x.t < c.e ∧ x.t + 1 + c.g ≤ d.e ∧ bookedB bs x.c x.t = false ∧ (P c.f x.t && !P c.t (x.t + 1 + c.g)) = true) from fun h=>hP h.2.2.2.2)]
      revert hP
      cases P c.f x.t <;> cases P c.t (x.t + 1 + c.g) <;> simp <;> omega
end
end Go.Step
/- What shipments bring to each node: all of it to Dest, from Source, nothing elsewhere. No program in sight. No conditions. -/
namespace Go.Step
def net1 (cs:List Ct) (n:Int) (x:Sh):Int:=(if (ctOf cs x).t = n then x.n else 0) - (if (ctOf cs x).f = n then x.n else 0)
def netS (cs:List Ct) (n:Int) (l:List Sh):Int:=lsum (net1 cs n) l
section
variable {qs:List Int} {cs:List Ct} {bs:List Bk} {hs:List Hd} {d:Dm}
theorem net1_stk {nq:Nat} {x:Sh} (h:ShOk cs d nq x) {n:Int} (hn:n ≠ d.s):stk1 cs d n d.e x = net1 cs n x:=by
  have ha:=h.a
  have hb:=h.b
  unfold stk1 net1;rw [if_neg hn]
  by_cases c1:(ctOf cs x).t = n <;> by_cases c2:(ctOf cs x).f = n <;> simp [c1,c2] <;> omega
theorem netS_stock {nq:Nat} {n:Int} (hn:n ≠ d.s):∀ {l:List Sh},(∀ x ∈ l,ShOk cs d nq x) → stock cs d n d.e l = netS cs n l
  | [],_=>rfl
  | x :: l,h=>by
    have ih:=netS_stock hn (l:=l) (fun y hy=>h y (by simp [hy]))
    unfold netS at ih ⊢;simp only [stock,lsum]
    rw [ih,net1_stk (h x (by simp)) hn]
theorem netS_sum {nq:Nat}:∀ {l:List Sh},(∀ x ∈ l,ShOk cs d nq x) → sumT (fun n=>netS cs n l) 0 nq = 0
  | [],_=>sumT_none 0 nq
  | x :: l,h=>by
    have hx:=h x (by simp)
    have ih:=netS_sum (l:=l) (fun y hy=>h y (by simp [hy]))
    have e:sumT (fun n=>netS cs n (x :: l)) 0 nq = sumT (fun n=>net1 cs n x) 0 nq + sumT (fun n=>netS cs n l) 0 nq:=by
      rw [← sumT_add]
      exact sumT_congr (fun k _=>rfl)
    have e2:sumT (fun n=>net1 cs n x) 0 nq = 0:=by
      unfold net1
      rw [sumT_sub (fun n=>if (ctOf cs x).t = n then x.n else 0) (fun n=>if (ctOf cs x).f = n then x.n else 0),sumT_pick (fun _=>x.n),sumT_pick (fun _=>x.n),if_pos (show 0 ≤ (ctOf cs x).t ∧ (ctOf cs x).t < 0 + (nq:Int) by have:=hx.t; omega),if_pos (show 0 ≤ (ctOf cs x).f ∧ (ctOf cs x).f < 0 + (nq:Int) by have:=hx.f; omega)]
      omega
    rw [e,e2,ih]
    rfl
theorem flow_parts {l:List Sh} {n:Int} (hn:flowR qs cs bs hs d l = (n,0)):firstE (shipE cs bs d l) l.length = 0 ∧ conflB qs.length cs d l = false ∧ fullB qs cs hs d l = false ∧ stock cs d d.d d.e l = n:=by
  unfold flowR at hn
  split at hn
  · simp at hn
  split at hn
  · rename_i _ h3
    rw [Prod.mk.injEq] at hn;exact absurd hn.2 h3
  rename_i _ h3
  split at hn
  · simp at hn
  rename_i hcf
  split at hn
  · simp at hn
  rename_i hfl
  rw [Prod.mk.injEq] at hn
  exact ⟨Decidable.not_not.1 h3,by simpa using hcf,by simpa using hfl,hn.1⟩
theorem nets_flow (h:VOk qs cs bs hs d) {l:List Sh} {v:Int} (hv:flowR qs cs bs hs d l = (v,0)):netS cs d.d l = v ∧ netS cs d.s l = -v ∧ ∀ n:Int,0 ≤ n → n < (qs.length:Int) → n ≠ d.s → n ≠ d.d → netS cs n l = 0:=by
  have hdm:=h.dm
  unfold okDm at hdm
  obtain ⟨p1,p2,_,p4⟩:=flow_parts hv
  have hall:∀ x ∈ l,ShOk cs d qs.length x:=fun x hx=>(ship1_ok h ((ships_facts p1).1 x hx)).1
  have hD:netS cs d.d l = v:=by rw [← netS_stock (fun hh=>hdm.2.2.1 hh.symm) hall,p4]
  have hM:∀ n:Int,0 ≤ n → n < (qs.length:Int) → n ≠ d.s → n ≠ d.d → netS cs n l = 0:=fun n h0 h1 h2 h3=>by
    obtain ⟨k,rfl⟩:=Int.eq_ofNat_of_zero_le h0
    rw [← netS_stock h2 hall];unfold conflB at p2
    have q1:=(anyT_none.1 ((anyT_none.1 p2) k (by omega))) (d.e - d.r).toNat (by omega)
    rw [show d.r + ((d.e - d.r).toNat:Int) = d.e by omega,Int.zero_add] at q1
    unfold confAt at q1;rw [decide_eq_false_iff_not] at q1
    exact Decidable.byContradiction (fun q2=>q1 (.inr ⟨rfl,h2,h3,q2⟩))
  refine ⟨hD,?_,hM⟩
  have hsum:=netS_sum hall
  have e:sumT (fun n=>netS cs n l) 0 qs.length = sumT (fun n=>(if d.s = n then netS cs n l else 0) + (if d.d = n then netS cs n l else 0)) 0 qs.length:=by
    refine sumT_congr (fun k hk=>?_)
    by_cases c1:d.s = 0 + (k:Int)
    · rw [if_pos c1,if_neg (by omega)]; omega
    · by_cases c2:d.d = 0 + (k:Int)
      · rw [if_neg c1,if_pos c2]; omega
      · rw [if_neg c1,if_neg c2,hM _ (by omega) (by omega) (fun hh=>c1 hh.symm) (fun hh=>c2 hh.symm)]
        rfl
  rw [e,sumT_add,sumT_pick (fun n=>netS cs n l),sumT_pick (fun n=>netS cs n l),if_pos (by omega),if_pos (by omega),hD] at hsum
  omega
end
end Go.Step
/- What shipments bring. -/
namespace Go.Proofs.YtphehihohghfoaaGreat
open Go.Eng Go.Step
set_option maxRecDepth 100000
set_option maxHeartbeats 4000000

def brg1 (cs:List Ct) (n:Int) (x:Sh):Int:=if (ctOf cs x).t = n then x.n else if (ctOf cs x).f = n then -x.n else 0
def brgS (cs:List Ct) (n:Int) (l:List Sh):Int:=lsum (brg1 cs n) l
theorem brgS_next {cs:List Ct} {n:Int} {l:List Sh} {k:Nat} {x:Sh} (h:l[k]? = some x):brgS cs n (l.take (k + 1)) = brgS cs n (l.take k) + brg1 cs n x:=by
 obtain ⟨hk,rfl⟩:=List.getElem?_eq_some_iff.1 h
 unfold brgS;rw [List.take_succ_eq_append_getElem hk,lsum_append]
 simp [lsum]
theorem brgS_bd {cs:List Ct} {n:Int}:∀ {l:List Sh},(∀ x ∈ l,0 ≤ x.n ∧ x.n ≤ 1000) → -(1000 * (l.length:Int)) ≤ brgS cs n l ∧ brgS cs n l ≤ 1000 * l.length
 | [],_=>by simp [brgS,lsum]
 | x :: l,h=>by
  have ih:=brgS_bd (cs:=cs) (n:=n) (l:=l) (fun y hy=>h y (by simp [hy]))
  have hx:=h x (by simp)
  have e:brgS cs n (x :: l) = brg1 cs n x + brgS cs n l:=rfl
  have e2:-1000 ≤ brg1 cs n x ∧ brg1 cs n x ≤ 1000:=by
   unfold brg1
   split
   ·omega
   ·split <;> omega
  rw [e];simp only [List.length_cons]
  push_cast
  omega
set_option maxHeartbeats 16000000 in
theorem brings_spec {ρ τ σ υ:PH} (ω:PH) {pq pc pb ph:Option Addr} {kq kc kb kh:Nat} {qs:List Int} {cs:List Ct} {bs:List Bk} {hs:List Hd} (hT:TbAt ρ τ σ υ pq pc pb ph kq kc kb kh qs cs bs hs) (v:Value) (l:List Sh) (n:Int) (hv:ShAt ω v l) (hl:l.length ≤ 1000000) (hok:∀ x ∈ l,(0 ≤ x.c ∧ x.c < (cs.length:Int)) ∧ 0 ≤ x.n ∧ x.n ≤ 1000) :
  Ans Tryz.prog (fv 19) [.agg #[.slice pq qs.length kq,.slice pc cs.length kc,.slice pb bs.length kb,.slice ph hs.length kh],v,int n] [ρ,τ,σ,υ,ω] (fun r=>r = int (brgS cs n l)):=by
 obtain ⟨q,cc,rfl,hr⟩:=hv.val encX_len
 obtain ⟨_,_,ec,hrc⟩:=hT.hc.val encC_len
 simp only [Value.slice.injEq] at ec
 obtain ⟨rfl,_,rfl⟩:=ec
 refine spec_in (cap:=[]) Tryz.func19 rfl rfl Tryz.ntmps19 rfl envZ (fun N β=>?_)
 refine Aa ?_;refine BH (BK rfl) rfl rfl rfl ?_;rintro _ _ ⟨b1,rfl,rfl⟩;refine AR (ρ:=sng b1 _) takeZ ?_
 have ct:=rdB b1 29 [.slice pq qs.length kq,.slice pc cs.length kc,.slice pb bs.length kb,.slice ph hs.length kh]
 have ct0:=rdC ct 0
 have ct1:=rdC ct 1
 have ct2:=rdC ct 2
 have ct3:=rdC ct 3
 have ctp:RdP (sng b1 (.cells #[.slice pq qs.length kq,.slice pc cs.length kc,.slice pb bs.length kb,.slice ph hs.length kh] 29 (0,0))) b1 0 [.slice pq qs.length kq,.slice pc cs.length kc]:=rdP_sng (xs:=[.slice pq qs.length kq,.slice pc cs.length kc,.slice pb bs.length kb,.slice ph hs.length kh]) rfl
 refine Aab ?_;refine Adj ?_
 refine BA [2,3,11,12] (0:Nat) (fun k=>k ≤ l.length) (fun k=>[(13,int k),(7,int (brgS cs n (l.take k)))]) (fun _=>[]) (fun k=>l.length - k) pickZ (by omega) covZ selZ ?_
 rintro k hk
 by_cases hlt:k < l.length
 ·have hx:=List.getElem?_eq_getElem hlt
  have hmem:=List.getElem_mem hlt
  have hn:=brgS_next (cs:=cs) (n:=n) hx
  have hbd:=brgS_bd (cs:=cs) (n:=n) (l:=l.take k) (fun y hy=>(hok y (List.mem_of_mem_take hy)).2)
  have hlk:(l.take k).length ≤ 1000000:=by rw [List.length_take]; omega
  obtain ⟨b7,o7,rfl,hrd,g0,g1,g2⟩:=shRow hr hx
  have hxo:=hok _ hmem
  generalize l[k] = x at hx hn hrd g0 g1 g2 hxo
  generalize brgS cs n (l.take k) = B at hn hbd
  clear g0 g1 g2 hmem
  obtain ⟨i,hi⟩:=Int.eq_ofNat_of_zero_le hxo.1.1
  have hil:i < cs.length:=by omega
  have hcx:=List.getElem?_eq_getElem hil
  have hct:ctOf cs x = cs[i]:=by unfold ctOf; rw [hi,Int.toNat_natCast,List.getD_eq_getElem?_getD,hcx]; rfl
  obtain ⟨b8,o8,rfl,hrd8⟩:=ctRow hrc hcx
  unfold brg1 at hn;rw [hct] at hn
  generalize cs[i] = y at hcx hrd8 hn hct
  obtain ⟨xc,xt,xn⟩:=x
  dsimp only at hi hxo hn hrd
  subst hi
  by_cases h1:y.t = n
  ·rw [if_pos h1] at hn
   refine Ab2 ?_;refine AX ?_; rintro _ _ ⟨b,rfl,rfl⟩;refine AV ?_; rintro _ _ ⟨rfl,rfl⟩;refine Aaj ?_;refine Acz ?_;refine AG ?_;refine Ac8 ?_;refine BG ?_;refine Abe ?_;refine Ac0 ?_;refine Acy ?_;refine Abk ?_;refine AX ?_; rintro _ _ ⟨b,rfl,rfl⟩;refine AV ?_; rintro _ _ ⟨rfl,rfl⟩;refine AE ?_;refine Acf ?_;refine CI ?_;refine Adg ?_;refine Aae ?_;refine Ad4 ?_;refine Aa2 ?_
   refine AY (k + 1) (by omega) (by omega) ?_ selZ
   rw [hn];exact covZ
  ·rw [if_neg h1] at hn
   by_cases h2:y.f = n
   ·rw [if_pos h2] at hn
    refine Ab2 ?_;refine AX ?_; rintro _ _ ⟨b,rfl,rfl⟩;refine AV ?_; rintro _ _ ⟨rfl,rfl⟩;refine Aaj ?_;refine Acz ?_;refine AG ?_;refine Ac8 ?_;refine BG ?_;refine Abe ?_;refine Ac0 ?_;refine Acy ?_;refine Abk ?_;refine AX ?_; rintro _ _ ⟨b,rfl,rfl⟩;refine AV ?_; rintro _ _ ⟨rfl,rfl⟩;refine AE ?_;refine Acf ?_;refine B4 ?_;refine AE ?_;refine AM rfl ?_;refine Acf ?_;refine CI ?_;refine Adg ?_;refine Aae ?_;refine CY ?_;refine Aab ?_;refine Aa2 ?_
    refine AY (k + 1) (by omega) (by omega) ?_ selZ
    rw [hn,show B + -xn = B - xn by omega]
    exact covZ
   ·rw [if_neg h2,Int.add_zero] at hn
    refine Ab2 ?_;refine AX ?_; rintro _ _ ⟨b,rfl,rfl⟩;refine AV ?_; rintro _ _ ⟨rfl,rfl⟩;refine Aaj ?_;refine Acz ?_;refine AG ?_;refine Ac8 ?_;refine BG ?_;refine Abe ?_;refine Ac0 ?_;refine Acy ?_;refine Abk ?_;refine AX ?_; rintro _ _ ⟨b,rfl,rfl⟩;refine AV ?_; rintro _ _ ⟨rfl,rfl⟩;refine AE ?_;refine Acf ?_;refine B4 ?_;refine AE ?_;refine AM rfl ?_;refine Acf ?_;refine B4 ?_;refine Adk ?_
    refine AY (k + 1) (by omega) (by omega) ?_ selZ
    rw [hn];exact covZ
 ·have hke:k = l.length:=by omega
  subst hke;rw [List.take_length];refine Abr ?_;refine Abt ?_;exact AI (res1 rfl rfl) rsubZ selZ ⟨rfl,rfl⟩
theorem brgS_net {cs:List Ct} {n:Int}:∀ {l:List Sh},(∀ x ∈ l,(ctOf cs x).f ≠ (ctOf cs x).t) → brgS cs n l = netS cs n l
 | [],_=>rfl
 | x :: l,h=>by
  have ih:=brgS_net (n:=n) (l:=l) (fun y hy=>h y (by simp [hy]))
  have hx:=h x (by simp)
  have e:brgS cs n (x :: l) = brg1 cs n x + brgS cs n l:=rfl
  have e2:netS cs n (x :: l) = net1 cs n x + netS cs n l:=rfl
  rw [e,e2,ih]
  congr 1
  unfold brg1 net1
  by_cases c1:(ctOf cs x).t = n
  ·rw [if_pos c1,if_pos c1,if_neg (by omega)]; omega
  ·rw [if_neg c1,if_neg c1]; split <;> omega
theorem ship1_tests {cs:List Ct} {bs:List Bk} {d:Dm} {x:Sh} (h:ship1 cs bs d x = 0):∃ c,cs[x.c.toNat]? = some c ∧ ctOf cs x = c ∧ (0 ≤ x.c ∧ x.c < (cs.length:Int)) ∧ 1 ≤ x.n ∧ x.n ≤ c.r ∧ c.s ≤ x.t ∧ d.r ≤ x.t ∧ x.t < c.e ∧ x.t + 1 + c.g ≤ d.e:=by
 unfold ship1 at h
 split at h
 ·omega
 rename_i h1
 cases hc:cs[x.c.toNat]? with
 | none=>rw [hc] at h; simp at h
 | some c =>
  rw [hc] at h
  dsimp only at h
  split at h
  ·omega
  rename_i h2
  split at h
  ·omega
  rename_i h3
  have hct:ctOf cs x = c:=by unfold ctOf; rw [List.getD_eq_getElem?_getD,hc]; rfl
  exact ⟨c,rfl,hct,by omega,by omega,by omega,by omega,by omega,by omega,by omega⟩
theorem brings_flow {qs:List Int} {cs:List Ct} {bs:List Bk} {hs:List Hd} {d:Dm} (hvd:validT qs cs bs hs d = true) (h:VOk qs cs bs hs d) {l:List Sh} {v:Int} (hv:flowR qs cs bs hs d l = (v,0)) (hne:∀ c ∈ cs,c.f ≠ c.t) :
  brgS cs d.d l = v ∧ brgS cs d.s l = -v ∧ (∀ n:Int,0 ≤ n → n < (qs.length:Int) → n ≠ d.s → n ≠ d.d → brgS cs n l = 0) ∧ ∀ x ∈ l,(0 ≤ x.c ∧ x.c < (cs.length:Int)) ∧ 0 ≤ x.n ∧ x.n ≤ 1000:=by
 obtain ⟨a1,a2,a3⟩:=nets_flow h hv
 have hf:=(ships_facts (flow_parts hv).1).1
 have hn:∀ n,brgS cs n l = netS cs n l:=fun n=>brgS_net (fun x hx=>by
  obtain ⟨c,h1,h2,_⟩:=ship1_tests (hf x hx)
  rw [h2]
  exact hne c (List.mem_of_getElem? h1))
 refine ⟨by rw [hn,a1],by rw [hn,a2],fun n b1 b2 b3 b4=>by rw [hn,a3 n b1 b2 b3 b4],fun x hx=>?_⟩
 obtain ⟨c,h1,_,h3,h4,h5,_⟩:=ship1_tests (hf x hx)
 have:=(h.ct c (List.mem_of_getElem? h1)).2.2.2.1
 exact ⟨h3,by omega,by omega⟩
end Go.Proofs.YtphehihohghfoaaGreat
/- Shipments and stocks, of the reference. -/
namespace Go.Proofs.YtphehihohghfoaaGreat
open Go.Eng Go.Step
set_option maxRecDepth 100000
set_option maxHeartbeats 4000000

theorem ship1_ok {cs:List Ct} {bs:List Bk} {d:Dm} {x:Sh} (h:ship1 cs bs d x = 0):∃ (nn:Nat) (c:Ct),x.c = nn ∧ cs[nn]? = some c ∧ ctOf cs x = c ∧ (d.r ≤ x.t ∧ c.s ≤ x.t ∧ x.t < c.e ∧ 1 ≤ x.n ∧ x.n ≤ c.r) ∧ x.t + 1 + c.g ≤ d.e ∧ arrOf cs x = x.t + 1 + c.g:=by
 unfold ship1 at h
 by_cases h1:x.c < 0 ∨ (cs.length:Int) ≤ x.c
 ·rw [if_pos h1] at h; omega
 rw [if_neg h1] at h
 have hlt:x.c.toNat < cs.length:=by omega
 rw [List.getElem?_eq_getElem hlt] at h
 dsimp only at h
 have hct:ctOf cs x = cs[x.c.toNat]:=by unfold ctOf; rw [List.getD_eq_getElem?_getD,List.getElem?_eq_getElem hlt]; rfl
 by_cases h2:x.t < d.r ∨ x.t < cs[x.c.toNat].s ∨ cs[x.c.toNat].e ≤ x.t ∨ x.n < 1 ∨ cs[x.c.toNat].r < x.n
 ·rw [if_pos h2] at h; omega
 rw [if_neg h2] at h
 by_cases h3:d.e < x.t + 1 + cs[x.c.toNat].g
 ·rw [if_pos h3] at h; omega
 exact ⟨x.c.toNat,cs[x.c.toNat],by omega,List.getElem?_eq_getElem hlt,hct,by omega,by omega,by unfold arrOf; rw [hct]⟩
end Go.Proofs.YtphehihohghfoaaGreat
/- Stocks, of the reference. -/
namespace Go.Proofs.YtphehihohghfoaaGreat
open Go.Eng Go.Step
set_option maxRecDepth 100000
set_option maxHeartbeats 4000000

end Go.Proofs.YtphehihohghfoaaGreat
/- Flow, of the reference. -/
namespace Go.Proofs.YtphehihohghfoaaGreat
open Go.Eng Go.Step
set_option maxRecDepth 100000
set_option maxHeartbeats 4000000

theorem valid_ok {qs:List Int} {cs:List Ct} {bs:List Bk} {hs:List Hd} {d:Dm} (h:validT qs cs bs hs d = true):(∀ c ∈ cs,chkCt c = 0 ∧ c.f < qs.length ∧ c.t < qs.length) ∧ bs.length ≤ 512 ∧ (∀ x ∈ hs,okHd qs.length x) ∧ hs.length ≤ 512 ∧ (1 ≤ qs.length ∧ qs.length ≤ 16) ∧ (∀ (j:Nat) (q:Int),qs[j]? = some q → 0 ≤ q ∧ q ≤ 1073741824) ∧ okDm qs.length d ∧ cs.length ≤ 64:=by
 obtain ⟨h1,h2⟩:=of_decide_eq_true h
 obtain ⟨p,b,hh⟩:=chkT_ok h1
 obtain ⟨k1,k2⟩:=chkPl_ct p
 obtain ⟨k3,k4⟩:=chkPl_quo p
 have k5:=chkB_ok b
 have k6:(∀ x ∈ hs,okHd qs.length x) ∧ hs.length ≤ 512:=by
  unfold chkH at hh
  rw [if_neg (by simpa using p)] at hh
  by_cases c1:512 < hs.length
  ·rw [if_pos c1] at hh; omega
  rw [if_neg c1] at hh
  by_cases c2:firstE (hdE qs.length hs) hs.length = 0
  ·have:=hdE_ok c2
   rw [List.take_length] at this
   exact ⟨this,by omega⟩
  ·rw [if_pos c2] at hh; exact absurd hh c2
 exact ⟨k2,k5.1,k6.1,k6.2,k3,k4,h2,k1⟩
end Go.Proofs.YtphehihohghfoaaGreat
/- Maps whose keys are structs of two or three ints: looked up, changed. No conditions. -/
namespace Go.Eng
variable {C : Cx} {D : List Deferred} {R H : List PH} {L : Env} {K : List It}
variable {dst : Option Tmp} {ty : TypeId} {pos : String} {aft : Array Edge} {g : Option (Nat × Bool)}
abbrev aggI (k : List Int) : Value := .agg (k.map int).toArray
def entsS : Nat → List (List Int × Value) → List MapEntry
  | _, [] => []
  | i, kv :: m => ⟨aggI kv.1, kv.2, i⟩ :: entsS (i + 1) m
def mapS (m : List (List Int × Value)) : Obj := .map (entsS 0 m).toArray m.length
def midxS (k : List Int) : List (List Int × Value) → Option (Nat × Value)
  | [] => none
  | (a, v) :: m => if k = a then some (0, v) else (midxS k m).map (fun p => (p.1 + 1, p.2))
def mgetS (k : List Int) (m : List (List Int × Value)) : Option Value := (midxS k m).map (·.2)
def msetS (k : List Int) (v : Value) : List (List Int × Value) → List (List Int × Value)
  | [] => [(k, v)]
  | (a, w) :: m => if k = a then (a, v) :: m else (a, w) :: msetS k v m
theorem mgetS_mset (k x : List Int) (v : Value) : ∀ m : List (List Int × Value), mgetS x (msetS k v m) = if x = k then some v else mgetS x m
  | [] => by
    by_cases h : x = k <;> simp [msetS, mgetS, midxS, h]
  | (a, w) :: m => by
    have ih := mgetS_mset k x v m
    by_cases h : k = a
    · subst h
      simp only [msetS, if_true, mgetS, midxS]
      by_cases e : x = k <;> simp [e]
    · simp only [msetS, if_neg h, mgetS, midxS] at ih ⊢
      by_cases e : x = a
      · subst e
        simp [Ne.symm h]
      · simp only [if_neg e, Option.map_map] at ih ⊢
        have e2 : ((fun x : Nat × Value => x.2) ∘ fun p : Nat × Value => (p.1 + 1, p.2)) = fun x => x.2 := rfl
        rw [e2, ih]
theorem mset_noneS {k : List Int} {v : Value} : ∀ {m : List (List Int × Value)} (i : Nat), midxS k m = none → entsS i m ++ [⟨aggI k, v, i + m.length⟩] = entsS i (msetS k v m) ∧ (msetS k v m).length = m.length + 1
  | [], i, _ => ⟨rfl, rfl⟩
  | (a, w) :: m, i, h => by
    unfold midxS at h
    split at h
    · exact absurd h (by simp)
    · rename_i hk
      have h' : midxS k m = none := by simpa using h
      obtain ⟨e, l⟩ := mset_noneS (k := k) (v := v) (m := m) (i + 1) h'
      simp only [msetS, if_neg hk, entsS, List.cons_append, List.length_cons, l, and_true, ← e]
      congr 4
      omega
theorem mset_someS {k : List Int} {v : Value} : ∀ {m : List (List Int × Value)} (i n : Nat) (w : Value), midxS k m = some (n, w) → (entsS i m).modify n (fun e => { e with key := aggI k, val := v }) = entsS i (msetS k v m) ∧ (msetS k v m).length = m.length ∧ n < m.length ∧ ((entsS i m)[n]?).map (·.key) = some (aggI k)
  | [], i, n, w, h => by simp [midxS] at h
  | (a, u) :: m, i, n, w, h => by
    unfold midxS at h
    split at h
    · rename_i hk
      subst hk
      simp at h
      obtain ⟨rfl, rfl⟩ := h
      simp [entsS, msetS]
    · rename_i hk
      cases hm : midxS k m with
      | none => rw [hm] at h; simp at h
      | some p =>
        rw [hm] at h
        simp at h
        obtain ⟨rfl, rfl⟩ := h
        obtain ⟨e, l, l2, l3⟩ := mset_someS (k := k) (v := v) (m := m) (i + 1) p.1 p.2 hm
        simp only [msetS, if_neg hk, entsS, List.length_cons, l, List.modify_succ_cons, e]
        refine ⟨trivial, trivial, by omega, ?_⟩
        simpa using l3
structure KeyS (P : Program) (kt : TypeId) (n : Nat) : Prop where
  i : intsP P kt n = true
  s : P.stoodInHeld kt = false
theorem run_askS {P : Program} {w : World} {kt : TypeId} {n : Nat} {k : List Int} (hk : KeyS P kt n) (hn : k.length = n) : ∀ (m : List (List Int × Value)) (i j : Nat), (∀ x ∈ m, x.1.length = n) → (Instr.findAsking kt (aggI k) (entsS i m) j).run P w = .ok ((midxS k m).map (fun p => (j + p.1, p.2))) w
  | [], i, j, _ => by simp [entsS, Instr.findAsking, midxS]
  | (a, v) :: m, i, j, h => by
    have ih := run_askS (w := w) hk hn m (i + 1) (j + 1) (fun x hx => h x (by simp [hx]))
    have he := run_eqInts (P := P) w hk.i hk.s hn (h (a, v) (by simp))
    simp only [entsS, Instr.findAsking, Op.equal, Op.maxDepth, Sem.run_bind, he, Result.andThen_ok, midxS]
    by_cases e : k = a
    · simp [e]
    · simp only [e, decide_false, Bool.false_eq_true, if_false, ih, Option.map_map]
      congr 2
      funext p
      show (j + 1 + p.1, p.2) = (j + (p.1 + 1), p.2)
      rw [show j + 1 + p.1 = j + (p.1 + 1) by omega]
theorem run_findS {P : Program} {w : World} {kt : TypeId} {n : Nat} {k : List Int} (hk : KeyS P kt n) (hn : k.length = n) {m : List (List Int × Value)} (h : ∀ x ∈ m, x.1.length = n) : (Instr.findKey kt (aggI k) (entsS 0 m)).run P w = .ok (midxS k m) w := by
  obtain ⟨fs, hu, _, _⟩ := intsP_of hk.i
  rw [run_findKey_eq w (by rw [hu]), run_askS hk hn m 0 0 h]
  simp
theorem run_checkFlds {P : Program} {w : World} (em : Bool) (d : Nat) (k : List Int) : ∀ (fs : List Field) (j : Nat), fldsI P j fs = true → j + fs.length = k.length →
    ((forIn fs PUnit.unit fun (f : Field) (_ : PUnit) => (if f.name ≠ "_" then do let x ← part f.type (k.map int).toArray f.offset; Instr.checkKey em (d + 1) f.type x; pure (ForInStep.yield PUnit.unit) else pure (ForInStep.yield PUnit.unit) : Sem (ForInStep PUnit)))).run P w = .ok PUnit.unit w
  | [], j, _, _ => by simp
  | f :: fs, j, hf, h => by
    simp only [fldsI, fldI, Bool.and_eq_true, bne_iff_ne, ne_eq, beq_iff_eq] at hf
    obtain ⟨⟨⟨h3, h4⟩, h5⟩, h6⟩ := hf
    have hu : P.underlying f.type = some (.int .i64) := by
      split at h5
      · assumption
      · simp at h5
    have ih := run_checkFlds (w := w) em d k fs (j + 1) h6 (by simp at h; omega)
    have hk : j < k.length := by simp at h; omega
    have hp : (part f.type (k.map int).toArray f.offset).run P w = .ok (int k[j]) w := by
      have hag : aggP P f.type = some false := by simp [aggP, hu]
      simp [part, run_isAgg hag, h4, hk]
    have hc := run_checkKey (P := P) (w := w) (k := k[j]) em d hu
    rw [List.forIn_cons];simp only [h3, not_false_eq_true, if_true, ne_eq, bind_assoc, Sem.run_bind, hp, hc, Result.andThen_ok, pure_bind];exact ih
theorem run_checkS {P : Program} {w : World} {kt : TypeId} {n : Nat} {k : List Int} (hk : KeyS P kt n) (hn : k.length = n) (em : Bool) : (Instr.checkKey em 10000 kt (aggI k)).run P w = .ok () w := by
  obtain ⟨fs, hu, hs, hf⟩ := intsP_of hk.i
  have h := run_checkFlds (P := P) (w := w) em 9998 k fs.toList 0 hf (by simp [hs, hn])
  rw [show (10000 : Nat) = 9999 + 1 from rfl, Instr.checkKey]
  simp only [Sem.run_bind, run_underlying hu, Result.andThen_ok, ← Array.forIn_toList];rw [h]
  rfl
theorem run_lookupS {P : Program} {w : World} {t kt et : TypeId} {b n : Nat} {k : List Int} {l : List (List Int × Value)} {z : Value} {ok : Bool} (ht : P.underlying t = some (.map kt et)) (hk : KeyS P kt n) (hn : k.length = n) (hl : ∀ x ∈ l, x.1.length = n) (hz : zeroP P et = some z) (hg : w.heap[b]? = some (mapS l)) :
    (Instr.lookup t (.map (some b)) (aggI k) ok).run P w = .ok (if ok then .tuple #[(mgetS k l).getD z, .bool (mgetS k l).isSome] else (mgetS k l).getD z) w := by
  have hf := run_findS (P := P) (w := w) (k := k) hk hn hl
  have hc := fun e => run_checkS (P := P) (w := w) (k := k) hk hn e
  unfold mgetS
  cases hm : midxS k l with
  | none =>
    rw [hm] at hf
    simp [Instr.lookup, run_underlying ht, getObj, Sem.run, hg, mapS]
    simp [hc, hf, run_zeroValue hz]
  | some p =>
    rw [hm] at hf
    simp [Instr.lookup, run_underlying ht, getObj, Sem.run, hg, mapS]
    simp [hc, hf]
def MapAtS (N : Bs) (R H : List PH) (b : Nat) (l : List (List Int × Value)) : Prop := ∀ w, Sat N R H w → w.heap[b]? = some (mapS l)
theorem mapAtS_rd {N : Bs} {b : Nat} {l : List (List Int × Value)} (m : Mem (sng b (mapS l)) R) : MapAtS N R H b l := fun w hs => hs.r _ m.mem b _ (sng_self b _)
theorem E8 {t : TypeId} : Loud C R H L ⟨dst, .makeMap t none, ty, pos, aft, g⟩ (fun v H' => ∃ b, v = .map (some b) ∧ H' = sng b (mapS []) :: H) := EI
theorem FS {x y : Operand} {t kt et : TypeId} {b : Nat} (n : Nat) (k : List Int) {l : List (List Int × Value)} {z : Value} (h : evalE L x = some (.map (some b))) (hk : evalE L y = some (aggI k)) (ht : C.P.underlying t = some (.map kt et)) (hkt : KeyS C.P kt n) (hn : k.length = n) (hl : ∀ x ∈ l, x.1.length = n) (hz : zeroP C.P et = some z) (hm : MapAtS C.N R H b l) :
    Quiet C R H L ⟨dst, .lookup t x y false, ty, pos, aft, g⟩ ((mgetS k l).getD z) :=
  ⟨by intro c; simp, fun a w hx hs => by
    have e1 := hx x (by simp [Op.operands]) _ h
    have e2 := hx y (by simp [Op.operands]) _ hk
    simp [execOp, e1, e2, run_lookupS (ok := false) ht hkt hn hl hz (hm w hs)]⟩
theorem DZ {x y : Operand} {t kt et : TypeId} {b : Nat} (n : Nat) (k : List Int) {l : List (List Int × Value)} {z : Value} (h : evalE L x = some (.map (some b))) (hk : evalE L y = some (aggI k)) (ht : C.P.underlying t = some (.map kt et)) (hkt : KeyS C.P kt n) (hn : k.length = n) (hl : ∀ x ∈ l, x.1.length = n) (hz : zeroP C.P et = some z) (hm : MapAtS C.N R H b l) :
    Quiet C R H L ⟨dst, .lookup t x y true, ty, pos, aft, g⟩ (.tuple #[(mgetS k l).getD z, .bool (mgetS k l).isSome]) :=
  ⟨by intro c; simp, fun a w hx hs => by
    have e1 := hx x (by simp [Op.operands]) _ h
    have e2 := hx y (by simp [Op.operands]) _ hk
    simp [execOp, e1, e2, run_lookupS (ok := true) ht hkt hn hl hz (hm w hs)]⟩
theorem sameBits_agg (k : List Int) : Instr.sameBits 10000 (aggI k) (aggI k) = true := by
  have h : ∀ l : List Int, ((l.map int).zip (l.map int)).all (fun p => Instr.sameBits 9999 p.1 p.2) = true := by
    intro l
    induction l with
    | nil => rfl
    | cons x l ih =>
      simp only [List.map_cons, List.zip_cons_cons, List.all_cons, ih, Bool.and_true]
      simp [Instr.sameBits]
  have h2 := h k
  simp only [aggI];unfold Instr.sameBits;simp only [beq_self_eq_true, Bool.true_and];exact h2
theorem run_mapUpdateS {P : Program} {w : World} {t kt et : TypeId} {b n : Nat} {k : List Int} {v : Value} {l : List (List Int × Value)} (ht : P.underlying t = some (.map kt et)) (hkt : KeyS P kt n) (hn : k.length = n) (hl : ∀ x ∈ l, x.1.length = n) (hg : w.heap[b]? = some (mapS l)) :
    (Instr.mapUpdate t (.map (some b)) (aggI k) v).run P w = .ok () { w with heap := w.heap.setIfInBounds b (mapS (msetS k v l)) } := by
  have hf := run_findS (P := P) (w := w) (k := k) hkt hn hl
  have hc := fun e => run_checkS (P := P) (w := w) (k := k) hkt hn e
  cases hm : midxS k l with
  | none =>
    rw [hm] at hf
    obtain ⟨e, n⟩ := mset_noneS (k := k) (v := v) 0 hm
    have e2 : mapS (msetS k v l) = .map ((entsS 0 l).toArray.push ⟨aggI k, v, l.length⟩) (l.length + 1) := by
      unfold mapS; rw [n, ← e]; simp
    rw [e2]
    simp [Instr.mapUpdate, run_underlying ht, getObj, Sem.run, hg, mapS]
    simp [hc, hf, setObj, Sem.run, hg, mapS]
  | some p =>
    rw [hm] at hf
    obtain ⟨e, n, n2, n3⟩ := mset_someS (k := k) (v := v) 0 p.1 p.2 hm
    have e2 : mapS (msetS k v l) = .map ((entsS 0 l).toArray.modify p.1 (fun e => { e with key := aggI k, val := v })) l.length := by
      unfold mapS; rw [n, ← e]; simp
    rw [e2]
    have hks : (Instr.keyThatStays (aggI k) (aggI k)).run P w = .ok (aggI k) w := by simp [Instr.keyThatStays, sameBits_agg]
    simp [Instr.mapUpdate, run_underlying ht, getObj, Sem.run, hg, mapS]
    simp [hc, hf, setObj, Sem.run, n3, hks, hg, mapS]
theorem EM {x y z : Operand} {t kt et : TypeId} {b : Nat} (n : Nat) (k : List Int) {v : Value} {l : List (List Int × Value)} {H' : List PH} (h : evalE L x = some (.map (some b))) (hk : evalE L y = some (aggI k)) (hv : evalE L z = some v) (ht : C.P.underlying t = some (.map kt et)) (hkt : KeyS C.P kt n) (hn : k.length = n) (hl : ∀ x ∈ l, x.1.length = n) (hm : Take (sng b (mapS l)) H H') :
    Loud C R H L ⟨dst, .mapUpdate t x y z, ty, pos, aft, g⟩ (fun u H2 => u = undef ∧ H2 = sng b (mapS (msetS k v l)) :: H') := by
  refine ⟨fun a w hx hs next Q hnx => ?_⟩
  have hg := hs.own hm
  have e1 := hx x (by simp [Op.operands]) _ h
  have e2 := hx y (by simp [Op.operands]) _ hk
  have e3 := hx z (by simp [Op.operands]) _ hv
  refine wpIn_skipv (w' := { w with heap := w.heap.setIfInBounds b (mapS (msetS k v l)) }) (by intro c; simp) ?_ (hnx _ _ _ ⟨rfl, rfl⟩ (hs.turn hm ?_ ?_ ?_))
  · simp [execOp, e1, e2, e3, run_mapUpdateS ht hkt hn hl hg]
  · simp
  · have : b < w.heap.size := by
      rw [Array.getElem?_eq_some_iff] at hg; exact hg.1
    simp [this]
  · intro k hk; simp [Array.getElem?_setIfInBounds, Ne.symm hk]
theorem msetS_len {k : List Int} {v : Value} {n : Nat} (hk : k.length = n) : ∀ {l : List (List Int × Value)}, (∀ x ∈ l, x.1.length = n) → ∀ x ∈ msetS k v l, x.1.length = n
  | [], _, x, hx => by simp [msetS] at hx; rw [hx]; exact hk
  | (a, w) :: l, h, x, hx => by
    unfold msetS at hx
    split at hx
    · rcases List.mem_cons.1 hx with rfl | hx
      · exact h (a, w) (by simp)
      · exact h x (by simp [hx])
    · rcases List.mem_cons.1 hx with rfl | hx
      · exact h (a, w) (by simp)
      · exact msetS_len hk (l := l) (fun y hy => h y (by simp [hy])) x hx
end Go.Eng
/- Nodes at times, numbered in a map. No program in sight. No conditions. -/
namespace Go.Step
open Go.Eng
def placesN (d:Dm) (n:Nat) (t:Int):List (Int × Int):=(rngI d.r t).map (fun u=>((n:Int),u))
def placesA (d:Dm):Nat → List (Int × Int)
  | 0=>[]
  | n + 1=>placesA d n ++ placesN d n (d.e + 1)
theorem placesN_len (d:Dm) (n:Nat) (t:Int):(placesN d n t).length = (t - d.r).toNat:=by unfold placesN; rw [List.length_map,rngI_len]
theorem placesA_len {d:Dm} (h:d.r ≤ d.e):∀ m:Nat,((placesA d m).length:Int) = m * wd d
  | 0=>by simp [placesA]
  | m + 1=>by
    have ih:=placesA_len h m
    unfold placesA;rw [List.length_append,placesN_len,Int.natCast_add,ih,Int.natCast_add,Int.add_mul];unfold wd;omega
theorem places_at {d:Dm} (h:d.r ≤ d.e) {k:Nat} {t:Int} (ht:d.r ≤ t):((placesA d k ++ placesN d k t).length:Int) = vtx d k t:=by
  rw [List.length_append,placesN_len,Int.natCast_add,placesA_len h];unfold vtx;omega
theorem placesN_snoc {d:Dm} {k:Nat} {t:Int} (ht:d.r ≤ t):placesN d k (t + 1) = placesN d k t ++ [((k:Int),t)]:=by
  unfold placesN;rw [rngI_snoc ht,List.map_append]
  rfl
theorem placesN_nil (d:Dm) (k:Nat):placesN d k d.r = []:=by
  unfold placesN;rw [rngI_nil (Int.le_refl _)]
  rfl
theorem placesA_get {d:Dm} (h:d.r ≤ d.e) {n:Nat} {t:Int} (h1:d.r ≤ t) (h2:t ≤ d.e):∀ {m:Nat},n < m → (placesA d m)[(vtx d n t).toNat]? = some ((n:Int),t)
  | 0,hm=>by omega
  | m + 1,hm=>by
    have hl:=placesA_len h m
    have hp:0 ≤ vtx d n t:=by
      unfold vtx
      have:=Int.mul_nonneg (show 0 ≤ (n:Int) by omega) (show 0 ≤ wd d by unfold wd; omega)
      omega
    unfold placesA
    by_cases hn:n < m
    · have hlt:=(vtx_lt (d:=d) (n:=n) (t:=t) (N:=m) (by omega) (by omega) h1 h2).2
      rw [List.getElem?_append_left (by omega)]
      exact placesA_get h h1 h2 hn
    · obtain rfl:n = m:=by omega
      have hv:vtx d n t = n * wd d + (t - d.r):=rfl
      rw [List.getElem?_append_right (by omega)]
      have e:(vtx d n t).toNat - (placesA d n).length = (t - d.r).toNat:=by omega
      rw [e];unfold placesN
      rw [List.getElem?_map,rngI_get (by omega)]
      simp only [Option.map_some,Option.some.injEq,Prod.mk.injEq,true_and];omega
theorem tickL_len (r e g:Int) (F:List (Int × Int)) {k:Nat} {x:Int × Int} (h:F[k]? = some x):(tickL r e g (F.take (k + 1))).length = (tickL r e g (F.take k)).length + (min x.2 (e - g) - max x.1 r).toNat:=by
  obtain ⟨hk,rfl⟩:=List.getElem?_eq_some_iff.1 h
  unfold tickL;rw [List.take_succ_eq_append_getElem hk,List.flatMap_append,List.length_append]
  congr 1
  simp [tickS,rngI_len]
theorem tickL_at (r e g:Int) (F:List (Int × Int)) {k:Nat} {x:Int × Int} (h:F[k]? = some x) {t:Int} (h1:max x.1 r ≤ t) (h2:t < min x.2 (e - g)):(tickL r e g F)[(tickL r e g (F.take k)).length + (t - max x.1 r).toNat]? = some t:=by
  obtain ⟨hk,rfl⟩:=List.getElem?_eq_some_iff.1 h
  have hF:tickL r e g F = tickL r e g (F.take k) ++ (tickS r e g F[k] ++ tickL r e g (F.drop (k + 1))):=by
    have h3:F = F.take k ++ F[k] :: F.drop (k + 1):=by rw [← List.drop_eq_getElem_cons hk,List.take_append_drop]
    conv=>lhs; rw [h3]
    unfold tickL;rw [List.flatMap_append,List.flatMap_cons]
  rw [hF,List.getElem?_append_right (by omega),Nat.add_sub_cancel_left,List.getElem?_append_left (by unfold tickS; rw [rngI_len]; omega)]
  unfold tickS
  rw [rngI_get (by omega)]
  congr 1
  omega
def NumAt (d:Dm) (k t:Int) (M:List (List Int × Value)):Prop:=(∀ e ∈ M,e.1.length = 2) ∧ ∀ n u:Int,mgetS [n,u] M = if (0 ≤ n ∧ d.r ≤ u ∧ u ≤ d.e) ∧ (n < k ∨ (n = k ∧ u < t)) then some (int (vtx d n u)) else none
theorem NumAt.nil (d:Dm):NumAt d 0 d.r []:=⟨by simp,fun n u=>by rw [if_neg (by omega)]; rfl⟩
theorem NumAt.row {d:Dm} {k t:Int} {M:List (List Int × Value)} (h:NumAt d k t M) (ht:d.e < t):NumAt d (k + 1) d.r M:=⟨h.1,fun n u=>by
  rw [h.2]
  by_cases c:(0 ≤ n ∧ d.r ≤ u ∧ u ≤ d.e) ∧ (n < k ∨ (n = k ∧ u < t))
  · rw [if_pos c,if_pos (by omega)]
  · rw [if_neg c,if_neg (by omega)]⟩
theorem NumAt.add {d:Dm} {k t:Int} {M:List (List Int × Value)} (h:NumAt d k t M) (hk:0 ≤ k) (h1:d.r ≤ t) (h2:t ≤ d.e):NumAt d k (t + 1) (msetS [k,t] (int (vtx d k t)) M):=⟨msetS_len rfl h.1,fun n u=>by
  rw [mgetS_mset]
  by_cases c:[n,u] = [k,t]
  · rw [if_pos c]
    simp only [List.cons.injEq,and_true] at c
    obtain ⟨rfl,rfl⟩:=c
    rw [if_pos (by omega)]
  · rw [if_neg c,h.2]
    have c2:¬ (n = k ∧ u = t):=fun h=>c (by rw [h.1,h.2])
    by_cases c3:(0 ≤ n ∧ d.r ≤ u ∧ u ≤ d.e) ∧ (n < k ∨ (n = k ∧ u < t))
    · rw [if_pos c3,if_pos (by omega)]
    · rw [if_neg c3,if_neg (by omega)]⟩
end Go.Step
/- What an owned slice looks like; chunks that hold more. No conditions. -/
namespace Go.Eng
theorem OwnS.form {e:TypeId} {s n:Nat} {v:Value} {xs:List Value} {ρ:PH} (h:OwnS e s v n xs ρ):∃ p c,v = .slice p n c:=by
  obtain ⟨_,⟨rfl,rfl,_⟩ | ⟨b,cap,_,rfl,_⟩⟩:=h
  · exact ⟨none,0,rfl⟩
  · exact ⟨_,cap,rfl⟩
theorem OwnS.formP {e:TypeId} {s n:Nat} {v:Value} {xs:List Value} {ρ:PH} (h:OwnS e s v n xs ρ) (hn:0 < n):∃ b c,v = .slice (some ⟨b,0,none⟩) n c:=by
  obtain ⟨_,⟨_,h,_⟩ | ⟨b,cap,_,rfl,_⟩⟩:=h
  · omega
  · exact ⟨b,cap,rfl⟩
theorem SlAt.mono {ρ γ:PH} {s n:Nat} {v:Value} {xs:List Value} (h:SlAt ρ s v n xs) (hs:PH.sub ρ γ):SlAt γ s v n xs:=by
  obtain ⟨h1,h2 | ⟨b,o,c,e,h3⟩⟩:=h
  · exact ⟨h1,.inl h2⟩
  · exact ⟨h1,.inr ⟨b,o,c,e,fun j u hu=>hs.rdc (h3 j u hu)⟩⟩
theorem SlE.mono {α:Type} {enc:α → List Value} {s:Nat} {ρ γ:PH} {v:Value} {l:List α} (h:SlE enc s ρ v l) (hs:PH.sub ρ γ):SlE enc s γ v l:=SlAt.mono h hs
end Go.Eng
/- Arrays of small values: their elements' places, two of them built. No conditions. -/
namespace Go.Eng
variable {C:Cx} {R H:List PH} {L:Env} {dst:Option Tmp} {ty:TypeId} {pos:String} {aft:Array Edge} {g:Option (Nat × Bool)}
theorem GD {x y:Operand} {t e:TypeId} {b o n i:Nat} {k:IntKind} (h:evalE L x = some (.pointer (some ⟨b,o,none⟩))) (h2:evalE L y = some (.int k (i:Int))) (ht:C.P.underlying t = some (.array n e)) (hs:szP C.P e = some 1) (hn:i < n) :
    Quiet C R H L ⟨dst,.indexAddr t x y,ty,pos,aft,g⟩ (.pointer (some ⟨b,o + i,none⟩)):=
  ⟨by intro c; simp,fun a w hx _=>by
    simp [execOp,hx x (by simp [Op.operands]) _ h,hx y (by simp [Op.operands]) _ h2,Instr.indexAt,Instr.sureAddr,asIntOf,run_underlying ht,hn,run_sizeOf hs,Addr.add_lit]⟩
theorem GT {x y:Operand} {t e:TypeId} {b o n:Nat} {k:IntKind} (h:evalE L x = some (.pointer (some ⟨b,o,none⟩))) (h2:evalE L y = some (.int k 0)) (ht:C.P.underlying t = some (.array n e)) (hs:szP C.P e = some 1) (hn:0 < n) :
    Quiet C R H L ⟨dst,.indexAddr t x y,ty,pos,aft,g⟩ (.pointer (some ⟨b,o,none⟩)):=GD (i:=0) h h2 ht hs hn
theorem GU {x y:Operand} {t e:TypeId} {b o n:Nat} {k:IntKind} (h:evalE L x = some (.pointer (some ⟨b,o,none⟩))) (h2:evalE L y = some (.int k 1)) (ht:C.P.underlying t = some (.array n e)) (hs:szP C.P e = some 1) (hn:1 < n) :
    Quiet C R H L ⟨dst,.indexAddr t x y,ty,pos,aft,g⟩ (.pointer (some ⟨b,o + 1,none⟩)):=GD (i:=1) h h2 ht hs hn
theorem DC {x y:Operand} {t e:TypeId} {z0 z1 v0 v1:Value} (h:evalE L x = some v0) (h2:evalE L y = some v1) (ht:C.P.underlying t = some (.array 2 e)) (hs:szP C.P e = some 1) (hz:zeroP C.P t = some (.agg #[z0,z1])) (o0:v0.oneCell' = true) (o1:v1.oneCell' = true) :
    Quiet C R H L ⟨dst,.build t #[(0,x),(1,y)],ty,pos,aft,g⟩ (.agg #[v0,v1]):=
  ⟨by intro c; simp,fun a w hx _=>by
    have c0:v0.cells = #[v0]:=by cases v0 <;> first | rfl | simp [Value.oneCell'] at o0
    have c1:v1.cells = #[v1]:=by cases v1 <;> first | rfl | simp [Value.oneCell'] at o1
    have cz:(Value.agg #[z0,z1]).cells = #[z0,z1]:=rfl
    simp [execOp,hx x (by simp [Op.operands]) _ h,hx y (by simp [Op.operands]) _ h2,Instr.build,run_zeroValue hz,run_underlying ht,run_sizeOf hs,cz,Instr.fill,c0,c1]⟩
end Go.Eng
/- Building structs whose fields are structs. No conditions. -/
namespace Go.Eng
variable {C:Cx} {R H:List PH} {L:Env}
def placesP (P:Program):List Field → Option (List (Nat × Nat))
  | []=>some []
  | f :: fs=>match szP P f.type,placesP P fs with
    | some n,some r=>some ((f.offset,n) :: r)
    | _,_=>none
def evalPs (L:Env):List (Nat × Operand) → Option (List (Nat × Value))
  | []=>some []
  | (i,x) :: ps=>match evalE L x,evalPs L ps with
    | some v,some r=>some ((i,v) :: r)
    | _,_=>none
def fillL (pl:List (Nat × Nat)):List Value → List (Nat × Value) → Option (List Value)
  | zs,[]=>some zs
  | zs,(i,v) :: r=>match pl[i]? with
    | none=>none
    | some (off,size)=>if v.cells.size = size ∧ off + size ≤ zs.length then fillL pl (zs.take off ++ (v.cells.toList ++ zs.drop (off + size))) r else none
theorem fillL_eq {pl:List (Nat × Nat)}:∀ {pvs:List (Nat × Value)} {zs out:List Value},fillL pl zs pvs = some out → Instr.fill (fun i=>pl[i]?) zs.toArray pvs = some out.toArray
  | [],zs,out,h=>by simp [fillL] at h; subst h; rfl
  | (i,v) :: r,zs,out,h=>by
    unfold fillL at h;unfold Instr.fill

    split at h
    · simp at h
    · rename_i off size e
      rw [e]
      split at h
      · rename_i hc
        have ih:=fillL_eq h
        have hs:=splice_fold v.cells.toList 0 off zs.toArray (by simp; omega)
        simp only
        rw [if_neg (by simp; omega)]
        rw [← ih]
        congr 1
        apply Array.ext'
        simpa [← Array.toList_zipIdx,← hc.1] using hs
      · simp at h
theorem evalPs_eq {a:Act}:∀ {ps:List (Nat × Operand)} {pvs:List (Nat × Value)},evalPs L ps = some pvs → (∀ x ∈ ps.map (·.2),OnE L a x) → ps.map (fun (x:Nat × Operand)=>(x.1,a.eval x.2)) = pvs
  | [],pvs,h,_=>by simp [evalPs] at h; subst h; rfl
  | (i,x) :: ps,pvs,h,hx=>by
    unfold evalPs at h
    split at h
    · rename_i v r e1 e2
      simp at h; subst h
      rw [List.map_cons,evalPs_eq e2 (fun y hy=>hx y (by simp at hy ⊢; exact .inr hy)),hx x (by simp) v e1]
    · simp at h
theorem placesP_run {P:Program}:∀ (fs:List Field) (pl:List (Nat × Nat)) (w:World),placesP P fs = some pl → (fs.mapM (fun f=>Prod.mk f.offset <$> sizeOf f.type:Field → Sem (Nat × Nat))).run P w = .ok pl w
  | [],pl,w,h=>by simp [placesP] at h; subst h; simp
  | f :: fs,pl,w,h=>by
    unfold placesP at h
    split at h
    · rename_i n r e1 e2
      simp at h; subst h
      simp [List.mapM_cons,run_sizeOf e1,placesP_run fs r w e2]
    · simp at h
theorem DP {dst:Option Tmp} {ty:TypeId} {pos:String} {aft:Array Edge} {g:Option (Nat × Bool)} {t:TypeId} {ps:List (Nat × Operand)} {fs:List Field} {pl:List (Nat × Nat)} {pvs:List (Nat × Value)} {zs out:List Value}
    (hu:C.P.underlying t = some (.struct fs.toArray)) (hz:zeroP C.P t = some (.agg zs.toArray)) (hpl:placesP C.P fs = some pl) (hv:evalPs L ps = some pvs) (ho:fillL pl zs pvs = some out) :
    Quiet C R H L ⟨dst,.build t ps.toArray,ty,pos,aft,g⟩ (.agg out.toArray):=
  ⟨by intro c; simp,fun a w hxx _=>by
    have h1:=evalPs_eq (a:=a) hv (fun x hx=>hxx x (by simp [Op.operands] at hx ⊢; exact hx))
    have h2:=placesP_run fs pl w hpl
    have h3:=fillL_eq ho
    simp only [execOp,Instr.build]

    simp [run_zeroValue hz,Value.cells,run_underlying hu,h1,h2,h3]⟩
end Go.Eng
/- Free spans of contacts. -/
namespace Go.Proofs.YtphehihohghfoaaGreat
open Go.Eng Go.Step
set_option maxRecDepth 100000
set_option maxHeartbeats 4000000

theorem vok {qs:List Int} {cs:List Ct} {bs:List Bk} {hs:List Hd} {d:Dm} (h:validT qs cs bs hs d = true):VOk qs cs bs hs d:=by
 obtain ⟨hcs0,hbl,hok,hhl,hql,hquo,hdm,hcsl⟩:=valid_ok h
 obtain ⟨_,hb,hh⟩:=chkT_ok (of_decide_eq_true h).1
 exact ⟨fun c hc=>by
  have h1:=chkCt_all (hcs0 c hc).1
  have h2:=(hcs0 c hc).2
  exact ⟨⟨h1.1.1,by omega⟩,⟨h1.2.1.1,by omega⟩,h1.2.2.1,h1.2.2.2.1,h1.2.2.2.2⟩,hbl,(chkB_ok hb).2,hok,hhl,fit_of hh,hql,hquo,hdm,hcsl⟩
theorem vokB {qs:List Int} {cs:List Ct} {bs:List Bk} {hs:List Hd} {d:Dm} (h:validT qs cs bs hs d = true):chkB qs cs bs = 0:=(chkT_ok (of_decide_eq_true h).1).2.1
theorem bkCheck0_spec {ρ τ σ υ:PH} {pq pc pb ph:Option Addr} {kq kc kb kh:Nat} {qs:List Int} {cs:List Ct} {bs:List Bk} {hs:List Hd} (hT:TbAt ρ τ σ υ pq pc pb ph kq kc kb kh qs cs bs hs) (i:Nat) (h0:chkB qs cs bs = 0) (hi:i < cs.length) :
  Ans Tryz.prog (fv 152) [.agg #[.slice pq qs.length kq,.slice pc cs.length kc],.slice pb bs.length kb,int (i:Int)] [ρ,τ,σ] (fun r=>r = int 0):=by
 have hck:=bkCheck_spec ρ τ σ pq pc kq kc qs cs _ bs hT.hq hT.hc hT.hcap hT.lq hT.lc hT.hb hT.lb
 rw [h0] at hck
 refine spec_in (cap:=[]) Tryz.func152 rfl rfl Tryz.ntmps152 rfl envZ (fun N β=>?_)
 refine Aa ?_;refine BH (BK rfl) rfl rfl rfl ?_;rintro _ _ ⟨b3,rfl,rfl⟩;refine AR (ρ:=sng b3 _) takeZ ?_
 have c:=rdB b3 25 [.slice pq qs.length kq,.slice pc cs.length kc]
 have c0:=rdC c 0
 have c1:=rdC c 1
 refine Abn ?_;refine Abm ?_;refine AB ?_;refine A2 hck rfl rfl rdZ rfl rfl ?_;rintro _ rfl;refine Abc ?_;refine Aam ?_;refine AZ ?_;refine AB ?_;refine Aae ?_;refine AW ?_;refine BG ?_;refine Abe ?_;refine Aal ?_;exact AI (res1 rfl rfl) rsubZ selZ ⟨rfl,rfl⟩
theorem freeAdd_spec (bA bO:Nat) (a to:Int) (u:Value) (G:List (Int × Int)) (χ:PH) (hO:OwnS 93 2 u G.length (G.flatMap encS) χ) (hl:G.length ≤ 100000) :
  Eng.Spec Tryz.prog (.func (.func 165) #[] #[.pointer (some ⟨bA,0,none⟩),.pointer (some ⟨bO,0,none⟩)]) [int to] [] [sng bA (.cells #[int a] 3 (0,0)),sng bO (.cells #[u] 91 (0,0)),χ] (fun r H'=>r = .tuple #[] ∧ ∃ u' χ',H' = [sng bA (.cells #[int a] 3 (0,0)),sng bO (.cells #[u'] 91 (0,0)),χ'] ∧ OwnS 93 2 u' (G ++ if a < to then [(a,to)] else []).length ((G ++ if a < to then [(a,to)] else []).flatMap encS) χ'):=by
 have hone:∀ z n (xs:List Value) (χ:PH),OwnS 93 2 z n xs χ → z.oneCell' = true:=fun z n xs χ h=>by obtain ⟨_,_,rfl⟩:=h.form; rfl
 have hu:=hone _ _ _ _ hO
 refine spec_in (cap:=[.pointer (some ⟨bA,0,none⟩),.pointer (some ⟨bO,0,none⟩)]) Tryz.func165 rfl rfl Tryz.ntmps165 rfl envZ (fun N β=>?_)
 by_cases h:a < to
 ·rw [if_pos h]
  refine Ac1 ?_;refine BC ?_;refine Adg ?_;refine AF ?_;refine Aca ?_;refine BO ?_;refine BI ?_; rintro _ _ ⟨b,rfl,rfl⟩
  refine BH (B5 (by_:=16) (s:=2) (news:=[int a,int to]) rfl rfl rfl rfl rfl rfl rfl hO takeZ (cells_own memZ) rfl (by (repeat (first | exact (fun v hv=>absurd hv List.not_mem_nil) | (refine List.forall_mem_cons.2 ⟨?_,?_⟩; (focus (first | exact rfl | assumption))))); first | done | fail) (by omega) (by simp only [maxLen]; omega) (by omega)) rfl rfl rfl ?_
  rintro u1 _ ⟨χ1,hO1,rfl⟩
  have hu2:=hone _ _ _ _ hO1
  refine BD ?_; rintro _ _ ⟨rfl,rfl⟩;refine AE ?_;refine B8 (res0 rfl) rsubZ selZ ⟨rfl,u1,χ1,rfl,?_⟩;rw [List.length_append,List.flatMap_append];exact hO1
 ·rw [if_neg h,List.append_nil]
  refine Ac1 ?_;refine AZ ?_;refine Aai ?_;exact B8 (res0 rfl) rsubZ selZ ⟨rfl,u,χ,rfl,hO⟩
theorem gapsP_at {e:Int} {l:List (Int × Int)} {k:Nat} (h:k < l.length) (a:Int):gapsP e a (l.drop k) = (if a < l[k].1 then [(a,l[k].1)] else []) ++ gapsP e l[k].2 (l.drop (k + 1)):=by
 rw [List.drop_eq_getElem_cons h]
 rfl
set_option maxHeartbeats 32000000 in
theorem bkFree0_spec {ρ τ σ υ:PH} {pq pc pb ph:Option Addr} {kq kc kb kh:Nat} {qs:List Int} {cs:List Ct} {bs:List Bk} {hs:List Hd} (hT:TbAt ρ τ σ υ pq pc pb ph kq kc kb kh qs cs bs hs) (i:Nat) (x:Ct) (hx:cs[i]? = some x) (hb:firstE (bkE cs bs) bs.length = 0) (hbl:bs.length ≤ 512) :
  Makes Tryz.prog (fv 153) [.agg #[.slice pq qs.length kq,.slice pc cs.length kc],.slice pb bs.length kb,int (i:Int),int x.s] [ρ,τ,σ] (fun r χ=>OwnS 93 2 r (freeC cs bs i).length ((freeC cs bs i).flatMap encS) χ):=by
 have hbusy:=busy_spec σ _ bs i hT.hb (by omega)
 have hbi:=busy_in hb hx
 have hbp:=busy_apart hb i
 have hbll:=busyL_len bs i
 have hfc:freeC cs bs i = gapsP x.e x.s (busyL bs i):=by unfold freeC; rw [hx]
 have hgl:=gapsP_len x.e (busyL bs i) x.s
 have hone:∀ z n (xs:List Value) (χ:PH),OwnS 93 2 z n xs χ → z.oneCell' = true:=fun z n xs χ h=>by obtain ⟨_,_,rfl⟩:=h.form; rfl
 rw [hfc]
 have hi:=(List.getElem?_eq_some_iff.1 hx).1
 obtain ⟨bq,oq,e4,hrd⟩:=ctRow hT.rc hx
 refine spec_in (cap:=[]) Tryz.func153 rfl rfl Tryz.ntmps153 rfl envZ (fun N β=>?_)
 refine Aa ?_;refine BH (BK rfl) rfl rfl rfl ?_;rintro _ _ ⟨b3,rfl,rfl⟩;refine AR (ρ:=sng b3 _) takeZ ?_
 have c:=rdB b3 25 [.slice pq qs.length kq,.slice pc cs.length kc]
 have c0:=rdC c 0
 have c1:=rdC c 1
 refine BX ?_;subst e4;refine Ab1 ?_;refine AB ?_;refine Abk ?_;refine AX ?_; rintro _ _ ⟨b,rfl,rfl⟩;refine AV ?_; rintro _ _ ⟨rfl,rfl⟩;refine AE ?_;refine Aa ?_;refine BR ?_; rintro _ _ ⟨b,rfl,rfl⟩;refine AE ?_;refine Acf ?_;refine DY ?_;refine BR ?_; rintro _ _ ⟨b,rfl,rfl⟩;refine BD ?_; rintro _ _ ⟨rfl,rfl⟩;refine AE ?_;refine Aa ?_;refine BW ?_;refine Aab ?_;refine Ac ?_
 revert b; intro bA
 revert b; intro bO
 revert b; intro bC
 rw [show max x.s x.s = x.s by omega]
 refine AR (ρ:=sng bC _) takeZ ?_
 have g2:rdc (sng bC (.cells #[int x.f,int x.t,int x.s,int x.e,int x.r,int x.g,int x.l] 57 (0,0))) bC 3 = some (int x.e):=by rw [rdc_sng]; rfl
 refine BZ hbusy rfl rfl rdZ rfl rfl ?_;rintro w χb hOb
 have hSb:=hOb.at
 obtain ⟨pw,kw,rfl⟩:=hOb.form
 obtain ⟨_,_,ew,hrw⟩:=SlE.val (enc:=encS) encS_len (show SlE encS 2 χb _ (busyL bs i) from hSb)
 simp only [Value.slice.injEq] at ew
 obtain ⟨rfl,_,rfl⟩:=ew
 refine AR (ρ:=χb) takeZ ?_
 generalize busyL bs i = L at hbi hbp hbll hOb hSb hrw hgl
 refine Abh ?_
 refine BA [2,12,27,28,9,10,11] (X:=Nat × Int × List (Int × Int) × Value × PH) (0,x.s,[],.slice none 0 0,emp) (fun z=>z.1 ≤ L.length ∧ (∀ y ∈ L.drop z.1,z.2.1 ≤ y.1) ∧ gapsP x.e x.s L = z.2.2.1 ++ gapsP x.e z.2.1 (L.drop z.1) ∧ OwnS 93 2 z.2.2.2.1 z.2.2.1.length (z.2.2.1.flatMap encS) z.2.2.2.2) (fun z=>[(29,int z.1)]) (fun z=>[sng bA (.cells #[int z.2.1] 3 (0,0)),sng bO (.cells #[z.2.2.2.1] 91 (0,0)),z.2.2.2.2]) (fun z=>L.length - z.1) pickZ ⟨by dsimp only; omega,fun y hy=>by rw [List.drop_zero] at hy; exact (hbi y hy).1,rfl,OwnS.nil _ _⟩ covZ selZ ?_
 rintro ⟨k,a,G,u,χ⟩ ⟨hk,ha,hG,hO⟩
 dsimp only at hk ha hG hO ⊢
 have hGl:G.length ≤ L.length + 1:=by
  have:=congrArg List.length hG
  rw [List.length_append] at this;omega
 by_cases hlt:k < L.length
 ·have hy:=List.getElem?_eq_getElem hlt
  have hga:=gapsP_at (e:=x.e) hlt a
  have hmem:=List.getElem_mem hlt
  have hin:=hbi _ hmem
  have hak:=ha L[k] (by rw [List.drop_eq_getElem_cons hlt]; exact List.mem_cons_self)
  have hpk:∀ y ∈ L.drop (k + 1),L[k].2 ≤ y.1:=fun y hy=>by
   have h1:=List.Pairwise.sublist (List.drop_sublist k L) hbp
   rw [List.drop_eq_getElem_cons hlt] at h1;exact (List.pairwise_cons.1 h1).1 y hy
  obtain ⟨b6,o6,rfl,hRd6,y0,y1⟩:=spRow hrw hy
  generalize L[k] = y at hy hga hin hak hpk hRd6 y0 y1
  have hadd:=freeAdd_spec bA bO a y.1 u G χ hO (by omega)
  refine Ab2 ?_;refine AX ?_; rintro _ _ ⟨b,rfl,rfl⟩;refine AV ?_; rintro _ _ ⟨rfl,rfl⟩;refine Ade ?_;refine Aac ?_
  revert b; intro b14
  refine BE hadd rfl rfl takesZ rdZ rfl rfl ?_;rintro _ _ ⟨rfl,u',χ',rfl,hO'⟩
  have hmx:max a y.2 = y.2:=by omega
  refine Ady ?_;refine AF ?_;refine Aac ?_;refine DY ?_
  focus ((rw [hmx]))
  refine BD ?_; rintro _ _ ⟨rfl,rfl⟩;refine Adr ?_
  refine AY (k + 1,y.2,G ++ (if a < y.1 then [(a,y.1)] else []),u',χ') ⟨by dsimp only; omega,hpk,?_,hO'⟩ (by dsimp only; omega) covZ selZ
  dsimp only
  rw [hG,hga,List.append_assoc]
 ·have hke:k = L.length:=by omega
  subst hke
  have hadd:=freeAdd_spec bA bO a x.e u G χ hO (by omega)
  have hfin:gapsP x.e x.s L = G ++ (if a < x.e then [(a,x.e)] else []):=by
   rw [hG,List.drop_length]
   rfl
  rw [hfin];refine Abr ?_;refine Aad ?_;refine Aac ?_;refine BE hadd rfl rfl takesZ rdZ rfl rfl ?_;rintro _ _ ⟨rfl,u',χ',rfl,hO'⟩;refine AE ?_;refine Abd ?_;refine Aab ?_;exact AI (res1 rfl rfl) rsubZ selZ ⟨χ',hO',rfl⟩
theorem bkFree_spec {ρ τ σ υ:PH} {pq pc pb ph:Option Addr} {kq kc kb kh:Nat} {qs:List Int} {cs:List Ct} {bs:List Bk} {hs:List Hd} (hT:TbAt ρ τ σ υ pq pc pb ph kq kc kb kh qs cs bs hs) (i:Nat) (x:Ct) (hx:cs[i]? = some x) (h0:chkB qs cs bs = 0) :
  Makes Tryz.prog (fv 136) [.agg #[.slice pq qs.length kq,.slice pc cs.length kc],.slice pb bs.length kb,int (i:Int)] [ρ,τ,σ] (fun r χ=>∃ u,r = .tuple #[u,int 0] ∧ OwnS 93 2 u (freeC cs bs i).length ((freeC cs bs i).flatMap encS) χ):=by
 obtain ⟨hbl,hb⟩:=chkB_ok h0
 have hck:=bkCheck0_spec hT i h0 (List.getElem?_eq_some_iff.1 hx).1
 have hfr:=bkFree0_spec hT i x hx hb hbl
 have hi:=(List.getElem?_eq_some_iff.1 hx).1
 obtain ⟨bq,oq,e4,hrd⟩:=ctRow hT.rc hx
 have g2:rdc τ bq (oq + i * 7 + 2) = some (int x.s):=hrd.get (j:=2) rfl
 refine spec_in (cap:=[]) Tryz.func136 rfl rfl Tryz.ntmps136 rfl envZ (fun N β=>?_)
 refine Aa ?_;refine BH (BK rfl) rfl rfl rfl ?_;rintro _ _ ⟨b3,rfl,rfl⟩;refine AR (ρ:=sng b3 _) takeZ ?_
 have c:=rdB b3 25 [.slice pq qs.length kq,.slice pc cs.length kc]
 have c0:=rdC c 0
 have c1:=rdC c 1
 subst e4;refine Aan ?_;refine AC ?_;refine Abm ?_;refine Aaz ?_;refine A2 hck rfl rfl rdZ rfl rfl ?_;rintro _ rfl;refine Aa7 ?_;refine Ad3 ?_
 refine A5 (.q 0 (.q 1 (.q 2 (.q 3 (.q 4 (.q 5 (.q 6 (.q 7 (.q 8 (.l 9 .e (.q 10 (.q 11 .nil)))))))))))) [] rfl (by kernel_rfl) Sel.nil ?_
 refine BN ?_;refine Aa8 ?_;refine Aar ?_;refine AS ?_;refine BJ ?_;refine Acb ?_;refine CP (DF rfl hfr rfl rfl rdZ rfl rfl ?_);rintro u _ ⟨χ,hO,rfl⟩;refine BT ?_;refine Adx ?_
 skip
 exact AI (res2 rfl rfl rfl) rsubZ selZ ⟨χ,⟨u,rfl,hO⟩,rfl⟩
end Go.Proofs.YtphehihohghfoaaGreat
/- The network made. -/
namespace Go.Proofs.YtphehihohghfoaaGreat
open Go.Eng Go.Step
set_option maxRecDepth 100000
set_option maxHeartbeats 4000000

theorem exValid_spec {ρ τ σ υ:PH} {pq pc pb ph:Option Addr} {kq kc kb kh:Nat} {qs:List Int} {cs:List Ct} {bs:List Bk} {hs:List Hd} (hT:TbAt ρ τ σ υ pq pc pb ph kq kc kb kh qs cs bs hs) (d:Dm) :
  Ans Tryz.prog (fv 98) [.agg #[.slice pq qs.length kq,.slice pc cs.length kc,.slice pb bs.length kb,.slice ph hs.length kh],.agg #[int d.s,int d.d,int d.v,int d.r,int d.e]] [ρ,τ,σ,υ] (fun r=>r = .bool (validT qs cs bs hs d)):=by
 refine spec_in (cap:=[]) Tryz.func98 rfl rfl Tryz.ntmps98 rfl envZ (fun N β=>?_)
 refine Aa ?_;refine BH (BK rfl) rfl rfl rfl ?_;rintro _ _ ⟨b1,rfl,rfl⟩;refine AR (ρ:=sng b1 _) takeZ ?_
 have ct:=rdB b1 29 [.slice pq qs.length kq,.slice pc cs.length kc,.slice pb bs.length kb,.slice ph hs.length kh]
 have ct0:=rdC ct 0
 have ct1:=rdC ct 1
 have ct2:=rdC ct 2
 have ct3:=rdC ct 3
 have ctp:RdP (sng b1 (.cells #[.slice pq qs.length kq,.slice pc cs.length kc,.slice pb bs.length kb,.slice ph hs.length kh] 29 (0,0))) b1 0 [.slice pq qs.length kq,.slice pc cs.length kc]:=rdP_sng (xs:=[.slice pq qs.length kq,.slice pc cs.length kc,.slice pb bs.length kb,.slice ph hs.length kh]) rfl
 refine BH (BK rfl) rfl rfl rfl ?_;rintro _ _ ⟨b2,rfl,rfl⟩;refine AR (ρ:=sng b2 _) takeZ ?_
 have cd:=rdB b2 31 [int d.s,int d.d,int d.v,int d.r,int d.e]
 have cd0:=rdC cd 0
 have cd1:=rdC cd 1
 have cd2:=rdC cd 2
 have cd3:=rdC cd 3
 have cd4:=rdC cd 4
 refine Aab ?_;refine Ac0 ?_;refine Ac8 ?_;refine Abn ?_;refine Abm ?_;refine A2 (chkTab_spec hT) rfl rfl rdZ rfl rfl ?_;rintro _ rfl
 by_cases h0:chkT qs cs bs hs = 0
 rotate_left
 ·have hv:validT qs cs bs hs d = false:=decide_eq_false (fun h=>h0 h.1)
  rw [hv]
  generalize chkT qs cs bs hs = z at h0
  refine CF ?_;refine Abv ?_;refine Acr ?_;refine Abv ?_;refine Acr ?_;refine Aed ?_;refine Aa5 ?_;exact AI (res1 rfl rfl) rsubZ selZ ⟨rfl,rfl⟩
 rw [h0]
 have hbad:¬ okDm qs.length d → validT qs cs bs hs d = false:=fun h=>decide_eq_false (fun k=>h k.2)
 by_cases hs1:0 ≤ d.s
 rotate_left
 ·rw [hbad (fun h=>by unfold okDm at h; omega)]
  refine Adh ?_;refine BC ?_;refine AJ ?_;refine Acr ?_;refine Abv ?_;refine Acr ?_;refine Aed ?_;refine Aa5 ?_;exact AI (res1 rfl rfl) rsubZ selZ ⟨rfl,rfl⟩
 by_cases hs2:d.s < (qs.length:Int)
 rotate_left
 ·rw [hbad (fun h=>by unfold okDm at h; omega)]
  refine Adh ?_;refine Abl ?_;refine AB ?_;refine CC ?_;refine AJ ?_;refine Abv ?_;refine Acr ?_;refine Aed ?_;refine Aa5 ?_;exact AI (res1 rfl rfl) rsubZ selZ ⟨rfl,rfl⟩
 by_cases hd1:0 ≤ d.d
 rotate_left
 ·rw [hbad (fun h=>by unfold okDm at h; omega)]
  refine Adu ?_;refine BC ?_;refine AJ ?_;refine Acr ?_;refine Aed ?_;refine Aa5 ?_;exact AI (res1 rfl rfl) rsubZ selZ ⟨rfl,rfl⟩
 by_cases hd2:d.d < (qs.length:Int)
 rotate_left
 ·rw [hbad (fun h=>by unfold okDm at h; omega)]
  refine Adu ?_;refine Abl ?_;refine AB ?_;refine CC ?_;refine AJ ?_;refine Aed ?_;refine Aa5 ?_;exact AI (res1 rfl rfl) rsubZ selZ ⟨rfl,rfl⟩
 by_cases h3:d.s ≠ d.d
 rotate_left
 ·rw [hbad (fun h=>by unfold okDm at h; omega)]
  refine Adu ?_;refine Acp ?_;refine CI ?_;refine Ad1 ?_;exact AI (res1 rfl rfl) rsubZ selZ ⟨rfl,rfl⟩
 by_cases h4:1 ≤ d.v
 rotate_left
 ·rw [hbad (fun h=>by unfold okDm at h; omega)]
  refine Adu ?_;refine Ac4 ?_;refine Adc ?_;refine BG ?_;refine Ads ?_;refine Ads ?_;refine Ab6 ?_;refine AJ ?_;refine Ads ?_;refine Ael ?_;exact AI (res1 rfl rfl) rsubZ selZ ⟨rfl,rfl⟩
 by_cases h5:d.v ≤ 1099511627776
 rotate_left
 ·rw [hbad (fun h=>by unfold okDm at h; omega)]
  refine Adu ?_;refine Ac4 ?_;refine Ad6 ?_;refine Aae ?_;refine CN ?_;refine AL ?_;refine Ads ?_;refine Ab6 ?_;refine AJ ?_;refine Ads ?_;refine Ael ?_;exact AI (res1 rfl rfl) rsubZ selZ ⟨rfl,rfl⟩
 by_cases h6:0 ≤ d.r
 rotate_left
 ·rw [hbad (fun h=>by unfold okDm at h; omega)]
  refine Adu ?_;refine Ac4 ?_;refine Ad6 ?_;refine Aae ?_;refine CJ ?_;refine Acj ?_;refine BG ?_;refine AL ?_;refine Ab6 ?_;refine AJ ?_;refine Ads ?_;refine Ael ?_;exact AI (res1 rfl rfl) rsubZ selZ ⟨rfl,rfl⟩
 by_cases h7:d.r < d.e
 rotate_left
 ·rw [hbad (fun h=>by unfold okDm at h; omega)]
  refine Adu ?_;refine Ac4 ?_;refine Ad6 ?_;refine Aae ?_;refine CJ ?_;refine Acj ?_;refine CC ?_;refine Ac7 ?_;refine AZ ?_;refine AL ?_;refine Ads ?_;refine Ael ?_;exact AI (res1 rfl rfl) rsubZ selZ ⟨rfl,rfl⟩
 by_cases h8:d.e ≤ 1099511627776
 rotate_left
 ·rw [hbad (fun h=>by unfold okDm at h; omega)]
  refine Adu ?_;refine Ac4 ?_;refine Ad6 ?_;refine Aae ?_;refine CJ ?_;refine Acj ?_;refine CC ?_;refine Ac7 ?_;refine BC ?_;refine Acj ?_;refine CN ?_;refine AL ?_;refine Ael ?_;exact AI (res1 rfl rfl) rsubZ selZ ⟨rfl,rfl⟩
 by_cases h9:d.e - d.r ≤ 100
 rotate_left
 ·rw [hbad (fun h=>by unfold okDm at h; omega)]
  refine Adu ?_;refine Ac4 ?_;refine Ad6 ?_;refine Aae ?_;refine CJ ?_;refine Acj ?_;refine CC ?_;refine Ac7 ?_;refine BC ?_;refine Acj ?_;refine CJ ?_;refine Ac7 ?_;refine CY ?_;refine CN ?_;refine Ab3 ?_;exact AI (res1 rfl rfl) rsubZ selZ ⟨rfl,rfl⟩
 have hv:validT qs cs bs hs d = true:=decide_eq_true ⟨h0,by unfold okDm; omega⟩
 rw [hv];refine Adu ?_;refine Ac4 ?_;refine Ad6 ?_;refine Aae ?_;refine CJ ?_;refine Acj ?_;refine CC ?_;refine Ac7 ?_;refine BC ?_;refine Acj ?_;refine CJ ?_;refine Ac7 ?_;refine CY ?_;refine CJ ?_;refine Ab3 ?_;exact AI (res1 rfl rfl) rsubZ selZ ⟨rfl,rfl⟩
set_option maxHeartbeats 32000000 in
theorem build_spec {ρ τ σ υ:PH} {pq pc pb ph:Option Addr} {kq kc kb kh:Nat} {qs:List Int} {cs:List Ct} {bs:List Bk} {hs:List Hd} (hT:TbAt ρ τ σ υ pq pc pb ph kq kc kb kh qs cs bs hs) (d:Dm) :
  Eng.Spec Tryz.prog (fv 61) [.agg #[.slice pq qs.length kq,.slice pc cs.length kc,.slice pb bs.length kb,.slice ph hs.length kh],.agg #[int d.s,int d.d,int d.v,int d.r,int d.e]] [ρ,τ,σ,υ] [] (fun r H'=>(validT qs cs bs hs d = false ∧ r = .tuple #[.pointer none,.bool false] ∧ H' = []) ∨ (validT qs cs bs hs d = true ∧ ∃ bw bm u χ M,r = .tuple #[.pointer (some ⟨bw,0,none⟩),.bool true] ∧ H' = [sng bw (.cells #[.slice pq qs.length kq,.slice pc cs.length kc,.slice pb bs.length kb,.slice ph hs.length kh,int d.s,int d.d,int d.v,int d.r,int d.e,u,.map (some bm)] 134 (0,0)),sng bm (mapS M),χ] ∧ OwnS 130 2 u (placesA d qs.length).length ((placesA d qs.length).flatMap encS) χ ∧ NumAt d qs.length d.r M)):=by
 have hval:=exValid_spec hT d
 have hone:∀ z n (xs:List Value) (χ:PH),OwnS 130 2 z n xs χ → z.oneCell' = true:=fun z n xs χ h=>by obtain ⟨_,_,rfl⟩:=h.form; rfl
 refine spec_in (cap:=[]) Tryz.func61 rfl rfl Tryz.ntmps61 rfl envZ (fun N β=>?_)
 refine Aa ?_;refine BH (BK rfl) rfl rfl rfl ?_;rintro _ _ ⟨b1,rfl,rfl⟩;refine AR (ρ:=sng b1 _) takeZ ?_
 have ct:=rdB b1 29 [.slice pq qs.length kq,.slice pc cs.length kc,.slice pb bs.length kb,.slice ph hs.length kh]
 have ct0:=rdC ct 0
 have ct1:=rdC ct 1
 have ct2:=rdC ct 2
 have ct3:=rdC ct 3
 have ctp:RdP (sng b1 (.cells #[.slice pq qs.length kq,.slice pc cs.length kc,.slice pb bs.length kb,.slice ph hs.length kh] 29 (0,0))) b1 0 [.slice pq qs.length kq,.slice pc cs.length kc]:=rdP_sng (xs:=[.slice pq qs.length kq,.slice pc cs.length kc,.slice pb bs.length kb,.slice ph hs.length kh]) rfl
 refine BH (BK rfl) rfl rfl rfl ?_;rintro _ _ ⟨b2,rfl,rfl⟩;refine AR (ρ:=sng b2 _) takeZ ?_
 have cd:=rdB b2 31 [int d.s,int d.d,int d.v,int d.r,int d.e]
 have cd0:=rdC cd 0
 have cd1:=rdC cd 1
 have cd2:=rdC cd 2
 have cd3:=rdC cd 3
 have cd4:=rdC cd 4
 refine Aan ?_;refine AC ?_;refine Ab0 ?_;refine A2 hval rfl rfl rdZ rfl rfl ?_;rintro _ rfl
 cases hv:validT qs cs bs hs d with
 | false =>
  refine Ac2 ?_;refine Acc ?_;exact AI (res2 rfl rfl rfl) rsubZ selZ (.inl ⟨rfl,rfl,rfl⟩)
 | true =>
 have h:=vok hv
 have hdm:=h.dm
 unfold okDm at hdm
 have hnq:=h.nq
 refine BX ?_;refine Ab4 ?_;refine Ab0 ?_
 focus ((refine' BH _ rfl rfl rfl _; rotate_left; (exact E8); rintro _ _ ⟨b,rfl,rfl⟩))
 revert b; intro bm
 refine CD (DP (out:=[.slice pq qs.length kq,.slice pc cs.length kc,.slice pb bs.length kb,.slice ph hs.length kh,int d.s,int d.d,int d.v,int d.r,int d.e,.slice none 0 0,.map (some bm)]) rfl rfl rfl rfl rfl) rfl rfl rfl ?_;refine CA ?_; rintro _ _ ⟨b,rfl,rfl⟩;refine Abn ?_;refine Ac0 ?_;refine Aac ?_;refine Abh ?_
 revert b; intro bw
 refine BA [2,3,6,22] (X:=Nat × Value × PH × List (List Int × Value)) (0,.slice none 0 0,emp,[]) (fun x=>x.1 ≤ qs.length ∧ OwnS 130 2 x.2.1 (placesA d x.1).length ((placesA d x.1).flatMap encS) x.2.2.1 ∧ NumAt d x.1 d.r x.2.2.2) (fun x=>[(23,int x.1)]) (fun x=>[sng bw (.cells #[.slice pq qs.length kq,.slice pc cs.length kc,.slice pb bs.length kb,.slice ph hs.length kh,int d.s,int d.d,int d.v,int d.r,int d.e,x.2.1,.map (some bm)] 134 (0,0)),sng bm (mapS x.2.2.2),x.2.2.1]) (fun x=>qs.length - x.1) pickZ ⟨by dsimp only; omega,OwnS.nil _ _,NumAt.nil d⟩ covZ selZ ?_
 rintro ⟨k,u,χ,M⟩ ⟨hk,hO,hM⟩
 dsimp only at hk hO hM ⊢
 by_cases hlt:k < qs.length
 rotate_left
 ·have hke:k = qs.length:=by omega
  subst hke;refine Abr ?_;refine Adn ?_;exact AI (res2 rfl rfl rfl) rsubZ selZ (.inr ⟨rfl,bw,bm,u,χ,M,rfl,rfl,hO,hM⟩)
 refine Aa4 ?_;refine Abt ?_;refine Aao ?_;refine Aab ?_;refine AP ?_
 refine BA [2,3,6,7,22,23] (X:=Int × Value × PH × List (List Int × Value)) (d.r,u,χ,M) (fun x=>d.r ≤ x.1 ∧ x.1 ≤ d.e + 1 ∧ OwnS 130 2 x.2.1 (placesA d k ++ placesN d k x.1).length ((placesA d k ++ placesN d k x.1).flatMap encS) x.2.2.1 ∧ NumAt d k x.1 x.2.2.2) (fun x=>[(8,int x.1)]) (fun x=>[sng bw (.cells #[.slice pq qs.length kq,.slice pc cs.length kc,.slice pb bs.length kb,.slice ph hs.length kh,int d.s,int d.d,int d.v,int d.r,int d.e,x.2.1,.map (some bm)] 134 (0,0)),sng bm (mapS x.2.2.2),x.2.2.1]) (fun x=>(d.e + 1 - x.1).toNat) pickZ ⟨by dsimp only; omega,by dsimp only; omega,by dsimp only; rw [placesN_nil,List.append_nil]; exact hO,hM⟩ covZ selZ ?_
 rintro ⟨t,u2,χ2,M2⟩ ⟨ht1,ht2,hO2,hM2⟩
 dsimp only at ht1 ht2 hO2 hM2 ⊢
 by_cases hte:t ≤ d.e
 rotate_left
 ·have hte2:t = d.e + 1:=by omega
  subst hte2;refine Aam ?_;refine Aac ?_;refine CN ?_;refine Ad ?_;refine Aa2 ?_
  exact AY (k + 1,u2,χ2,M2) ⟨by dsimp only; omega,hO2,by dsimp only; exact hM2.row (by omega)⟩ (by dsimp only; omega) covZ selZ
 have hlen:=places_at (d:=d) (by omega) (k:=k) ht1
 have hvt:=vtx_lt (d:=d) (n:=k) (t:=t) (N:=16) (by omega) (by omega) ht1 hte
 have hvb:vtx d k t < 1616:=by
  have hw:=h.wd
  have:=Int.mul_le_mul_of_nonneg_left hw.2 (show (0:Int) ≤ ((16:Nat):Int) by omega)
  omega
 have hsn:=placesN_snoc (k:=k) ht1
 have hadd:=hM2.add (by omega) ht1 hte
 have hMl:=hM2.1
 obtain ⟨pu,ku,rfl⟩:=hO2.form
 have hflat:(placesA d k ++ placesN d k (t + 1)) = (placesA d k ++ placesN d k t) ++ [((k:Int),t)]:=by rw [hsn,List.append_assoc]
 generalize placesA d k ++ placesN d k t = P at hlen hO2 hflat
 refine Aam ?_;refine Aac ?_;refine CJ ?_;refine Ack ?_;refine Abp ?_;refine BO ?_;refine AX ?_; rintro _ _ ⟨b,rfl,rfl⟩;refine AV ?_; rintro _ _ ⟨rfl,rfl⟩;refine Aaj ?_
 revert b; intro b9
 refine A5 (.q 0 (.q 1 (.q 2 (.q 3 (.q 4 (.q 5 (.q 6 (.q 7 (.q 8 (.q 9 (.l 10 .b .nil))))))))))) [] rfl (by kernel_rfl) Sel.nil ?_
 refine Acd ?_;refine BN ?_;refine Acd ?_;refine DX ?_;rw [hlen];refine CP ?_
 refine' FX rfl (EM 2 [(k:Int),t] (v:=int (vtx d k t)) (l:=M2) rfl rfl rfl rfl ⟨by kernel_rfl,by kernel_rfl⟩ rfl hMl takeZ) rfl rfl _ _
 ·rintro _ _ ⟨_,rfl⟩ w hw; exact hw.sel Sel.nil
 rintro _ _ ⟨rfl,rfl⟩;refine A6 ?_
 skip
 refine A5 (.p 0 (.q 1 (.q 2 (.q 3 (.q 4 (.q 5 (.l 6 .e (.l 7 .b (.q 8 (.q 9 (.l 10 .b .nil))))))))))) [] rfl (by kernel_rfl) Sel.nil ?_
 refine FK ?_;refine Acd ?_;refine BN ?_;refine B0 ?_; rintro _ _ ⟨b,rfl,rfl⟩
 refine CP (a_b rfl (B5 (by_:=16) (s:=2) (news:=[int (k:Int),int t]) rfl rfl rfl rfl rfl rfl rfl hO2 takeZ (cells_own memZ) rfl (by (repeat (first | exact (fun v hv=>absurd hv List.not_mem_nil) | (refine List.forall_mem_cons.2 ⟨?_,?_⟩; (focus (first | exact rfl | assumption))))); first | done | fail) (by omega) (by simp only [maxLen]; omega) (by omega)) rfl rfl rfl (fun _ _ _ w hw=>hw.sel Sel.nil) ?_)
 rintro u3 _ ⟨χ3,hO3,rfl⟩
 have hu3:=hone _ _ _ _ hO3
 refine Ac5 ?_;refine DB ?_; rintro _ _ ⟨rfl,rfl⟩;refine A6 ?_;refine Acg ?_;refine Ad4 ?_
 refine AY (t + 1,u3,χ3,_) ⟨by dsimp only; omega,by dsimp only; omega,?_,hadd⟩ (by dsimp only; omega) covZ selZ
 dsimp only
 rw [hflat,List.length_append,List.flatMap_append];exact hO3
end Go.Proofs.YtphehihohghfoaaGreat
/- Inside a region that draws its order: the chunks in another order. No conditions. -/
namespace Go.Eng
variable {C:Cx} {D:List Deferred} {R H Hf:List PH} {L:Env} {K:List It} {ps ls:List Nat}
theorem Quiet.perm {H':List PH} {o:Oper} {v:Value} (hp:H'.Perm H) (h:Quiet C R H L o v):Quiet C R H' L o v:=⟨h.1,fun a w hx hs=>h.2 a w hx (hs.perm hp)⟩
theorem EC {H':List PH} {all:Array Oper} {done:List Nat} {plan:Pl} (hp:H.Perm H') (h:DJ C D R Hf H' L all done ps ls plan K):DJ C D R Hf H L all done ps ls plan K:=by
  refine ⟨fun hpl fuel listed a w hinv=>h.run hpl fuel listed a w ⟨hinv.size,hinv.dc,hinv.sub,hinv.fuel,hinv.tm,hinv.df,hinv.sat.perm hp,hinv.get,fun i hi hn=>?_,fun w hw=>hinv.hf w (hw.perm hp.symm),hinv.lds,hinv.data,hinv.uniq,hinv.chron⟩⟩
  obtain ⟨o,d,v,h1,h2,h3,h4,h5⟩:=hinv.prom i hi hn
  refine ⟨o,d,v,h1,h2,h3,h4,?_⟩
  rcases h5 with ⟨k1,k2⟩ | k
  · refine .inl ⟨k1,?_⟩
    split at k2
    · rename_i c; rw [if_pos c]; exact k2
    · rename_i c; rw [if_neg c]; exact k2.perm hp.symm
  · exact .inr k
end Go.Eng
/- Room, and the ticks of contacts. -/
namespace Go.Proofs.YtphehihohghfoaaGreat
open Go.Eng Go.Step
set_option maxRecDepth 100000
set_option maxHeartbeats 4000000

set_option maxHeartbeats 16000000 in
theorem exRoom_spec {ρ τ σ υ:PH} {pq pc pb ph:Option Addr} {kq kc kb kh:Nat} {qs:List Int} {cs:List Ct} {bs:List Bk} {hs:List Hd} (hT:TbAt ρ τ σ υ pq pc pb ph kq kc kb kh qs cs bs hs) (bw bm:Nat) (u:Value) (d:Dm) (h:VOk qs cs bs hs d) (nn:Nat) (t:Int) (hnl:nn < qs.length) :
  Ans Tryz.prog (fv 103) [.pointer (some ⟨bw,0,none⟩),.agg #[int (nn:Int),int t]] [sng bw (.cells #[.slice pq qs.length kq,.slice pc cs.length kc,.slice pb bs.length kb,.slice ph hs.length kh,int d.s,int d.d,int d.v,int d.r,int d.e,u,.map (some bm)] 134 (0,0)),ρ,τ,σ,υ] (fun r=>r = int (roomT qs hs d nn t)):=by
 have hr:=hT.rh
 have hQ:=List.getElem?_eq_getElem hnl
 have hQb:=h.quo _ _ hQ
 have hok:=h.hd
 have hl:=h.nh
 have hR:roomT qs hs d nn t = if (nn:Int) = d.s ∨ (nn:Int) = d.d then 1099511627776 else qs[nn] - Step.stored hs nn t:=by
  unfold roomT;rw [Int.toNat_natCast,List.getD_eq_getElem?_getD,hQ,Option.getD_some]
 rw [hR]
 generalize qs[nn] = Q at hQ hQb
 have w0:rdc (sng bw (.cells #[.slice pq qs.length kq,.slice pc cs.length kc,.slice pb bs.length kb,.slice ph hs.length kh,int d.s,int d.d,int d.v,int d.r,int d.e,u,.map (some bm)] 134 (0,0))) bw 0 = some (.slice pq qs.length kq):=by rw [rdc_sng]; rfl
 have w1:rdc (sng bw (.cells #[.slice pq qs.length kq,.slice pc cs.length kc,.slice pb bs.length kb,.slice ph hs.length kh,int d.s,int d.d,int d.v,int d.r,int d.e,u,.map (some bm)] 134 (0,0))) bw 1 = some (.slice pc cs.length kc):=by rw [rdc_sng]; rfl
 have w2:rdc (sng bw (.cells #[.slice pq qs.length kq,.slice pc cs.length kc,.slice pb bs.length kb,.slice ph hs.length kh,int d.s,int d.d,int d.v,int d.r,int d.e,u,.map (some bm)] 134 (0,0))) bw 2 = some (.slice pb bs.length kb):=by rw [rdc_sng]; rfl
 have w3:rdc (sng bw (.cells #[.slice pq qs.length kq,.slice pc cs.length kc,.slice pb bs.length kb,.slice ph hs.length kh,int d.s,int d.d,int d.v,int d.r,int d.e,u,.map (some bm)] 134 (0,0))) bw 3 = some (.slice ph hs.length kh):=by rw [rdc_sng]; rfl
 have w4:rdc (sng bw (.cells #[.slice pq qs.length kq,.slice pc cs.length kc,.slice pb bs.length kb,.slice ph hs.length kh,int d.s,int d.d,int d.v,int d.r,int d.e,u,.map (some bm)] 134 (0,0))) bw 4 = some (int d.s):=by rw [rdc_sng]; rfl
 have w5:rdc (sng bw (.cells #[.slice pq qs.length kq,.slice pc cs.length kc,.slice pb bs.length kb,.slice ph hs.length kh,int d.s,int d.d,int d.v,int d.r,int d.e,u,.map (some bm)] 134 (0,0))) bw 5 = some (int d.d):=by rw [rdc_sng]; rfl
 have w6:rdc (sng bw (.cells #[.slice pq qs.length kq,.slice pc cs.length kc,.slice pb bs.length kb,.slice ph hs.length kh,int d.s,int d.d,int d.v,int d.r,int d.e,u,.map (some bm)] 134 (0,0))) bw 6 = some (int d.v):=by rw [rdc_sng]; rfl
 have w7:rdc (sng bw (.cells #[.slice pq qs.length kq,.slice pc cs.length kc,.slice pb bs.length kb,.slice ph hs.length kh,int d.s,int d.d,int d.v,int d.r,int d.e,u,.map (some bm)] 134 (0,0))) bw 7 = some (int d.r):=by rw [rdc_sng]; rfl
 have w8:rdc (sng bw (.cells #[.slice pq qs.length kq,.slice pc cs.length kc,.slice pb bs.length kb,.slice ph hs.length kh,int d.s,int d.d,int d.v,int d.r,int d.e,u,.map (some bm)] 134 (0,0))) bw 8 = some (int d.e):=by rw [rdc_sng]; rfl
 have w9:rdc (sng bw (.cells #[.slice pq qs.length kq,.slice pc cs.length kc,.slice pb bs.length kb,.slice ph hs.length kh,int d.s,int d.d,int d.v,int d.r,int d.e,u,.map (some bm)] 134 (0,0))) bw 9 = some (u):=by rw [rdc_sng]; rfl
 have w10:rdc (sng bw (.cells #[.slice pq qs.length kq,.slice pc cs.length kc,.slice pb bs.length kb,.slice ph hs.length kh,int d.s,int d.d,int d.v,int d.r,int d.e,u,.map (some bm)] 134 (0,0))) bw 10 = some (.map (some bm)):=by rw [rdc_sng]; rfl
 refine spec_in (cap:=[]) Tryz.func103 rfl rfl Tryz.ntmps103 rfl envZ (fun N β=>?_)
 refine Aa ?_;refine BH (BK rfl) rfl rfl rfl ?_;rintro _ _ ⟨b3,rfl,rfl⟩;refine AR (ρ:=sng b3 _) takeZ ?_
 have cp:=rdB b3 130 [int (nn:Int),int t]
 have cp0:=rdC cp 0
 have cp1:=rdC cp 1
 by_cases s1:(nn:Int) = d.s
 ·rw [if_pos (.inl s1)]
  refine Abn ?_;refine AC ?_
  refine A5 (.q 0 (.q 1 (.q 2 (.q 3 (.q 4 (.q 5 (.q 6 (.q 7 (.q 8 (.q 9 (.q 10 (.q 11 (.q 12 (.q 13 (.q 14 (.q 15 (.q 16 (.q 17 .nil)))))))))))))))))) [] rfl (by kernel_rfl) Sel.nil ?_
  refine Aar ?_;refine AS ?_;refine Ac5 ?_;refine Aco ?_;refine EK ?_;refine Aeg ?_;refine BY ?_;refine Acw ?_;exact AI (res1 rfl rfl) rsubZ selZ ⟨rfl,rfl⟩
 by_cases s2:(nn:Int) = d.d
 ·rw [if_pos (.inr s2)]
  refine Abn ?_;refine AC ?_
  refine A5 (.q 0 (.q 1 (.q 2 (.q 3 (.q 4 (.q 5 (.q 6 (.q 7 (.q 8 (.q 9 (.q 10 (.q 11 (.q 12 (.q 13 (.q 14 (.q 15 (.q 16 (.q 17 .nil)))))))))))))))))) [] rfl (by kernel_rfl) Sel.nil ?_
  refine Aar ?_;refine AS ?_;refine Ac5 ?_;refine Aco ?_;refine C3 ?_;refine Ac3 ?_;refine AS ?_;refine Ac5 ?_;refine Acb ?_;refine EK ?_;refine BV ?_;refine Acw ?_;exact AI (res1 rfl rfl) rsubZ selZ ⟨rfl,rfl⟩
 rw [if_neg (by omega)]
 obtain ⟨bq,oq,rfl,gq⟩:=hT.rq.int hQ
 refine Abn ?_;refine AC ?_
 refine A5 (.q 0 (.q 1 (.q 2 (.q 3 (.q 4 (.q 5 (.q 6 (.q 7 (.q 8 (.q 9 (.q 10 (.q 11 (.q 12 (.q 13 (.q 14 (.q 15 (.q 16 (.q 17 .nil)))))))))))))))))) [] rfl (by kernel_rfl) Sel.nil ?_
 refine Aar ?_;refine AS ?_;refine Ac5 ?_;refine Aco ?_;refine C3 ?_;refine Ac3 ?_;refine AS ?_;refine Ac5 ?_;refine Acb ?_;refine C3 ?_;refine BV ?_;refine Ad5 ?_
 refine A5 (.q 0 (.q 1 (.q 2 (.q 3 (.q 4 (.q 5 (.q 6 (.q 7 (.q 8 (.q 9 (.q 10 .nil))))))))))) [] rfl (by kernel_rfl) Sel.nil ?_
 refine AS ?_;refine Ac5 ?_;refine AU ?_;refine Ac6 ?_;refine CZ ?_;refine AQ ?_;refine Adx ?_;refine Aam ?_;refine BL ?_;refine AG ?_;refine Aac ?_;refine Abh ?_
 refine BA [0,3,40,41] (0:Nat) (fun k=>k ≤ hs.length) (fun k=>[(42,int k),(5,int (Q - Step.stored (hs.take k) nn t))]) (fun _=>[]) (fun k=>hs.length - k) pickZ (by omega) ?_ selZ ?_
 ·rw [List.take_zero]
  simp only [Step.stored,Int.sub_zero];exact covZ
 intro k hk
 by_cases hlt:k < hs.length
 ·have hx:=List.getElem?_eq_getElem hlt
  have hh:=(hok _ (List.getElem_mem hlt)).2.2.1
  obtain ⟨b7,o7,rfl,hrd,g0,g1,g2,g3,_⟩:=hdRow5 hr hx
  have hm:=stored_snoc nn t hs[k] (hs.take k)
  rw [← List.take_succ_eq_append_getElem hlt] at hm
  have hb:=stored_bd (n:=nn) (t:=t) (l:=hs.take k) (fun h hm=>hok h (List.mem_of_mem_take hm))
  rw [List.length_take,Nat.min_eq_left hk] at hb
  generalize hs[k] = x at hrd g0 g1 g2 g3 hm hh
  generalize Step.stored (hs.take k) nn t = s at hm hb
  by_cases c1:x.n = nn
  ·by_cases c2:x.a ≤ t
   ·by_cases c3:t < x.b
    ·rw [if_pos ⟨c1,c2,c3⟩] at hm
     refine Ab2 ?_;refine AX ?_; rintro _ _ ⟨b,rfl,rfl⟩;refine AV ?_; rintro _ _ ⟨rfl,rfl⟩;refine AE ?_;refine Acl ?_;refine CI ?_;refine Ab ?_;refine CJ ?_;refine Ac7 ?_;refine BC ?_;refine AL ?_;refine Adg ?_;refine Aae ?_;refine CY ?_;refine Aab ?_;refine Aa2 ?_
     refine AY (k + 1) (by omega) (by omega) ?_ selZ
     rw [hm,show Q - (s + x.s) = Q - s - x.s by omega]
     exact covZ
    ·rw [if_neg (by omega),Int.add_zero] at hm
     refine Ab2 ?_;refine AX ?_; rintro _ _ ⟨b,rfl,rfl⟩;refine AV ?_; rintro _ _ ⟨rfl,rfl⟩;refine AE ?_;refine Acl ?_;refine CI ?_;refine Ab ?_;refine CJ ?_;refine Ac7 ?_;refine AZ ?_;refine AL ?_;refine Adk ?_
     refine AY (k + 1) (by omega) (by omega) ?_ selZ
     rw [hm];exact covZ
   ·rw [if_neg (by omega),Int.add_zero] at hm
    refine Ab2 ?_;refine AX ?_; rintro _ _ ⟨b,rfl,rfl⟩;refine AV ?_; rintro _ _ ⟨rfl,rfl⟩;refine AE ?_;refine Acl ?_;refine CI ?_;refine Ab ?_;refine CN ?_;refine AL ?_;refine Ab6 ?_;refine Abe ?_;refine Aa2 ?_
    refine AY (k + 1) (by omega) (by omega) ?_ selZ
    rw [hm];exact covZ
  ·rw [if_neg (by omega),Int.add_zero] at hm
   refine Ab2 ?_;refine AX ?_; rintro _ _ ⟨b,rfl,rfl⟩;refine AV ?_; rintro _ _ ⟨rfl,rfl⟩;refine AE ?_;refine Acl ?_;refine B4 ?_;refine Ab6 ?_;refine AJ ?_;refine Ab6 ?_;refine Abe ?_;refine Aa2 ?_
   refine AY (k + 1) (by omega) (by omega) ?_ selZ
   rw [hm];exact covZ
 ·have hke:k = hs.length:=by omega
  subst hke;rw [List.take_length];refine Abr ?_;refine Abt ?_;exact AI (res1 rfl rfl) rsubZ selZ ⟨rfl,rfl⟩
theorem ticks_spec (bw:Nat) (i:Nat) :
  Eng.Spec Tryz.prog (fv 104) [.pointer (some ⟨bw,0,none⟩),int (i:Int)] [] [] (fun r H'=>∃ c1 c2,r = .func (.func 135) #[] #[.pointer (some ⟨c1,0,none⟩),.pointer (some ⟨c2,0,none⟩)] ∧ H' = [sng c2 (.cells #[int (i:Int)] 3 (0,0)),sng c1 (.cells #[.pointer (some ⟨bw,0,none⟩)] 125 (0,0))]):=by
 refine spec_in (cap:=[]) Tryz.func104 rfl rfl Tryz.ntmps104 rfl envZ (fun N β=>?_)
 refine Aa ?_;refine BH (CX rfl rfl) rfl rfl rfl ?_;rintro _ _ ⟨c1,rfl,rfl⟩;refine BH (CX rfl rfl) rfl rfl rfl ?_;rintro _ _ ⟨c2,rfl,rfl⟩;refine Aab ?_;refine Aa ?_;refine BW ?_;refine Aab ?_;exact AI (res1 rfl rfl) rsubZ selZ ⟨c1,c2,rfl,rfl⟩
set_option maxHeartbeats 32000000 in
theorem ticks_iter {ρ τ σ υ:PH} {pq pc pb ph:Option Addr} {kq kc kb kh:Nat} {qs:List Int} {cs:List Ct} {bs:List Bk} {hs:List Hd} (hT:TbAt ρ τ σ υ pq pc pb ph kq kc kb kh qs cs bs hs) (bw bm c1 c2:Nat) (u:Value) (d:Dm) (h:VOk qs cs bs hs d) (h0:chkB qs cs bs = 0) (i:Nat) (x:Ct) (hx:cs[i]? = some x) :
  Iter Tryz.prog (.func (.func 135) #[] #[.pointer (some ⟨c1,0,none⟩),.pointer (some ⟨c2,0,none⟩)]) [sng c1 (.cells #[.pointer (some ⟨bw,0,none⟩)] 125 (0,0)),sng c2 (.cells #[int (i:Int)] 3 (0,0)),sng bw (.cells #[.slice pq qs.length kq,.slice pc cs.length kc,.slice pb bs.length kb,.slice ph hs.length kh,int d.s,int d.d,int d.v,int d.r,int d.e,u,.map (some bm)] 134 (0,0)),ρ,τ,σ,υ] ((tickL d.r d.e x.g (freeC cs bs i)).map Eng.encI):=by
 intro y S Own Inv Stop Ry hy hyl σ0 hI0
 obtain ⟨yl,rfl⟩:=hyl
 have hi:=(List.getElem?_eq_some_iff.1 hx).1
 have hdm:=h.dm
 unfold okDm at hdm
 have hct:=h.ct x (List.mem_of_getElem? hx)
 have hfree:=bkFree_spec hT i x hx h0
 have hfl:(freeC cs bs i).length ≤ 600:=by
  have hf:freeC cs bs i = gapsP x.e x.s (busyL bs i):=by unfold freeC; rw [hx]
  have h1:=gapsP_len x.e (busyL bs i) x.s
  have h2:=busyL_len bs i
  have h3:=h.nb
  rw [hf];omega
 have hfin:=(h.free hx).2.1
 obtain ⟨bq,oq,e4,hrd⟩:=ctRow hT.rc hx
 have w0:rdc (sng bw (.cells #[.slice pq qs.length kq,.slice pc cs.length kc,.slice pb bs.length kb,.slice ph hs.length kh,int d.s,int d.d,int d.v,int d.r,int d.e,u,.map (some bm)] 134 (0,0))) bw 0 = some (.slice pq qs.length kq):=by rw [rdc_sng]; rfl
 have w1:rdc (sng bw (.cells #[.slice pq qs.length kq,.slice pc cs.length kc,.slice pb bs.length kb,.slice ph hs.length kh,int d.s,int d.d,int d.v,int d.r,int d.e,u,.map (some bm)] 134 (0,0))) bw 1 = some (.slice pc cs.length kc):=by rw [rdc_sng]; rfl
 have w2:rdc (sng bw (.cells #[.slice pq qs.length kq,.slice pc cs.length kc,.slice pb bs.length kb,.slice ph hs.length kh,int d.s,int d.d,int d.v,int d.r,int d.e,u,.map (some bm)] 134 (0,0))) bw 2 = some (.slice pb bs.length kb):=by rw [rdc_sng]; rfl
 have w3:rdc (sng bw (.cells #[.slice pq qs.length kq,.slice pc cs.length kc,.slice pb bs.length kb,.slice ph hs.length kh,int d.s,int d.d,int d.v,int d.r,int d.e,u,.map (some bm)] 134 (0,0))) bw 3 = some (.slice ph hs.length kh):=by rw [rdc_sng]; rfl
 have w4:rdc (sng bw (.cells #[.slice pq qs.length kq,.slice pc cs.length kc,.slice pb bs.length kb,.slice ph hs.length kh,int d.s,int d.d,int d.v,int d.r,int d.e,u,.map (some bm)] 134 (0,0))) bw 4 = some (int d.s):=by rw [rdc_sng]; rfl
 have w5:rdc (sng bw (.cells #[.slice pq qs.length kq,.slice pc cs.length kc,.slice pb bs.length kb,.slice ph hs.length kh,int d.s,int d.d,int d.v,int d.r,int d.e,u,.map (some bm)] 134 (0,0))) bw 5 = some (int d.d):=by rw [rdc_sng]; rfl
 have w6:rdc (sng bw (.cells #[.slice pq qs.length kq,.slice pc cs.length kc,.slice pb bs.length kb,.slice ph hs.length kh,int d.s,int d.d,int d.v,int d.r,int d.e,u,.map (some bm)] 134 (0,0))) bw 6 = some (int d.v):=by rw [rdc_sng]; rfl
 have w7:rdc (sng bw (.cells #[.slice pq qs.length kq,.slice pc cs.length kc,.slice pb bs.length kb,.slice ph hs.length kh,int d.s,int d.d,int d.v,int d.r,int d.e,u,.map (some bm)] 134 (0,0))) bw 7 = some (int d.r):=by rw [rdc_sng]; rfl
 have w8:rdc (sng bw (.cells #[.slice pq qs.length kq,.slice pc cs.length kc,.slice pb bs.length kb,.slice ph hs.length kh,int d.s,int d.d,int d.v,int d.r,int d.e,u,.map (some bm)] 134 (0,0))) bw 8 = some (int d.e):=by rw [rdc_sng]; rfl
 have w9:rdc (sng bw (.cells #[.slice pq qs.length kq,.slice pc cs.length kc,.slice pb bs.length kb,.slice ph hs.length kh,int d.s,int d.d,int d.v,int d.r,int d.e,u,.map (some bm)] 134 (0,0))) bw 9 = some (u):=by rw [rdc_sng]; rfl
 have w10:rdc (sng bw (.cells #[.slice pq qs.length kq,.slice pc cs.length kc,.slice pb bs.length kb,.slice ph hs.length kh,int d.s,int d.d,int d.v,int d.r,int d.e,u,.map (some bm)] 134 (0,0))) bw 10 = some (.map (some bm)):=by rw [rdc_sng]; rfl
 have wp:RdP (sng bw (.cells #[.slice pq qs.length kq,.slice pc cs.length kc,.slice pb bs.length kb,.slice ph hs.length kh,int d.s,int d.d,int d.v,int d.r,int d.e,u,.map (some bm)] 134 (0,0))) bw 0 [.slice pq qs.length kq,.slice pc cs.length kc]:=rdP_sng (xs:=[.slice pq qs.length kq,.slice pc cs.length kc,.slice pb bs.length kb,.slice ph hs.length kh,int d.s,int d.d,int d.v,int d.r,int d.e,u,.map (some bm)]) rfl
 have v1:rdc (sng c1 (.cells #[.pointer (some ⟨bw,0,none⟩)] 125 (0,0))) c1 0 = some (.pointer (some ⟨bw,0,none⟩)):=by rw [rdc_sng]; rfl
 have v2:rdc (sng c2 (.cells #[int (i:Int)] 3 (0,0))) c2 0 = some (int (i:Int)):=by rw [rdc_sng]; rfl
 subst e4;simp only [List.cons_append,List.nil_append]
 refine spec_in (cap:=[.pointer (some ⟨c1,0,none⟩),.pointer (some ⟨c2,0,none⟩)]) Tryz.func135 rfl rfl Tryz.ntmps135 rfl envZ (fun N β=>?_)
 refine AC ?_
 refine A5 (.q 0 (.q 1 (.q 2 (.q 3 (.q 4 (.q 5 (.q 6 (.q 7 (.q 8 (.l 9 .e (.l 10 .b .nil))))))))))) [] rfl (by kernel_rfl) Sel.nil ?_
 refine AQ ?_;refine Ac5 ?_;refine AU ?_;refine Aar ?_;refine AQ ?_;refine BJ ?_;refine BN ?_;refine C9 ?_; rintro _ _ ⟨b,rfl,rfl⟩
 focus ((refine CP ?_; refine' FX rfl _ rfl rfl _ _; rotate_left; (focus (apply C6; exact rfl; exact rfl; exact takeZ; exact (by (repeat (first | exact (fun v hv=>absurd hv List.not_mem_nil) | (refine List.forall_mem_cons.2 ⟨?_,?_⟩; (focus (first | exact rfl | assumption))))); first | done | fail); exact rfl; exact rfl)); (focus (rintro _ _ ⟨_,rfl⟩ w hw; exact hw.sel Sel.nil)); rintro _ _ ⟨rfl,rfl⟩))
 refine A6 ?_
 revert b; intro b4
 refine AC ?_;refine AR (ρ:=sng b4 _) takeZ ?_
 have g5:rdc (sng b4 (.cells #[int x.f,int x.t,int x.s,int x.e,int x.r,int x.g,int x.l] 57 (0,0))) b4 5 = some (int x.g):=by rw [rdc_sng]; rfl
 refine A5 (.q 0 (.q 1 (.q 2 (.q 3 (.q 4 (.q 5 (.q 6 (.q 7 (.q 8 (.q 9 (.q 10 (.l 11 .e (.q 12 (.q 13 (.q 14 (.q 15 (.q 16 .nil))))))))))))))))) [] rfl (by kernel_rfl) Sel.nil ?_
 refine AQ ?_;refine Ac5 ?_;refine AU ?_;refine BN ?_;refine AQ ?_;refine Ac5 ?_;refine Aar ?_;refine AQ ?_;refine CP (DF rfl hfree rfl rfl rdZ rfl rfl ?_);rintro _ _ ⟨χ,⟨uf,rfl,hO⟩,rfl⟩
 have hSf:=hO.at
 obtain ⟨pf,kf,rfl⟩:=hO.form
 obtain ⟨_,_,ef,hrf⟩:=SlE.val (enc:=encS) encS_len (show SlE encS 2 χ _ (freeC cs bs i) from hSf)
 simp only [Value.slice.injEq] at ef
 obtain ⟨rfl,_,rfl⟩:=ef
 refine AS ?_;refine DH ?_;refine DH ?_;refine BT ?_;refine Adx ?_;refine Aad ?_;refine Abh ?_;refine AR (ρ:=χ) takeZ ?_
 generalize freeC cs bs i = F at hy hfl hfin hrf hO hSf
 refine BA [0,1,2,4,34,35] (X:=Nat × S) (0,σ0) (fun z=>z.1 ≤ F.length ∧ Inv (tickL d.r d.e x.g (F.take z.1)).length z.2) (fun z=>[(36,int z.1)]) (fun z=>Own z.2) (fun z=>F.length - z.1) pickZ ⟨by dsimp only; omega,hI0⟩ covZ Sel.refl ?_
 rintro ⟨k,σ'⟩ ⟨hk,hI⟩
 dsimp only at hk hI ⊢
 by_cases hlt:k < F.length
 rotate_left
 ·have hke:k = F.length:=by omega
  subst hke;rw [List.take_length] at hI;refine Abr ?_
  refine B8 (res0 rfl) (fun _ h=>List.mem_cons_of_mem _ (List.mem_cons_of_mem _ h)) Sel.refl ⟨σ',rfl,.inl ?_⟩
  rw [List.length_map];exact hI
 have hz:=List.getElem?_eq_getElem hlt
 have hlen:=tickL_len d.r d.e x.g F hz
 have hat:=fun t h1 h2=>tickL_at d.r d.e x.g F hz (t:=t) h1 h2
 have hin:=hfin _ (List.getElem_mem hlt)
 obtain ⟨b6,o6,rfl,hRd6,y0,y1⟩:=spRow hrf hz
 generalize F[k] = z at hz hlen hat hin hRd6 y0 y1
 refine Ab2 ?_;refine AX ?_; rintro _ _ ⟨b,rfl,rfl⟩;refine AV ?_; rintro _ _ ⟨rfl,rfl⟩;refine Aaj ?_
 revert b; intro b8
 refine A5 (.q 0 (.q 1 (.q 2 (.q 3 (.q 4 (.q 5 (.q 6 (.q 7 (.q 8 .nil))))))))) [] rfl (by kernel_rfl) Sel.nil ?_
 refine Aar ?_;refine AQ ?_;refine Ac5 ?_;refine Acb ?_;refine zd_max ?_;refine Adx ?_;refine AP ?_
 refine BA [0,1,2,4,8,34,35,36] (X:=Int × S) (max z.1 d.r,σ') (fun w=>max z.1 d.r ≤ w.1 ∧ (w.1 ≤ min z.2 (d.e - x.g) ∨ w.1 = max z.1 d.r) ∧ Inv ((tickL d.r d.e x.g (F.take k)).length + (w.1 - max z.1 d.r).toNat) w.2) (fun w=>[(9,int w.1)]) (fun w=>sng b8 (.cells #[int z.1,int z.2] 93 (0,0)) :: Own w.2) (fun w=>(1099511627776 - w.1).toNat) pickZ ⟨by dsimp only; omega,by dsimp only; omega,by dsimp only; rw [show (max z.1 d.r - max z.1 d.r).toNat = 0 by omega,Nat.add_zero]; exact hI⟩ covZ Sel.refl ?_
 rintro ⟨t,σ2⟩ ⟨ht1,ht2,hI2⟩
 dsimp only at ht1 ht2 hI2 ⊢
 by_cases hz2:t < z.2
 ·by_cases hg2:t + 1 + x.g ≤ d.e
  ·have hya:=hy _ σ2 (Eng.encI t) (by rw [List.getElem?_map,hat t ht1 (by omega)]; rfl) hI2
   refine AC ?_;refine AC ?_
   refine A5 (.q 0 (.q 1 (.q 2 (.q 3 (.q 4 (.q 5 (.q 6 (.q 7 (.q 8 (.q 9 (.q 10 (.q 11 (.q 12 (.q 13 (.q 14 (.q 15 (.q 16 .nil))))))))))))))))) [] rfl (by kernel_rfl) Sel.nil ?_
   refine Ac3 ?_;refine E7 ?_;refine Aa8 ?_;refine C4 ?_;refine Aar ?_;refine C4 ?_;refine AQ ?_;refine Ac5 ?_;refine Acb ?_;refine GR ?_;refine BY ?_;refine Abs ?_;refine Aav ?_;refine Abp ?_
   refine BE hya rfl rfl (Takes.skip Takes.all) (fun τ hτ=>.inl (by simp [hτ])) rfl rfl ?_
   rintro _ H' ⟨σ3,rfl,⟨rfl,hI3⟩ | ⟨rfl,hSt⟩⟩
   ·refine CH (H':=_ :: Own σ3) (List.perm_append_comm (l₂:=[_])) ?_
    refine Ab4 ?_;refine Acg ?_;refine Ad4 ?_
    refine AY (t + 1,σ3) ⟨by dsimp only; omega,by dsimp only; omega,?_⟩ (by dsimp only; omega) covZ Sel.refl
    dsimp only
    rw [show (t + 1 - max z.1 d.r).toNat = (t - max z.1 d.r).toNat + 1 by omega]
    exact hI3
   ·refine A9 ?_
    refine Aag ?_
    exact AI (res0 rfl) (fun _ h=>List.mem_cons_of_mem _ (List.mem_cons_of_mem _ h)) Sel.left ⟨σ3,rfl,.inr hSt⟩
  ·refine AC ?_
   refine AC ?_
   refine A5 (.q 0 (.q 1 (.q 2 (.q 3 (.q 4 (.q 5 (.q 6 (.q 7 (.q 8 (.q 9 (.q 10 (.q 11 (.q 12 (.q 13 (.q 14 (.q 15 (.q 16 .nil))))))))))))))))) [] rfl (by kernel_rfl) Sel.nil ?_
   refine Ac3 ?_;refine E7 ?_;refine Aa8 ?_;refine C4 ?_;refine Aar ?_;refine C4 ?_;refine AQ ?_;refine Ac5 ?_;refine Acb ?_;refine FN ?_;refine BY ?_;refine A6 ?_;refine Aas ?_;refine Aa2 ?_
   refine AY (k + 1,σ2) ⟨by dsimp only; omega,?_⟩ (by dsimp only; omega) covZ (Sel.skip Sel.refl)
   dsimp only
   rw [hlen,show (min z.2 (d.e - x.g) - max z.1 d.r).toNat = (t - max z.1 d.r).toNat by omega]
   exact hI2
 ·refine AC ?_
  refine AC ?_
  refine A5 (.q 0 (.q 1 (.q 2 (.q 3 (.q 4 (.q 5 (.q 6 (.q 7 (.q 8 (.q 9 (.q 10 (.q 11 (.q 12 (.q 13 (.q 14 (.q 15 (.q 16 .nil))))))))))))))))) [] rfl (by kernel_rfl) Sel.nil ?_
  refine Ac3 ?_;refine DV ?_;refine Aeg ?_;refine Aah ?_;refine A4 rfl rfl rfl rfl rfl ?_;refine BV ?_;refine A6 ?_;refine Aas ?_;refine Aa2 ?_
  refine AY (k + 1,σ2) ⟨by dsimp only; omega,?_⟩ (by dsimp only; omega) covZ (Sel.skip Sel.refl)
  dsimp only
  rw [hlen,show (min z.2 (d.e - x.g) - max z.1 d.r).toNat = (t - max z.1 d.r).toNat by omega]
  exact hI2
end Go.Proofs.YtphehihohghfoaaGreat
/- Places and arcs, one after the other; what a map holds; the end of a function behind loops over functions. No conditions. -/
namespace Go.Eng
variable {C:Cx} {R H:List PH} {L:Env} {dst:Option Tmp} {ty:TypeId} {pos:String} {aft:Array Edge} {g:Option (Nat × Bool)}
theorem CO {x y:Operand} {t kt et:TypeId} {b:Nat} (n:Nat) (k:List Int) {l:List (List Int × Value)} {z v:Value} (h:evalE L x = some (.map (some b))) (hk:evalE L y = some (aggI k)) (ht:C.P.underlying t = some (.map kt et)) (hkt:KeyS C.P kt n) (hn:k.length = n) (hl:∀ x ∈ l,x.1.length = n) (hz:zeroP C.P et = some z) (hv:mgetS k l = some v) (hm:MapAtS C.N R H b l) :
    Quiet C R H L ⟨dst,.lookup t x y false,ty,pos,aft,g⟩ v:=by
  have:=FS (C:=C) (R:=R) (H:=H) (L:=L) (dst:=dst) (ty:=ty) (pos:=pos) (aft:=aft) (g:=g) n k h hk ht hkt hn hl hz hm
  rwa [hv,Option.getD_some] at this
theorem F7 {P:Program} {fn:Func} {N:Bs} {M:Nat} {R R0 H H1 H':List PH} {L:Env} {post:Value → List PH → Prop} {v:Value} {ms:List Nat} {μ:PH} (m:MkIn μ ms) (t:Take μ H H1)
    (hv:∀ a w,Frm M L a → Sat N R H1 w → (results fn a.tmps).run P w = .ok v w) (hR:∀ ρ ∈ R0,ρ ∈ R) (hH:Sel H1 H') (hp:post v H') :
    JK ⟨none,P,FnQ P fn N R0 post,N,M⟩ (ms.map mk) R H L []:=by
  refine ⟨fun a w hf hd hs=>?_⟩
  show MarksQ _ _ _ _ a.defers w
  rw [hd]
  exact m.run (hs.take t) (fun w' hs'=>⟨v,hv a w' hf hs',H',hp,(hs'.rsub hR).sel hH⟩)
end Go.Eng
namespace Go.Step
section
variable {qs:List Int} {cs:List Ct} {bs:List Bk} {hs:List Hd} {d:Dm}
theorem waitN_at {n:Int} {t:Int} (h1:d.r ≤ t) (h2:t < d.e):(waitN qs hs d n)[(t - d.r).toNat]? = some ⟨⟨vtx d n t,vtx d n (t + 1),roomT qs hs d n t⟩,-1,t⟩:=by
  unfold waitN
  rw [List.getElem?_map,rngI_get (by omega),show d.r + ((t - d.r).toNat:Int) = t by omega]
  rfl
theorem waitA_at {n:Nat} {t:Int} (h1:d.r ≤ t) (h2:t < d.e):∀ {m:Nat},n < m → (waitA qs hs d m)[n * (d.e - d.r).toNat + (t - d.r).toNat]? = some ⟨⟨vtx d n t,vtx d n (t + 1),roomT qs hs d n t⟩,-1,t⟩
  | 0,h=>by omega
  | m + 1,h=>by
    have hl:=waitA_len qs hs d m
    unfold waitA
    by_cases hn:n < m
    · have h3:(n + 1) * (d.e - d.r).toNat ≤ m * (d.e - d.r).toNat:=Nat.mul_le_mul_right _ hn
      rw [Nat.add_mul,Nat.one_mul] at h3
      rw [List.getElem?_append_left (by omega)]
      exact waitA_at h1 h2 hn
    · obtain rfl:n = m:=by omega
      rw [List.getElem?_append_right (by omega),hl,Nat.add_sub_cancel_left]
      exact waitN_at h1 h2
theorem conA_pre (cs:List Ct) (bs:List Bk) (d:Dm) (i:Nat):∀ m:Nat,i < m → ∃ rest,conA cs bs d m = conA cs bs d i ++ (conN cs bs d i ++ rest)
  | 0,h=>by omega
  | m + 1,h=>by
    by_cases hi:i < m
    · obtain ⟨rest,e⟩:=conA_pre cs bs d i m hi
      refine ⟨rest ++ conN cs bs d m,?_⟩
      show conA cs bs d m ++ _ = _
      rw [e]
      simp
    · obtain rfl:i = m:=by omega
      exact ⟨[],by show conA cs bs d i ++ _ = _; simp⟩
theorem arcs_wait {n:Nat} {t:Int} (hn:n < qs.length) (h1:d.r ≤ t) (h2:t < d.e):(arcsE qs cs bs hs d)[n * (d.e - d.r).toNat + (t - d.r).toNat]? = some ⟨⟨vtx d n t,vtx d n (t + 1),roomT qs hs d n t⟩,-1,t⟩:=by
  have hl:=waitA_len qs hs d qs.length
  have h3:(n + 1) * (d.e - d.r).toNat ≤ qs.length * (d.e - d.r).toNat:=Nat.mul_le_mul_right _ hn
  rw [Nat.add_mul,Nat.one_mul] at h3;unfold arcsE
  rw [List.getElem?_append_left (by omega)]
  exact waitA_at h1 h2 hn
theorem arcs_con {i:Nat} {c:Ct} (hc:cs[i]? = some c) {j:Nat} {t:Int} (ht:(tickL d.r d.e c.g (freeC cs bs i))[j]? = some t):(arcsE qs cs bs hs d)[(waitA qs hs d qs.length).length + (conA cs bs d i).length + j]? = some (conE d c i t):=by
  obtain ⟨rest,e⟩:=conA_pre cs bs d i cs.length (List.getElem?_eq_some_iff.1 hc).1
  have hN:conN cs bs d i = (tickL d.r d.e c.g (freeC cs bs i)).map (conE d c i):=by unfold conN; rw [hc]
  unfold arcsE
  rw [e,List.getElem?_append_right (by omega),show (waitA qs hs d qs.length).length + (conA cs bs d i).length + j - (waitA qs hs d qs.length).length = (conA cs bs d i).length + j by omega,List.getElem?_append_right (by omega),Nat.add_sub_cancel_left,List.getElem?_append_left (by
    rw [hN,List.length_map]
    exact (List.getElem?_eq_some_iff.1 ht).1),hN,List.getElem?_map,ht]
  rfl
theorem conA_next (cs:List Ct) (bs:List Bk) (d:Dm) {i:Nat} {c:Ct} (hc:cs[i]? = some c):(conA cs bs d (i + 1)).length = (conA cs bs d i).length + (tickL d.r d.e c.g (freeC cs bs i)).length:=by
  show (conA cs bs d i ++ conN cs bs d i).length = _
  unfold conN;rw [hc,List.length_append,List.length_map]
theorem place_of (h:d.r ≤ d.e) {k N:Nat} (hk:(k:Int) < N * wd d):∃ (n:Nat) (t:Int),n < N ∧ d.r ≤ t ∧ t ≤ d.e ∧ (k:Int) = vtx d n t ∧ k = n * (wd d).toNat + (t - d.r).toNat:=by
  obtain ⟨⟨a1,a2⟩,⟨b1,b2⟩,c⟩:=vtx_of (d:=d) (v:=(k:Int)) (N:=N) (by unfold wd; omega) (by omega) hk
  obtain ⟨n,hn⟩:=Int.eq_ofNat_of_zero_le a1
  have hw:(((wd d).toNat:Nat):Int) = wd d:=by unfold wd; omega
  rw [hn] at c
  generalize (k:Int) % wd d = m at b1 b2 c
  refine ⟨n,d.r + m,by omega,b1,b2,c.symm,?_⟩
  have e:((n * (wd d).toNat + (d.r + m - d.r).toNat:Nat):Int) = (k:Int):=by
    rw [Int.natCast_add,Int.natCast_mul,hw,← c];unfold vtx;omega
  omega
end
end Go.Step
/- Where the ways of a test meet behind it: the test's region and the test. No conditions. -/
namespace Go.Eng
variable {C:Cx} {D:List Deferred} {R H:List PH} {L:Env} {K:List It}
end Go.Eng
