/- Texts of this proof, one after the other; no conditions. -/
import Derived.WideKeyRuns
import Derived.Test.YtphehihohghfoaaGreatWB5
import Derived.Test.YtphehihohghfoaaGreatWB1
import Derived.Test.YtphehihohghfoaaGreatWB3
import Derived.Test.YtphehihohghfoaaGreatWB0
set_option linter.all false
/- The ends of two sets, one after the other. No program in sight. No conditions. -/
namespace Go.Step
theorem oddB_cases (p:Nat):(oddB p = true ∧ p = 2 * (p / 2) + 1) ∨ (oddB p = false ∧ p = 2 * (p / 2)):=by
  unfold oddB
  by_cases h:p % 2 = 1
  · exact .inl ⟨decide_eq_true h,by omega⟩
  · exact .inr ⟨decide_eq_false h,by omega⟩
def nxtT (A B:List Int) (p q:Nat):Int:=if p < A.length then (if q < B.length ∧ B.getD q 0 < A.getD p 0 then B.getD q 0 else A.getD p 0) else B.getD q 0
def stp (A:List Int) (t:Int) (p:Nat):Nat:=if p < A.length ∧ A.getD p 0 = t then p + 1 else p
theorem stp_le {A:List Int} {t:Int} {p:Nat} (h:p ≤ A.length):p ≤ stp A t p ∧ stp A t p ≤ A.length:=by
  unfold stp
  split <;> omega
theorem drop_at {A:List Int} {p:Nat} (h:p < A.length):A.drop p = A.getD p 0 :: A.drop (p + 1):=by
  rw [List.drop_eq_getElem_cons h,List.getD_eq_getElem?_getD,List.getElem?_eq_getElem h]; rfl
theorem mrg_cc (a:Int) (A:List Int) (p:Bool) (b:Int) (B:List Int) (q:Bool):mrg (a :: A) p (b :: B) q = if a < b then (a,!p,q) :: mrg A (!p) (b :: B) q else if b < a then (b,p,!q) :: mrg (a :: A) p B (!q) else (a,!p,!q) :: mrg A (!p) B (!q):=by
  conv=>lhs; unfold mrg
theorem mrg_cn (a:Int) (A:List Int) (p q:Bool):mrg (a :: A) p [] q = (a,!p,q) :: mrg A (!p) [] q:=by
  conv=>lhs; unfold mrg
theorem mrg_nc (b:Int) (B:List Int) (p q:Bool):mrg [] p (b :: B) q = (b,p,!q) :: mrg [] p B (!q):=by
  conv=>lhs; unfold mrg
theorem mrg_at {A B:List Int} {p q:Nat} (hp:p ≤ A.length) (hq:q ≤ B.length) (h:p < A.length ∨ q < B.length) :
    mrg (A.drop p) (oddB p) (B.drop q) (oddB q) = (nxtT A B p q,oddB (stp A (nxtT A B p q) p),oddB (stp B (nxtT A B p q) q)) :: mrg (A.drop (stp A (nxtT A B p q) p)) (oddB (stp A (nxtT A B p q) p)) (B.drop (stp B (nxtT A B p q) q)) (oddB (stp B (nxtT A B p q) q)):=by
  by_cases h1:p < A.length
  · by_cases h2:q < B.length
    · rw [drop_at h1,drop_at h2,mrg_cc]
      by_cases c1:A.getD p 0 < B.getD q 0
      · have e:nxtT A B p q = A.getD p 0:=by unfold nxtT; rw [if_pos h1,if_neg (by omega)]
        have e1:stp A (A.getD p 0) p = p + 1:=by unfold stp; rw [if_pos ⟨h1,rfl⟩]
        have e2:stp B (A.getD p 0) q = q:=by unfold stp; rw [if_neg (by omega)]
        rw [if_pos c1,e,e1,e2,oddB_succ,drop_at h2]
      · by_cases c2:B.getD q 0 < A.getD p 0
        · have e:nxtT A B p q = B.getD q 0:=by unfold nxtT; rw [if_pos h1,if_pos ⟨h2,c2⟩]
          have e1:stp A (B.getD q 0) p = p:=by unfold stp; rw [if_neg (by omega)]
          have e2:stp B (B.getD q 0) q = q + 1:=by unfold stp; rw [if_pos ⟨h2,rfl⟩]
          rw [if_neg c1,if_pos c2,e,e1,e2,oddB_succ,drop_at h1]
        · have e:nxtT A B p q = A.getD p 0:=by unfold nxtT; rw [if_pos h1,if_neg (by omega)]
          have e1:stp A (A.getD p 0) p = p + 1:=by unfold stp; rw [if_pos ⟨h1,rfl⟩]
          have e2:stp B (A.getD p 0) q = q + 1:=by unfold stp; rw [if_pos ⟨h2,by omega⟩]
          rw [if_neg c1,if_neg c2,e,e1,e2,oddB_succ,oddB_succ]
    · have hq2:q = B.length:=by omega
      subst hq2
      have e:nxtT A B p B.length = A.getD p 0:=by unfold nxtT; rw [if_pos h1,if_neg (by omega)]
      have e1:stp A (A.getD p 0) p = p + 1:=by unfold stp; rw [if_pos ⟨h1,rfl⟩]
      have e2:stp B (A.getD p 0) B.length = B.length:=by unfold stp; rw [if_neg (by omega)]
      rw [drop_at h1,List.drop_length,e,e1,e2,oddB_succ,List.drop_length,mrg_cn]
  · have hp2:p = A.length:=by omega
    subst hp2
    have h2:q < B.length:=by omega
    have e:nxtT A B A.length q = B.getD q 0:=by unfold nxtT; rw [if_neg h1]
    have e1:stp A (B.getD q 0) A.length = A.length:=by unfold stp; rw [if_neg (by omega)]
    have e2:stp B (B.getD q 0) q = q + 1:=by unfold stp; rw [if_pos ⟨h2,rfl⟩]
    rw [drop_at h2,List.drop_length,e,e1,e2,oddB_succ,List.drop_length,mrg_nc]
theorem stp_go {A B:List Int} {p q:Nat} (h:p < A.length ∨ q < B.length):p < stp A (nxtT A B p q) p ∨ q < stp B (nxtT A B p q) q:=by
  by_cases h1:p < A.length
  · by_cases h2:q < B.length ∧ B.getD q 0 < A.getD p 0
    · have e:nxtT A B p q = B.getD q 0:=by unfold nxtT; rw [if_pos h1,if_pos h2]
      right; rw [e]; unfold stp; rw [if_pos ⟨h2.1,rfl⟩]; omega
    · have e:nxtT A B p q = A.getD p 0:=by unfold nxtT; rw [if_pos h1,if_neg h2]
      left; rw [e]; unfold stp; rw [if_pos ⟨h1,rfl⟩]; omega
  · have e:nxtT A B p q = B.getD q 0:=by unfold nxtT; rw [if_neg h1]
    right; rw [e]; unfold stp; rw [if_pos ⟨by omega,rfl⟩]; omega
theorem mrg_len:∀ (n:Nat) (A:List Int) (p:Bool) (B:List Int) (q:Bool),A.length + B.length ≤ n → (mrg A p B q).length ≤ A.length + B.length
  | n,[],p,[],q,_=>by unfold mrg; simp
  | 0,a :: A,p,B,q,h=>by simp at h
  | 0,[],p,b :: B,q,h=>by simp at h
  | n + 1,a :: A,p,[],q,h=>by
    rw [mrg_cn]
    have:=mrg_len n A (!p) [] q (by simp at h ⊢; omega)
    simp at this ⊢
    omega
  | n + 1,[],p,b :: B,q,h=>by
    rw [mrg_nc]
    have:=mrg_len n [] p B (!q) (by simp at h ⊢; omega)
    simp at this ⊢
    omega
  | n + 1,a :: A,p,b :: B,q,h=>by
    rw [mrg_cc]
    have h1:=mrg_len n A (!p) (b :: B) q (by simp at h ⊢; omega)
    have h2:=mrg_len n (a :: A) p B (!q) (by simp at h ⊢; omega)
    have h3:=mrg_len n A (!p) B (!q) (by simp at h ⊢; omega)
    simp at h1 h2 h3
    split
    · simp; omega
    · split <;> simp <;> omega
theorem mcomb1_len (f:Bool → Bool → Bool) (O:List Int) (e:Int × Bool × Bool):(mcomb1 f O e).length ≤ O.length + 1:=by
  unfold mcomb1
  split
  · omega
  · simp
theorem mcomb_len (f:Bool → Bool → Bool):∀ (S:List (Int × Bool × Bool)) (O:List Int),(mcomb f S O).length ≤ O.length + S.length
  | [],O=>by simp [mcomb]
  | e :: S,O=>by
    have h1:=mcomb_len f S (mcomb1 f O e)
    have h2:=mcomb1_len f O e
    show (mcomb f S (mcomb1 f O e)).length ≤ _
    simp
    omega
theorem mcomb_next (f:Bool → Bool → Bool) {S:List (Int × Bool × Bool)} {i:Nat} {e:Int × Bool × Bool} (h:S[i]? = some e) (O:List Int):mcomb f (S.take (i + 1)) O = mcomb1 f (mcomb f (S.take i) O) e:=by
  obtain ⟨hi,rfl⟩:=List.getElem?_eq_some_iff.1 h
  rw [List.take_succ_eq_append_getElem hi];unfold mcomb;rw [List.foldl_append]
  rfl
theorem mrg_end {A B:List Int} {p q:Bool}:mrg (A.drop A.length) p (B.drop B.length) q = []:=by
  rw [List.drop_length,List.drop_length];unfold mrg
  rfl
theorem drop_head {α:Type} {S:List α} {k:Nat} {x:α} {r:List α} (h:S.drop k = x :: r):S[k]? = some x ∧ S.drop (k + 1) = r ∧ k < S.length:=by
  have hk:k < S.length:=by
    apply Nat.lt_of_not_le
    intro hc
    rw [List.drop_eq_nil_of_le hc] at h
    simp at h
  rw [List.drop_eq_getElem_cons hk,List.cons.injEq] at h
  exact ⟨by rw [List.getElem?_eq_getElem hk,h.1],h.2,hk⟩
end Go.Step
/- Free spans of contacts, and their ticks. No program in sight. No conditions. -/
namespace Go.Step
theorem bks_apart {cs:List Ct} {l:List Bk} (h:firstE (bkE cs l) l.length = 0):l.Pairwise (fun x y=>x.c < y.c ∨ (x.c = y.c ∧ x.b ≤ y.a)):=by
  have hok:=bkE_ok h
  have hlt:∀ x ∈ l,x.a < x.b:=fun x hx=>by
    obtain ⟨_,c,_,_,h2,_⟩:=hok x hx
    exact h2
  have hstep:∀ i,(hi:i + 1 < l.length) → l[i].c < l[i + 1].c ∨ (l[i].c = l[i + 1].c ∧ l[i].b ≤ l[i + 1].a):=fun i hi=>by
    have h2:=firstE_zero h (i + 1) hi
    rw [bkE_at (List.getElem?_eq_getElem hi)] at h2
    split at h2
    · omega
    rw [if_neg (by omega)] at h2
    rw [Nat.add_sub_cancel,List.getD_eq_getElem?_getD,List.getElem?_eq_getElem (by omega),Option.getD_some] at h2
    unfold bk2E at h2
    split at h2
    · omega
    rename_i h3
    split at h2
    · omega
    rename_i h4
    have h5:=(cmpBk_lt _ _).1 (Decidable.not_not.1 h3)
    omega
  rw [List.pairwise_iff_getElem]
  intro i j hi hj hij
  obtain ⟨k,rfl⟩:∃ k,j = i + 1 + k:=⟨j - i - 1,by omega⟩
  induction k with
  | zero=>exact hstep i hj
  | succ k ih =>
    have h1:=ih (by omega) (by omega)
    have h2:=hstep (i + 1 + k) (by omega)
    have h3:=hlt _ (List.getElem_mem (show i + 1 + k < l.length by omega))
    have e:i + 1 + (k + 1) = i + 1 + k + 1:=by omega
    simp only [e];omega
theorem busy_apart {cs:List Ct} {l:List Bk} (h:firstE (bkE cs l) l.length = 0) (c:Int):(busyL l c).Pairwise (fun x y=>x.2 ≤ y.1):=by
  unfold busyL;rw [List.pairwise_map]
  refine ((bks_apart h).filter _).imp_of_mem (fun {x y} hx hy hxy=>?_)
  have h1:=of_decide_eq_true (List.mem_filter.1 hx).2
  have h2:=of_decide_eq_true (List.mem_filter.1 hy).2
  dsimp only
  omega
theorem busy_in {cs:List Ct} {l:List Bk} (h:firstE (bkE cs l) l.length = 0) {i:Nat} {c:Ct} (hc:cs[i]? = some c):∀ x ∈ busyL l i,c.s ≤ x.1 ∧ x.1 < x.2 ∧ x.2 ≤ c.e:=fun x hx=>by
  unfold busyL at hx
  obtain ⟨y,hy,rfl⟩:=List.mem_map.1 hx
  obtain ⟨hy1,hy2⟩:=List.mem_filter.1 hy
  have h2:=of_decide_eq_true hy2
  obtain ⟨_,c',e,h3⟩:=bkE_ok h y hy1
  rw [h2,Int.toNat_natCast,hc] at e
  obtain rfl:=Option.some.inj e
  exact h3
def gapsP (e:Int):Int → List (Int × Int) → List (Int × Int)
  | a,[]=>if a < e then [(a,e)] else []
  | a,x :: l=>(if a < x.1 then [(a,x.1)] else []) ++ gapsP e x.2 l
theorem gapsP_len (e:Int):∀ (l:List (Int × Int)) (a:Int),(gapsP e a l).length ≤ l.length + 1
  | [],a=>by unfold gapsP; split <;> simp
  | x :: l,a=>by
    have:=gapsP_len e l x.2
    unfold gapsP;rw [List.length_append,List.length_cons]
    split <;> simp <;> omega
theorem gapsP_ok {e:Int}:∀ {l:List (Int × Int)} {a:Int},(∀ x ∈ l,a ≤ x.1 ∧ x.1 < x.2 ∧ x.2 ≤ e) → l.Pairwise (fun x y=>x.2 ≤ y.1) → NormI (gapsP e a l) ∧ (∀ z ∈ gapsP e a l,a ≤ z.1 ∧ z.2 ≤ e) ∧ ∀ t,memI (gapsP e a l) t = (decide (a ≤ t ∧ t < e) && !(memI l t))
  | [],a,_,_=>by
    unfold gapsP
    by_cases h:a < e
    · rw [if_pos h]
      refine ⟨NormI.nil.cons h (by simp),fun z hz=>?_,fun t=>?_⟩
      · rw [List.mem_singleton.1 hz]
        exact ⟨Int.le_refl _,Int.le_refl _⟩
      · simp [memI,inSp]
    · rw [if_neg h]
      refine ⟨NormI.nil,by simp,fun t=>?_⟩
      rw [decide_eq_false (by omega)]
      simp [memI]
  | x :: l,a,hb,hp=>by
    obtain ⟨p1,p2⟩:=List.pairwise_cons.1 hp
    obtain ⟨h1,h2,h3⟩:=hb x (by simp)
    obtain ⟨k1,k2,k3⟩:=gapsP_ok (e:=e) (l:=l) (a:=x.2) (fun y hy=>⟨p1 y hy,(hb y (by simp [hy])).2⟩) p2
    unfold gapsP
    have hm:∀ t,memI l t = true → x.2 ≤ t:=fun t ht=>by
      obtain ⟨y,hy,h4,_⟩:=memI_iff.1 ht
      have:=p1 y hy
      omega
    have hx:∀ t,inSp t x = decide (x.1 ≤ t ∧ t < x.2):=fun t=>by rw [Bool.eq_iff_iff,inSp_iff,decide_eq_true_eq]
    by_cases h:a < x.1
    · rw [if_pos h,List.singleton_append]
      refine ⟨k1.cons h (fun z hz=>?_),fun z hz=>?_,fun t=>?_⟩
      · have:=k2 z hz
        dsimp only
        omega
      · rcases List.mem_cons.1 hz with rfl | hz
        · dsimp only; omega
        · have:=k2 z hz; omega
      · rw [memI_cons,memI_cons,k3,hx]
        have e1:inSp t (a,x.1) = decide (a ≤ t ∧ t < x.1):=by rw [Bool.eq_iff_iff,inSp_iff,decide_eq_true_eq]
        rw [e1]
        have hmt:=hm t
        cases hml:memI l t with
        | true =>
          have:=hmt hml
          rw [decide_eq_false (show ¬ (a ≤ t ∧ t < x.1) by omega)]
          simp
        | false =>
          simp only [Bool.not_false,Bool.and_true,Bool.or_false];rw [Bool.eq_iff_iff];simp only [Bool.or_eq_true,Bool.and_eq_true,decide_eq_true_eq,Bool.not_eq_true',decide_eq_false_iff_not];omega
    · rw [if_neg h,List.nil_append]
      refine ⟨k1,fun z hz=>by have:=k2 z hz; omega,fun t=>?_⟩
      rw [memI_cons,k3,hx]
      have hmt:=hm t
      cases hml:memI l t with
      | true =>
        have:=hmt hml
        simp
      | false =>
        simp only [Bool.not_false,Bool.and_true,Bool.or_false];rw [Bool.eq_iff_iff];simp only [Bool.and_eq_true,decide_eq_true_eq,Bool.not_eq_true',decide_eq_false_iff_not];omega
def freeC (cs:List Ct) (bs:List Bk) (i:Nat):List (Int × Int):=match cs[i]? with
  | some c=>gapsP c.e c.s (busyL bs i)
  | none=>[]
theorem freeC_ok {cs:List Ct} {bs:List Bk} (h:firstE (bkE cs bs) bs.length = 0) {i:Nat} {c:Ct} (hc:cs[i]? = some c):NormI (freeC cs bs i) ∧ (∀ z ∈ freeC cs bs i,c.s ≤ z.1 ∧ z.2 ≤ c.e) ∧ ∀ t,memI (freeC cs bs i) t = (decide (c.s ≤ t ∧ t < c.e) && !(bookedB bs i t)):=by
  have hf:freeC cs bs i = gapsP c.e c.s (busyL bs i):=by unfold freeC; rw [hc]
  rw [hf];exact gapsP_ok (busy_in h hc) (busy_apart h i)
def rngI (a b:Int):List Int:=(List.range (b - a).toNat).map (fun k:Nat=>a + k)
theorem mem_rngI {a b t:Int}:t ∈ rngI a b ↔ a ≤ t ∧ t < b:=by
  unfold rngI;rw [List.mem_map]
  constructor
  · rintro ⟨k,hk,rfl⟩
    rw [List.mem_range] at hk;omega
  · rintro ⟨h1,h2⟩
    exact ⟨(t - a).toNat,by rw [List.mem_range]; omega,by omega⟩
theorem rngI_asc (a b:Int):(rngI a b).Pairwise (· < ·):=by
  unfold rngI;rw [List.pairwise_map]
  exact List.pairwise_lt_range.imp (fun {x y} h=>by omega)
theorem rngI_len (a b:Int):(rngI a b).length = (b - a).toNat:=by simp [rngI]
theorem rngI_nil {a b:Int} (h:b ≤ a):rngI a b = []:=by
  unfold rngI
  rw [show (b - a).toNat = 0 by omega]
  rfl
theorem rngI_get {a b:Int} {k:Nat} (h:(k:Int) < b - a):(rngI a b)[k]? = some (a + k):=by
  unfold rngI
  rw [List.getElem?_map,List.getElem?_range (by omega)]
  rfl
theorem rngI_snoc {a b:Int} (h:a ≤ b):rngI a (b + 1) = rngI a b ++ [b]:=by
  unfold rngI
  rw [show (b + 1 - a).toNat = (b - a).toNat + 1 by omega,List.range_succ,List.map_append]
  congr 1
  simp
  omega
theorem asc_ext:∀ {a b:List Int},a.Pairwise (· < ·) → b.Pairwise (· < ·) → (∀ t,t ∈ a ↔ t ∈ b) → a = b
  | [],[],_,_,_=>rfl
  | [],y :: b,_,_,h=>by have:=(h y).2 (by simp); simp at this
  | x :: a,[],_,_,h=>by have:=(h x).1 (by simp); simp at this
  | x :: a,y :: b,ha,hb,h=>by
    obtain ⟨a1,a2⟩:=List.pairwise_cons.1 ha
    obtain ⟨b1,b2⟩:=List.pairwise_cons.1 hb
    have e:x = y:=by
      have h1:=(h x).1 (by simp)
      have h2:=(h y).2 (by simp)
      rcases List.mem_cons.1 h1 with h1 | h1
      · exact h1
      · rcases List.mem_cons.1 h2 with h2 | h2
        · exact h2.symm
        · have:=b1 x h1
          have:=a1 y h2
          omega
    subst e
    congr 1
    refine asc_ext a2 b2 (fun t=>⟨fun ht=>?_,fun ht=>?_⟩)
    · have h1:=(h t).1 (by simp [ht])
      rcases List.mem_cons.1 h1 with rfl | h1
      · have:=a1 t ht; omega
      · exact h1
    · have h1:=(h t).2 (by simp [ht])
      rcases List.mem_cons.1 h1 with rfl | h1
      · have:=b1 t ht; omega
      · exact h1
def tickS (r e g:Int) (x:Int × Int):List Int:=rngI (max x.1 r) (min x.2 (e - g))
def tickL (r e g:Int) (l:List (Int × Int)):List Int:=l.flatMap (tickS r e g)
theorem mem_tickL {r e g t:Int} {l:List (Int × Int)}:t ∈ tickL r e g l ↔ memI l t = true ∧ r ≤ t ∧ t + g < e:=by
  unfold tickL tickS;rw [List.mem_flatMap,memI_iff]
  constructor
  · rintro ⟨x,hx,h⟩
    rw [mem_rngI] at h
    exact ⟨⟨x,hx,by omega,by omega⟩,by omega,by omega⟩
  · rintro ⟨⟨x,hx,h1,h2⟩,h3,h4⟩
    exact ⟨x,hx,by rw [mem_rngI]; omega⟩
theorem tickL_asc {r e g:Int}:∀ {l:List (Int × Int)},NormI l → (tickL r e g l).Pairwise (· < ·)
  | [],_=>.nil
  | x :: l,h=>by
    have ih:=tickL_asc (r:=r) (e:=e) (g:=g) h.tail
    show (tickS r e g x ++ tickL r e g l).Pairwise (· < ·)
    rw [List.pairwise_append]
    refine ⟨rngI_asc _ _,ih,fun a ha b hb=>?_⟩
    have h1:=(mem_tickL.1 hb).1
    have h2:=memI_lo2 h h1
    unfold tickS at ha;rw [mem_rngI] at ha;omega
end Go.Step
/- Joins and meets of cuts: submodular. No program in sight. No conditions. -/
namespace Go.Step
theorem stored_none {n t:Int}:∀ {l:List Hd},(∀ g ∈ l,g.n = n → ¬ (g.a ≤ t ∧ t < g.b)) → stored l n t = 0
  | [],_=>rfl
  | h :: l,hh=>by
    unfold stored
    rw [stored_none (fun g hg=>hh g (by simp [hg])),if_neg (fun hc=>hh h (by simp) hc.1 hc.2)]
    rfl
theorem fits_all {l:List Hd} {nq:Nat} (hok:∀ h ∈ l,okHd nq h) {n Q t:Int} (hQ:0 ≤ Q) (hf:∀ h ∈ l,h.n = n → stored l n h.a ≤ Q):stored l n t ≤ Q:=by
  rcases last_active (n:=n) (t:=t) l with h | ⟨h,hm,hn,ha,hlast⟩
  · rw [stored_none h]; exact hQ
  · refine Int.le_trans (stored_mono (s:=h.a) (fun g hg=>⟨?_,fun h1 h2 h3=>⟨hlast g hg h1 h2 h3,by omega⟩⟩)) (hf h hm hn)
    have:=(hok g hg).2.2.1
    omega
theorem fit_of {qs:List Int} {cs:List Ct} {hs:List Hd} (h:chkH qs cs hs = 0):fitB qs hs = true:=by
  unfold chkH at h
  split at h
  · omega
  split at h
  · omega
  split at h
  · rename_i h1; exact absurd h h1
  split at h
  · assumption
  · omega
theorem room_nonneg {qs:List Int} {hs:List Hd} (hquo:∀ (j:Nat) (q:Int),qs[j]? = some q → 0 ≤ q ∧ q ≤ 1073741824) (hok:∀ h ∈ hs,okHd qs.length h) (hfit:fitB qs hs = true) (d:Dm) (n:Nat) (hn:n < qs.length) (t:Int):0 ≤ roomT qs hs d n t:=by
  unfold roomT
  split
  · omega
  have hx:=List.getElem?_eq_getElem hn
  have hq:=hquo n _ hx
  rw [Int.toNat_natCast,List.getD_eq_getElem?_getD,hx,Option.getD_some]
  have hf:=List.all_eq_true.1 hfit
  have:=fits_all (n:=(n:Int)) (t:=t) hok hq.1 (fun h hh hn'=>by
    have h2:=of_decide_eq_true (hf h hh)
    rw [hn',Int.toNat_natCast,List.getD_eq_getElem?_getD,hx,Option.getD_some] at h2
    exact h2)
  omega
theorem sumT_le4 {f g p q:Int → Int} {a:Int}:∀ {m:Nat},(∀ k:Nat,k < m → f (a + k) + g (a + k) ≤ p (a + k) + q (a + k)) → sumT f a m + sumT g a m ≤ sumT p a m + sumT q a m
  | 0,_=>by simp [sumT]
  | m + 1,h=>by
    have h1:=sumT_le4 (m:=m) (fun k hk=>h k (by omega))
    have h2:=h m (by omega)
    simp only [sumT];omega
def SetsC (c:Cu):Prop:=∀ l ∈ c,chkI l = 0 ∧ l.length ≤ 500
theorem SetsC.at {c:Cu} (h:SetsC c) (n:Int):chkI (cuAt c n) = 0 ∧ (cuAt c n).length ≤ 500:=by
  unfold cuAt;rw [List.getD_eq_getElem?_getD]
  cases e:c[n.toNat]? with
  | none=>exact ⟨by decide,by simp⟩
  | some l=>exact h l (List.mem_of_getElem? e)
theorem norm_in {l:Iv} (h:NormI l) {lo hi:Int}:(∀ t,memI l t = true → lo ≤ t ∧ t < hi) → ∀ x ∈ l,lo ≤ x.1 ∧ x.2 ≤ hi:=fun hm x hx=>by
  have h1:=h.1 x hx
  have a:=hm x.1 (memI_iff.2 ⟨x,hx,by omega,h1⟩)
  have b:=hm (x.2 - 1) (memI_iff.2 ⟨x,hx,by omega,by omega⟩)
  omega
end Go.Step
/- The plain words on flow networks: arcs, checks, values. No program in sight. No conditions. -/
namespace Go.Flow
structure Arc where
  f:Int
  t:Int
  c:Int
  deriving DecidableEq,Inhabited
def okArc (n:Int) (a:Arc):Bool:=decide (0 ≤ a.f ∧ a.f < n ∧ 0 ≤ a.t ∧ a.t < n ∧ a.f ≠ a.t ∧ 0 ≤ a.c ∧ a.c ≤ 1099511627776)
def chk (n:Int) (l:List Arc):Int:=if n < 0 then 2 else if 2000 < n ∨ 20000 < l.length then 4 else if l.all (okArc n) then 0 else 2
def okEnds (n s t:Int):Bool:=decide (0 ≤ s ∧ s < n ∧ 0 ≤ t ∧ t < n ∧ s ≠ t)
theorem okArc_iff {n:Int} {a:Arc}:okArc n a = true ↔ (0 ≤ a.f ∧ a.f < n ∧ 0 ≤ a.t ∧ a.t < n ∧ a.f ≠ a.t ∧ 0 ≤ a.c ∧ a.c ≤ 1099511627776):=by unfold okArc; rw [decide_eq_true_eq]
theorem okEnds_iff {n s t:Int}:okEnds n s t = true ↔ (0 ≤ s ∧ s < n ∧ 0 ≤ t ∧ t < n ∧ s ≠ t):=by unfold okEnds; rw [decide_eq_true_eq]
theorem chk_ok {n:Int} {l:List Arc} (h:chk n l = 0):0 ≤ n ∧ n ≤ 2000 ∧ l.length ≤ 20000 ∧ ∀ a ∈ l,okArc n a = true:=by
  unfold chk at h
  split at h
  · simp at h
  · split at h
    · simp at h
    · split at h
      · rename_i h3
        rw [List.all_eq_true] at h3
        exact ⟨by omega,by omega,by omega,h3⟩
      · simp at h
def fval (v:Int):List Arc → List Int → Int
  | a :: l,x :: fl=>((if a.f = v then x else 0) - (if a.t = v then x else 0)) + fval v l fl
  | _,_=>0
theorem fval_snoc (v:Int) (a:Arc) (x:Int):∀ (l:List Arc) (fl:List Int),l.length = fl.length → fval v (l ++ [a]) (fl ++ [x]) = fval v l fl + ((if a.f = v then x else 0) - (if a.t = v then x else 0))
  | [],[],_=>by simp [fval]
  | b :: l,y :: fl,h=>by
    simp only [List.cons_append,fval]
    rw [fval_snoc v a x l fl (by simpa using h)]
    omega
def small (fl:List Int):Prop:=∀ x ∈ fl,-1099511627776 ≤ x ∧ x ≤ 1099511627776
theorem fval_bd (v:Int):∀ (l:List Arc) (fl:List Int),small fl → -(1099511627776 * (2 * fl.length)) ≤ fval v l fl ∧ fval v l fl ≤ 1099511627776 * (2 * fl.length)
  | [],[],_=>by simp [fval]
  | [],_ :: _,_=>by simp [fval]; omega
  | _ :: _,[],_=>by simp [fval]
  | a :: l,x :: fl,h=>by
    have ih:=fval_bd v l fl (fun y hy=>h y (by simp [hy]))
    have hx:=h x (by simp)
    simp only [fval,List.length_cons]
    split <;> split <;> omega
theorem small_take {fl:List Int} (h:small fl) (k:Nat):small (fl.take k):=fun x hx=>h x (List.mem_of_mem_take hx)
theorem take_snoc' {α:Type} {l:List α} {k:Nat} (h:k < l.length):l.take (k + 1) = l.take k ++ [l[k]]:=List.take_succ_eq_append_getElem h
def netL (n:Nat) (l:List Arc) (fl:List Int):List Int:=(List.range n).map (fun (v:Nat)=>fval (v:Int) l fl)
theorem netL_len (n:Nat) (l:List Arc) (fl:List Int):(netL n l fl).length = n:=by simp [netL]
theorem netL_get {n:Nat} {l:List Arc} {fl:List Int} {v:Nat} (h:v < n):(netL n l fl).getD v 0 = fval (v:Int) l fl:=by simp [netL,h]
theorem netL_nil (n:Nat):netL n [] [] = List.replicate n 0:=by
  apply List.ext_getElem
  · simp [netL]
  · intro i h1 h2; simp [netL,fval]
def negL (l:List Int):List Int:=l.map (fun x=>-x)
theorem negL_len (l:List Int):(negL l).length = l.length:=by simp [negL]
theorem negL_get {l:List Int} {v:Nat} (h:v < l.length):(negL l).getD v 0 = -(l.getD v 0):=by simp [negL,h]
theorem netL_snoc {n:Nat} {l:List Arc} {fl:List Int} {a:Arc} {x:Int} {f t:Nat} (hl:l.length = fl.length) (hf:a.f = f) (ht:a.t = t) (hne:f ≠ t) :
    netL n (l ++ [a]) (fl ++ [x]) = ((netL n l fl).set f (fval f l fl + x)).set t (fval t l fl - x):=by
  apply List.ext_getElem
  · simp [netL]
  · intro i h1 h2
    simp only [netL,List.length_map,List.length_range] at h1
    have e:(netL n (l ++ [a]) (fl ++ [x]))[i]'(by simp [netL]; exact h1) = fval (i:Int) l fl + ((if a.f = (i:Int) then x else 0) - (if a.t = (i:Int) then x else 0)):=by
      simp only [netL,List.getElem_map,List.getElem_range]; exact fval_snoc _ a x l fl hl
    rw [e,hf,ht];simp only [List.getElem_set]
    by_cases c1:t = i
    · subst c1
      rw [if_pos rfl,if_neg (by omega),if_pos rfl]; omega
    · rw [if_neg c1]
      by_cases c2:f = i
      · subst c2
        rw [if_pos rfl,if_pos rfl,if_neg (by omega)]; omega
      · rw [if_neg c2,if_neg (by omega),if_neg (by omega)]
        simp [netL]
theorem negL_set (l:List Int) (i:Nat) (x:Int):negL (l.set i x) = (negL l).set i (-x):=by simp [negL,List.map_set]
def inCap:List Arc → List Int → Bool
  | a :: l,x :: fl=>decide (0 ≤ x ∧ x ≤ a.c) && inCap l fl
  | _,_=>true
theorem inCap_snoc (a:Arc) (x:Int):∀ (l:List Arc) (fl:List Int),l.length = fl.length → inCap (l ++ [a]) (fl ++ [x]) = (inCap l fl && decide (0 ≤ x ∧ x ≤ a.c))
  | [],[],_=>by simp [inCap]
  | b :: l,y :: fl,h=>by
    simp only [List.cons_append,inCap]
    rw [inCap_snoc a x l fl (by simpa using h),Bool.and_assoc]
theorem inCap_get:∀ (l:List Arc) (fl:List Int),inCap l fl = true → ∀ (i:Nat) (a:Arc) (x:Int),l[i]? = some a → fl[i]? = some x → 0 ≤ x ∧ x ≤ a.c
  | [],_,_,i,a,x,h1,_=>by simp at h1
  | _ :: _,[],_,i,a,x,_,h2=>by simp at h2
  | b :: l,y :: fl,h,i,a,x,h1,h2=>by
    simp only [inCap,Bool.and_eq_true,decide_eq_true_eq] at h
    cases i with
    | zero=>simp at h1 h2; subst h1; subst h2; exact h.1
    | succ i=>simp at h1 h2; exact inCap_get l fl h.2 i a x h1 h2
theorem inCap_small {n:Int}:∀ (l:List Arc) (fl:List Int),l.length = fl.length → inCap l fl = true → (∀ a ∈ l,okArc n a = true) → small fl
  | [],[],_,_,_=>fun x hx=>by simp at hx
  | a :: l,y :: fl,hl,h,hok=>fun x hx=>by
    simp only [inCap,Bool.and_eq_true,decide_eq_true_eq] at h
    have ha:=okArc_iff.1 (hok a (by simp))
    simp at hx
    rcases hx with rfl | hx
    · omega
    · exact inCap_small l fl (by simpa using hl) h.2 (fun b hb=>hok b (by simp [hb])) x hx
def balanced (n:Nat) (l:List Arc) (fl:List Int) (s t:Int):Bool:=(List.range n).all (fun (v:Nat)=>decide ((v:Int) = s ∨ (v:Int) = t ∨ fval (v:Int) l fl = 0))
def valueSpec (n:Int) (l:List Arc) (fl:List Int) (s t:Int):Int × Int:=
  if chk n l ≠ 0 then (0,chk n l) else if okEnds n s t = false then (0,2) else if fl.length ≠ l.length then (0,10) else if inCap l fl = false then (0,2)
  else if balanced n.toNat l fl s t = false then (0,24) else (fval s l fl,0)
def capOf (p:Nat → Bool):List Arc → Int
  | []=>0
  | a :: l=>(if p a.f.toNat = true ∧ p a.t.toNat = false then a.c else 0) + capOf p l
theorem capOf_snoc (p:Nat → Bool) (a:Arc):∀ l:List Arc,capOf p (l ++ [a]) = capOf p l + (if p a.f.toNat = true ∧ p a.t.toNat = false then a.c else 0)
  | []=>by simp [capOf]
  | b :: l=>by simp only [List.cons_append,capOf]; rw [capOf_snoc p a l]; omega
theorem capOf_bd (n:Int) (p:Nat → Bool):∀ l:List Arc,(∀ a ∈ l,okArc n a = true) → 0 ≤ capOf p l ∧ capOf p l ≤ 1099511627776 * l.length
  | [],_=>by simp [capOf]
  | a :: l,h=>by
    have ih:=capOf_bd n p l (fun b hb=>h b (by simp [hb]))
    have ha:=okArc_iff.1 (h a (by simp))
    simp only [capOf,List.length_cons]
    split <;> omega
def sideChk (n:Int):Option Int → List Int → Int
  | _,[]=>0
  | prev,v :: r=>if v < 0 ∨ n ≤ v then 2 else if (match prev with | some p=>decide (v ≤ p) | none=>false) = true then 9 else sideChk n (some v) r
def prevAt (l:List Int) (k:Nat):Option Int:=match k with
  | 0=>none
  | k + 1=>l[k]?
def capacitySpec (n:Int) (l:List Arc) (side:List Int):Int × Int:=
  if chk n l ≠ 0 then (0,chk n l) else if sideChk n none side ≠ 0 then (0,sideChk n none side) else (capOf (fun j=>decide ((j:Int) ∈ side)) l,0)
theorem sideChk_step {n:Int} {side:List Int} {k:Nat} (h:k < side.length) (h1:0 ≤ side[k]) (h2:side[k] < n) (h3:∀ p,prevAt side k = some p → p < side[k]) :
    sideChk n (prevAt side k) (side.drop k) = sideChk n (prevAt side (k + 1)) (side.drop (k + 1)):=by
  rw [List.drop_eq_getElem_cons h];simp only [sideChk]
  rw [if_neg (by omega),if_neg]
  · simp [prevAt,h]
  · cases hp:prevAt side k with
    | none=>simp
    | some p=>have:=h3 p hp; simp; omega
theorem sideChk_two {n:Int} {side:List Int} {k:Nat} (p:Option Int) (h:k < side.length) (h1:side[k] < 0 ∨ n ≤ side[k]):sideChk n p (side.drop k) = 2:=by
  rw [List.drop_eq_getElem_cons h];simp only [sideChk];rw [if_pos h1]
theorem sideChk_nine {n:Int} {side:List Int} {k:Nat} {p:Int} (h:k < side.length) (h1:0 ≤ side[k]) (h2:side[k] < n) (hp:prevAt side k = some p) (h3:side[k] ≤ p):sideChk n (prevAt side k) (side.drop k) = 9:=by
  rw [List.drop_eq_getElem_cons h];simp only [sideChk]
  rw [if_neg (by omega),if_pos (by rw [hp]; simp [h3])]
def marksOf (n:Nat) (side:List Int):List Bool:=(List.range n).map (fun (j:Nat)=>decide ((j:Int) ∈ side))
theorem marksOf_len (n:Nat) (side:List Int):(marksOf n side).length = n:=by simp [marksOf]
theorem marksOf_get {n:Nat} {side:List Int} {j:Nat} (h:j < n):(marksOf n side)[j]? = some (decide ((j:Int) ∈ side)):=by simp [marksOf,h]
theorem marksOf_nil (n:Nat):marksOf n [] = List.replicate n false:=by
  apply List.ext_getElem
  · simp [marksOf]
  · intro i h1 h2; simp [marksOf]
theorem marksOf_snoc {n:Nat} {side:List Int} {v:Nat}:marksOf n (side ++ [(v:Int)]) = (marksOf n side).set v true:=by
  apply List.ext_getElem
  · simp [marksOf]
  · intro i h1 h2
    simp only [List.getElem_set]
    by_cases e:v = i
    · subst e; simp [marksOf]
    · rw [if_neg e]
      have:¬ (i:Int) = (v:Int):=by omega
      simp [marksOf,this]
end Go.Flow
/- Residual arcs, their rooms, paths in them. No program in sight. No conditions. -/
namespace Go.Flow
def leastR (rm:Nat → Int) (p:List Lk):Int:=p.foldl (fun m x=>min m (rm x.k)) 1099511627776
theorem leastR_snoc (rm:Nat → Int) (p:List Lk) (x:Lk):leastR rm (p ++ [x]) = min (leastR rm p) (rm x.k):=by simp [leastR]
def rmR (l:List Arc) (fl:List Int) (k:Nat):Int:=if k % 2 = 0 then (l.getD (k / 2) default).c - fl.getD (k / 2) 0 else fl.getD (k / 2) 0
def outsOf (ls:List Lk) (v:Nat):List Lk:=ls.filter (fun x=>decide (x.f = v))
def insOf (ls:List Lk) (v:Nat):List Lk:=ls.filter (fun x=>decide (x.t = v))
theorem outsOf_snoc (ls:List Lk) (x:Lk) (v:Nat):outsOf (ls ++ [x]) v = outsOf ls v ++ (if x.f = v then [x] else []):=by
  unfold outsOf; rw [List.filter_append]; by_cases h:x.f = v <;> simp [h]
theorem insOf_snoc (ls:List Lk) (x:Lk) (v:Nat):insOf (ls ++ [x]) v = insOf ls v ++ (if x.t = v then [x] else []):=by
  unfold insOf; rw [List.filter_append]; by_cases h:x.t = v <;> simp [h]
theorem filter_le {α:Type} (p:α → Bool) (l:List α) {m:Nat} (h:l.length ≤ m):(l.filter p).length ≤ m:=Nat.le_trans (List.length_filter_le p l) h
def rlFrom:Nat → List Arc → List Lk
  | _,[]=>[]
  | i,a :: l=>⟨2 * i,a.f.toNat,a.t.toNat⟩ :: ⟨2 * i + 1,a.t.toNat,a.f.toNat⟩ :: rlFrom (i + 1) l
def rlinks (l:List Arc):List Lk:=rlFrom 0 l
theorem rlFrom_snoc (a:Arc):∀ (l:List Arc) (i:Nat),rlFrom i (l ++ [a]) = rlFrom i l ++ [(⟨2 * (i + l.length),a.f.toNat,a.t.toNat⟩:Lk),⟨2 * (i + l.length) + 1,a.t.toNat,a.f.toNat⟩]
  | [],i=>by simp [rlFrom]
  | b :: l,i=>by
    simp only [List.cons_append,rlFrom];rw [rlFrom_snoc a l (i + 1)];simp only [List.length_cons,List.cons_append]
    rw [show i + 1 + l.length = i + (l.length + 1) from by omega]
theorem rlinks_snoc (l:List Arc) (a:Arc):rlinks (l ++ [a]) = rlinks l ++ [(⟨2 * l.length,a.f.toNat,a.t.toNat⟩:Lk),⟨2 * l.length + 1,a.t.toNat,a.f.toNat⟩]:=by
  unfold rlinks; rw [rlFrom_snoc]; simp
theorem rlFrom_len:∀ (l:List Arc) (i:Nat),(rlFrom i l).length = 2 * l.length
  | [],_=>rfl
  | a :: l,i=>by simp [rlFrom,rlFrom_len l (i + 1)]; omega
theorem rlinks_len (l:List Arc):(rlinks l).length = 2 * l.length:=rlFrom_len l 0
theorem rlFrom_mem {n:Nat}:∀ (l:List Arc) (i:Nat),(∀ a ∈ l,okArc n a = true) → ∀ x ∈ rlFrom i l,x.f < n ∧ x.t < n ∧ x.k < 2 * (i + l.length)
  | [],_,_,x,hx=>by simp [rlFrom] at hx
  | a :: l,i,hok,x,hx=>by
    have ha:=okArc_iff.1 (hok a (by simp))
    simp only [rlFrom,List.mem_cons,List.length_cons] at hx ⊢
    rcases hx with rfl | rfl | hx
    · exact ⟨by simp only; omega,by simp only; omega,by simp only; omega⟩
    · exact ⟨by simp only; omega,by simp only; omega,by simp only; omega⟩
    · have:=rlFrom_mem l (i + 1) (fun b hb=>hok b (by simp [hb])) x hx
      exact ⟨this.1,this.2.1,by omega⟩
theorem rlinks_mem {n:Nat} {l:List Arc} (hok:∀ a ∈ l,okArc n a = true) {x:Lk} (hx:x ∈ rlinks l):x.f < n ∧ x.t < n ∧ x.k < 2 * l.length:=by
  have:=rlFrom_mem l 0 hok x hx
  simpa using this
end Go.Flow
/- Augmenting paths: a flow stays a flow, its value grows; the runs of the two searches. No program in sight. No conditions. -/
namespace Go.Flow
def opn (ls:List Lk) (rm:Nat → Int) (x:Lk):Prop:=x ∈ ls ∧ 0 < rm x.k
inductive Chn (E:Lk → Prop):Nat → List Lk → Nat → Prop
  | nil {v:Nat}:Chn E v [] v
  | cons {x:Lk} {v:Nat} {p:List Lk} {u:Nat}:x.f = v → E x → Chn E x.t p u → Chn E v (x :: p) u
theorem Chn.mono {E E':Lk → Prop} (h:∀ x,E x → E' x) {v u:Nat} {p:List Lk} (hc:Chn E v p u):Chn E' v p u:=by
  induction hc with
  | nil=>exact .nil
  | cons h1 h2 _ ih=>exact .cons h1 (h _ h2) ih
theorem Chn.all {E:Lk → Prop} {v u:Nat} {p:List Lk} (hc:Chn E v p u):∀ x ∈ p,E x:=by
  induction hc with
  | nil=>simp
  | cons _ h2 _ ih=>intro y hy; simp at hy; rcases hy with rfl | hy; exact h2; exact ih y hy
section
variable {n t:Nat} {ls:List Lk} {rm:Nat → Int} {D:List Int}
theorem nxt_some (hls:∀ x ∈ ls,x.f < n ∧ x.t < n) (hD:IsDist n t (opn ls rm) D) {v:Nat} (hv:v < n) (hd:0 < D.getD v 0) :
    ∃ x,nxt ls rm D v = some x ∧ x.f = v ∧ opn ls rm x ∧ D.getD x.t 0 = D.getD v 0 - 1:=by
  obtain ⟨y,hy,hyf,hyt⟩:=hD.step v hv hd
  cases e:nxt ls rm D v with
  | none =>
    unfold nxt at e;rw [List.find?_eq_none] at e
    have:=e y hy.1
    exact absurd (by rw [Bool.and_eq_true,Bool.and_eq_true,decide_eq_true_eq,decide_eq_true_eq,near,decide_eq_true_eq]; exact ⟨⟨hy.2,hyf⟩,hyt⟩) this
  | some x =>
    have hm:=List.mem_of_find?_eq_some e
    have hp:=List.find?_some e
    simp only [Bool.and_eq_true,decide_eq_true_eq,near] at hp;exact ⟨x,rfl,hp.1.2,⟨hm,hp.1.1⟩,hp.2⟩
theorem path_chn (hls:∀ x ∈ ls,x.f < n ∧ x.t < n) (hD:IsDist n t (opn ls rm) D):∀ (k:Nat) (v:Nat),v < n → D.getD v 0 = (k:Int) →
    Chn (fun x=>opn ls rm x ∧ D.getD x.t 0 = D.getD x.f 0 - 1 ∧ D.getD x.f 0 ≤ k) v (pathD (nxt ls rm D) D v) t:=by
  intro k
  induction k with
  | zero =>
    intro v hv h
    have:=hD.zero v hv h
    subst this
    rw [pathD_end (by omega)]
    exact .nil
  | succ k ih =>
    intro v hv h
    obtain ⟨x,hx,hf,ho,hn⟩:=nxt_some hls hD hv (by omega)
    rw [pathD_step hx (by omega) hn]
    have h2:=ih x.t (hls x ho.1).2 (by rw [hn,h]; omega)
    exact .cons hf ⟨ho,by rw [hf]; exact hn,by rw [hf]; omega⟩ (h2.mono (fun y hy=>⟨hy.1,hy.2.1,by have:=hy.2.2; omega⟩))
theorem path_sorted (hls:∀ x ∈ ls,x.f < n ∧ x.t < n) (hD:IsDist n t (opn ls rm) D):∀ (k:Nat) (v:Nat),v < n → D.getD v 0 = (k:Int) →
    (pathD (nxt ls rm D) D v).Pairwise (fun x y=>D.getD y.f 0 < D.getD x.f 0):=by
  intro k
  induction k with
  | zero =>
    intro v hv h
    rw [pathD_end (by omega)]
    exact List.Pairwise.nil
  | succ k ih =>
    intro v hv h
    obtain ⟨x,hx,hf,ho,hn⟩:=nxt_some hls hD hv (by omega)
    rw [pathD_step hx (by omega) hn]
    have hxt:=(hls x ho.1).2
    refine List.pairwise_cons.2 ⟨fun y hy=>?_,ih x.t hxt (by rw [hn,h]; omega)⟩
    have:=((path_chn hls hD k x.t hxt (by rw [hn,h]; omega)).all y hy).2.2
    rw [hf]; omega
end

/-! ### links of the residual graph -/
theorem rlFrom_iff {x:Lk}:∀ (l:List Arc) (i:Nat),x ∈ rlFrom i l ↔ ∃ j a,l[j]? = some a ∧ (x = ⟨2 * (i + j),a.f.toNat,a.t.toNat⟩ ∨ x = ⟨2 * (i + j) + 1,a.t.toNat,a.f.toNat⟩)
  | [],i=>by simp [rlFrom]
  | a :: l,i=>by
    simp only [rlFrom,List.mem_cons];rw [rlFrom_iff l (i + 1)]
    constructor
    · rintro (rfl | rfl | ⟨j,b,h1,h2⟩)
      · exact ⟨0,a,rfl,.inl rfl⟩
      · exact ⟨0,a,rfl,.inr rfl⟩
      · refine ⟨j + 1,b,by simpa using h1,?_⟩
        rw [show i + (j + 1) = i + 1 + j from by omega]; exact h2
    · rintro ⟨j,b,h1,h2⟩
      cases j with
      | zero => simp at h1; subst h1; rcases h2 with h2 | h2
                · exact .inl h2
                · exact .inr (.inl h2)
      | succ j =>
        refine .inr (.inr ⟨j,b,by simpa using h1,?_⟩)
        rw [show i + 1 + j = i + (j + 1) from by omega]; exact h2
theorem rlinks_iff {l:List Arc} {x:Lk}:x ∈ rlinks l ↔ ∃ j a,l[j]? = some a ∧ (x = ⟨2 * j,a.f.toNat,a.t.toNat⟩ ∨ x = ⟨2 * j + 1,a.t.toNat,a.f.toNat⟩):=by
  unfold rlinks;rw [rlFrom_iff];simp only [Nat.zero_add]
theorem fval_set (v:Int):∀ (l:List Arc) (fl:List Int) (i:Nat) (a:Arc) (y:Int),l[i]? = some a → l.length = fl.length →
    fval v l (fl.set i y) = fval v l fl + ((if a.f = v then y - fl.getD i 0 else 0) - (if a.t = v then y - fl.getD i 0 else 0))
  | [],_,i,a,y,h,_=>by simp at h
  | b :: l,[],i,a,y,_,h=>by simp at h
  | b :: l,x :: fl,i,a,y,h,hl=>by
    cases i with
    | zero =>
      simp at h; subst h
      simp only [List.set_cons_zero,fval,List.getD_cons_zero]
      split <;> split <;> omega
    | succ i =>
      simp only [List.set_cons_succ,fval,List.getD_cons_succ]
      rw [fval_set v l fl i a y (by simpa using h) (by simpa using hl)]
      omega
theorem inCap_set:∀ (l:List Arc) (fl:List Int) (i:Nat) (a:Arc) (y:Int),l[i]? = some a → inCap l fl = true → 0 ≤ y → y ≤ a.c → inCap l (fl.set i y) = true
  | [],_,i,a,y,h,_,_,_=>by simp at h
  | b :: l,[],i,a,y,_,h,_,_=>by simp [inCap]
  | b :: l,x :: fl,i,a,y,h,hc,h1,h2=>by
    simp only [inCap,Bool.and_eq_true,decide_eq_true_eq] at hc
    cases i with
    | zero =>
      simp at h; subst h
      simp only [List.set_cons_zero,inCap,Bool.and_eq_true,decide_eq_true_eq];exact ⟨⟨h1,h2⟩,hc.2⟩
    | succ i =>
      simp only [List.set_cons_succ,inCap,Bool.and_eq_true,decide_eq_true_eq]
      exact ⟨hc.1,inCap_set l fl i a y (by simpa using h) hc.2 h1 h2⟩
def augR (room:Int) (fl:List Int) (x:Lk):List Int:=fl.set (x.k / 2) (if x.k % 2 = 0 then fl.getD (x.k / 2) 0 + room else fl.getD (x.k / 2) 0 - room)
def augAll (room:Int) (fl:List Int) (p:List Lk):List Int:=p.foldl (augR room) fl
theorem augR_len (room:Int) (fl:List Int) (x:Lk):(augR room fl x).length = fl.length:=by simp [augR]
theorem augAll_len (room:Int):∀ (p:List Lk) (fl:List Int),(augAll room fl p).length = fl.length
  | [],fl=>rfl
  | x :: p,fl=>by
    have:=augAll_len room p (augR room fl x)
    rw [augR_len] at this;exact this
theorem getD_set' {l:List Int} {i j:Nat} {x:Int} (h:i ≠ j):(l.set i x).getD j 0 = l.getD j 0:=by
  rw [List.getD_eq_getElem?_getD,List.getElem?_set_ne h,← List.getD_eq_getElem?_getD]
theorem augR_ok {n:Nat} {l:List Arc} {fl:List Int} {x:Lk} {room:Int} (hok:∀ a ∈ l,okArc n a = true) (hl:l.length = fl.length) (hc:inCap l fl = true) (hx:x ∈ rlinks l) (h0:0 ≤ room) (hr:room ≤ rmR l fl x.k) :
    inCap l (augR room fl x) = true ∧ (∀ v:Nat,fval v l (augR room fl x) = fval v l fl + ((if x.f = v then room else 0) - (if x.t = v then room else 0))) ∧ ∀ k,k / 2 ≠ x.k / 2 → rmR l (augR room fl x) k = rmR l fl k:=by
  obtain ⟨j,a,ha,hxe⟩:=rlinks_iff.1 hx
  have hjl:j < l.length:=(List.getElem?_eq_some_iff.1 ha).1
  have hfj:fl[j]? = some (fl.getD j 0):=by simp [List.getD_eq_getElem?_getD,show j < fl.length by omega]
  have hlj:l.getD j default = a:=by simp [List.getD_eq_getElem?_getD,ha]
  have hin:=inCap_get l fl hc j a _ ha hfj
  obtain ⟨g1,g2,g3,g4,g5,g6,g7⟩:=okArc_iff.1 (hok a (List.mem_of_getElem? ha))
  have hrest:∀ k,k / 2 ≠ x.k / 2 → rmR l (augR room fl x) k = rmR l fl k:=fun k hk=>by
    unfold rmR augR;rw [getD_set' (Ne.symm hk)]
  refine ⟨?_,?_,hrest⟩
  · rcases hxe with rfl | rfl
    · unfold rmR at hr
      unfold augR
      dsimp only at hr ⊢
      rw [show 2 * j / 2 = j from by omega,if_pos (by omega),hlj] at hr
      rw [show 2 * j / 2 = j from by omega,if_pos (by omega)]
      exact inCap_set l fl j a _ ha hc (by omega) (by omega)
    · unfold rmR at hr
      unfold augR
      dsimp only at hr ⊢
      rw [show (2 * j + 1) / 2 = j from by omega,if_neg (by omega)] at hr
      rw [show (2 * j + 1) / 2 = j from by omega,if_neg (by omega)]
      exact inCap_set l fl j a _ ha hc (by omega) (by omega)
  · intro v
    rcases hxe with rfl | rfl
    · unfold augR
      dsimp only
      rw [show 2 * j / 2 = j from by omega,if_pos (by omega),fval_set v l fl j a _ ha hl]
      have e1:(a.f = (v:Int)) ↔ (a.f.toNat = v):=by omega
      have e2:(a.t = (v:Int)) ↔ (a.t.toNat = v):=by omega
      simp only [e1,e2]
      split <;> split <;> omega
    · unfold augR
      dsimp only
      rw [show (2 * j + 1) / 2 = j from by omega,if_neg (by omega),fval_set v l fl j a _ ha hl]
      have e1:(a.f = (v:Int)) ↔ (a.f.toNat = v):=by omega
      have e2:(a.t = (v:Int)) ↔ (a.t.toNat = v):=by omega
      simp only [e1,e2]
      split <;> split <;> omega
theorem augAll_ok {n:Nat} {l:List Arc} {room:Int} (hok:∀ a ∈ l,okArc n a = true) (h0:0 ≤ room) {E:Lk → Prop} (hE:∀ x,E x → x ∈ rlinks l) {u w:Nat} {p:List Lk} (hp:Chn E u p w) :
    ∀ (fl:List Int),l.length = fl.length → inCap l fl = true → p.Pairwise (fun x y=>x.k / 2 ≠ y.k / 2) → (∀ x ∈ p,room ≤ rmR l fl x.k) →
    inCap l (augAll room fl p) = true ∧ ∀ v:Nat,fval v l (augAll room fl p) = fval v l fl + ((if u = v then room else 0) - (if w = v then room else 0)):=by
  induction hp with
  | nil=>intro fl _ hc _ _; exact ⟨hc,fun v=>by simp [augAll]⟩
  | @cons x u p w hf hx _ ih =>
    intro fl hl hc hpw hr
    rw [List.pairwise_cons] at hpw
    obtain ⟨s1,s2,s3⟩:=augR_ok hok hl hc (hE x hx) h0 (hr x (by simp))
    obtain ⟨r1,r2⟩:=ih (augR room fl x) (by rw [augR_len]; exact hl) s1 hpw.2 (fun y hy=>by rw [s3 y.k (Ne.symm (hpw.1 y hy))]; exact hr y (by simp [hy]))
    refine ⟨r1,fun v=>?_⟩
    have:=r2 v
    rw [s2 v] at this
    show fval v l (augAll room (augR room fl x) p) = _
    rw [this,hf]
    split <;> split <;> split <;> omega
theorem leastR_le (rm:Nat → Int):∀ (p:List Lk) (m:Int),p.foldl (fun m x=>min m (rm x.k)) m ≤ m ∧ ∀ x ∈ p,p.foldl (fun m x=>min m (rm x.k)) m ≤ rm x.k
  | [],m=>by simp
  | y :: p,m=>by
    have ih:=leastR_le rm p (min m (rm y.k))
    refine ⟨by simp only [List.foldl_cons]; omega,fun x hx=>?_⟩
    simp only [List.foldl_cons]
    simp at hx
    rcases hx with rfl | hx
    · omega
    · exact ih.2 x hx
theorem leastR_pos (rm:Nat → Int):∀ (p:List Lk) (m:Int),0 < m → (∀ x ∈ p,0 < rm x.k) → 0 < p.foldl (fun m x=>min m (rm x.k)) m
  | [],m,h,_=>by simpa using h
  | y :: p,m,h,hp=>by
    simp only [List.foldl_cons]
    exact leastR_pos rm p _ (by have:=hp y (by simp); omega) (fun x hx=>hp x (by simp [hx]))
structure Flw (n:Nat) (l:List Arc) (s t:Nat) (fl:List Int):Prop where
  len:l.length = fl.length
  cap:inCap l fl = true
  bal:∀ v:Nat,v < n → v ≠ s → v ≠ t → fval v l fl = 0
section
variable {n s t:Nat} {l:List Arc}
theorem rl_lt (hok:∀ a ∈ l,okArc n a = true):∀ x ∈ rlinks l,x.f < n ∧ x.t < n:=fun _ hx=>⟨(rlinks_mem hok hx).1,(rlinks_mem hok hx).2.1⟩
abbrev rE (l:List Arc) (fl:List Int):Lk → Prop:=opn (rlinks l) (rmR l fl)
abbrev rP (l:List Arc) (fl:List Int) (D:List Int) (s:Nat):List Lk:=pathD (nxt (rlinks l) (rmR l fl) D) D s
abbrev rNext (l:List Arc) (fl:List Int) (D:List Int) (s:Nat):List Int:=augAll (leastR (rmR l fl) (rP l fl D s)) fl (rP l fl D s)
theorem rP_arcs (hok:∀ a ∈ l,okArc n a = true) (hs:s < n) {fl D:List Int} (hD:IsDist n t (rE l fl) D) (h0:0 ≤ D.getD s 0):(rP l fl D s).Pairwise (fun x y=>x.k / 2 ≠ y.k / 2):=by
  obtain ⟨k,hk⟩:=Int.eq_ofNat_of_zero_le h0
  have hp:=path_sorted (rl_lt hok) hD k s hs hk
  have hc:=(path_chn (rl_lt hok) hD k s hs hk).all
  refine List.Pairwise.imp_of_mem (fun {x y} hx hy hxy e=>?_) hp
  obtain ⟨i,a,ha,hxe⟩:=rlinks_iff.1 (hc x hx).1.1
  obtain ⟨j,b,hb,hye⟩:=rlinks_iff.1 (hc y hy).1.1
  have dx:=(hc x hx).2.1
  have dy:=(hc y hy).2.1
  have hij:i = j:=by rcases hxe with rfl | rfl <;> rcases hye with rfl | rfl <;> (dsimp only at e; omega)
  subst hij;rw [ha] at hb
  obtain rfl:=Option.some.inj hb
  rcases hxe with rfl | rfl <;> rcases hye with rfl | rfl <;> (dsimp only at hxy dx dy; omega)
theorem rNext_ok (hok:∀ a ∈ l,okArc n a = true) (hs:s < n) (hst:s ≠ t) {fl D:List Int} (hf:Flw n l s t fl) (hD:IsDist n t (rE l fl) D) (h0:0 ≤ D.getD s 0) :
    Flw n l s t (rNext l fl D s) ∧ 0 < leastR (rmR l fl) (rP l fl D s) ∧ fval s l (rNext l fl D s) = fval s l fl + leastR (rmR l fl) (rP l fl D s):=by
  obtain ⟨k,hk⟩:=Int.eq_ofNat_of_zero_le h0
  have hch:=path_chn (rl_lt hok) hD k s hs hk
  have hpos:0 < leastR (rmR l fl) (rP l fl D s):=leastR_pos _ _ _ (by omega) (fun x hx=>(hch.all x hx).1.2)
  obtain ⟨r1,r2⟩:=augAll_ok hok (Int.le_of_lt hpos) (E:=fun x=>rE l fl x ∧ D.getD x.t 0 = D.getD x.f 0 - 1 ∧ D.getD x.f 0 ≤ k) (fun x hx=>hx.1.1) hch fl hf.len hf.cap (rP_arcs hok hs hD h0) (fun x hx=>(leastR_le _ _ _).2 x hx)
  refine ⟨⟨by rw [augAll_len]; exact hf.len,r1,fun v hv h1 h2=>?_⟩,hpos,?_⟩
  · rw [r2 v,if_neg (Ne.symm h1),if_neg (Ne.symm h2),hf.bal v hv h1 h2]; rfl
  · rw [r2 s,if_pos rfl,if_neg (Ne.symm hst)]; omega
end
inductive RunR (n:Nat) (l:List Arc) (s t:Nat):List Int → List Int → Prop
  | done {fl D:List Int}:IsDist n t (rE l fl) D → D.getD s 0 < 0 → RunR n l s t fl fl
  | step {fl D F:List Int}:IsDist n t (rE l fl) D → 0 ≤ D.getD s 0 → RunR n l s t (rNext l fl D s) F → RunR n l s t fl F
theorem RunR.uniq {n s t:Nat} {l:List Arc} (hok:∀ a ∈ l,okArc n a = true) {fl F G:List Int} (h1:RunR n l s t fl F) (h2:RunR n l s t fl G):F = G:=by
  have hE:∀ fl x,rE l fl x → x.f < n ∧ x.t < n:=fun fl x hx=>rl_lt hok x hx.1
  induction h1 generalizing G with
  | done hD hn =>
    cases h2 with
    | done=>rfl
    | step hD2 h0 _=>rw [hD.uniq (hE _) hD2] at hn; omega
  | step hD h0 _ ih =>
    cases h2 with
    | done hD2 hn=>rw [hD.uniq (hE _) hD2] at h0; omega
    | step hD2 _ hr=>rw [hD.uniq (hE _) hD2] at ih; exact ih hr
theorem RunR.flw {n s t:Nat} {l:List Arc} (hok:∀ a ∈ l,okArc n a = true) (hs:s < n) (hst:s ≠ t) {fl F:List Int} (h:RunR n l s t fl F):Flw n l s t fl → Flw n l s t F ∧ ∃ D,IsDist n t (rE l F) D ∧ D.getD s 0 < 0:=by
  induction h with
  | done hD hn=>intro hf; exact ⟨hf,_,hD,hn⟩
  | step hD h0 _ ih=>intro hf; exact ih (rNext_ok hok hs hst hf hD h0).1
theorem fval_zeros (v:Int):∀ (l:List Arc),fval v l (List.replicate l.length 0) = 0
  | []=>rfl
  | a :: l=>by simp only [List.length_cons,List.replicate_succ,fval]; rw [fval_zeros v l]; split <;> split <;> rfl
theorem inCap_zeros {n:Nat}:∀ (l:List Arc),(∀ a ∈ l,okArc n a = true) → inCap l (List.replicate l.length 0) = true
  | [],_=>rfl
  | a :: l,h=>by
    have ha:=okArc_iff.1 (h a (by simp))
    simp only [List.length_cons,List.replicate_succ,inCap,Bool.and_eq_true,decide_eq_true_eq]
    exact ⟨⟨by omega,by omega⟩,inCap_zeros l (fun b hb=>h b (by simp [hb]))⟩
theorem flw_zeros {n s t:Nat} {l:List Arc} (hok:∀ a ∈ l,okArc n a = true):Flw n l s t (List.replicate l.length 0):=⟨by simp,inCap_zeros l hok,fun v _ _ _=>fval_zeros v l⟩
end Go.Flow
namespace Go.Flow
theorem opens_eq {n:Nat} {ls:List Lk} (hls:∀ x ∈ ls,x.f < n ∧ x.t < n) (rm:Nat → Int):(fun x=>x.t < n ∧ x ∈ insOf ls x.t ∧ 0 < rm x.k) = opn ls rm:=by
  funext x
  apply propext
  unfold opn insOf;rw [List.mem_filter]
  constructor
  · rintro ⟨_,⟨h,_⟩,h2⟩; exact ⟨h,h2⟩
  · rintro ⟨h,h2⟩; exact ⟨(hls x h).2,⟨h,by simp⟩,h2⟩
theorem nxt_eq (ls:List Lk) (rm:Nat → Int) (D:List Int):(fun v=>((outsOf ls v).filter (fun x=>decide (0 < rm x.k))).find? (near D v)) = nxt ls rm D:=by
  funext v
  unfold nxt outsOf;rw [find_filter,find_filter]
  congr 1
  funext x
  rw [← Bool.and_assoc,Bool.and_comm (decide (x.f = v))]
theorem Chn.take {E:Lk → Prop} {v u:Nat} {p:List Lk} (hc:Chn E v p u):∀ i,∃ w,Chn E v (p.take i) w:=by
  induction hc with
  | nil=>intro i; exact ⟨_,by simpa using Chn.nil⟩
  | cons h1 h2 _ ih =>
    intro i
    cases i with
    | zero=>exact ⟨_,by simpa using Chn.nil⟩
    | succ i=>obtain ⟨w,hw⟩:=ih i; exact ⟨w,.cons h1 h2 hw⟩
theorem rTake_cap {n s t:Nat} {l:List Arc} (hok:∀ a ∈ l,okArc n a = true) (hs:s < n) {fl D:List Int} (hf:Flw n l s t fl) (hD:IsDist n t (rE l fl) D) (h0:0 ≤ D.getD s 0) (i:Nat) :
    inCap l (augAll (leastR (rmR l fl) (rP l fl D s)) fl ((rP l fl D s).take i)) = true:=by
  obtain ⟨k,hk⟩:=Int.eq_ofNat_of_zero_le h0
  have hch:=path_chn (rl_lt hok) hD k s hs hk
  have hpos:0 < leastR (rmR l fl) (rP l fl D s):=leastR_pos _ _ _ (by omega) (fun x hx=>(hch.all x hx).1.2)
  obtain ⟨w,hw⟩:=hch.take i
  exact (augAll_ok hok (Int.le_of_lt hpos) (E:=fun x=>rE l fl x ∧ D.getD x.t 0 = D.getD x.f 0 - 1 ∧ D.getD x.f 0 ≤ k) (fun x hx=>hx.1.1) hw fl hf.len hf.cap ((rP_arcs hok hs hD h0).sublist (List.take_sublist _ _)) (fun x hx=>(leastR_le _ _ _).2 x (List.mem_of_mem_take hx))).1
theorem augAll_snoc (room:Int) (fl:List Int) (p:List Lk) (x:Lk):augAll room fl (p ++ [x]) = augR room (augAll room fl p) x:=by simp [augAll]
theorem path_len {n t:Nat} {ls:List Lk} {rm:Nat → Int} {D:List Int} (hls:∀ x ∈ ls,x.f < n ∧ x.t < n) (hD:IsDist n t (opn ls rm) D):∀ (k:Nat) (v:Nat),v < n → D.getD v 0 = (k:Int) → (pathD (nxt ls rm D) D v).length = k:=by
  intro k
  induction k with
  | zero=>intro v hv h; rw [pathD_end (by omega)]; rfl
  | succ k ih =>
    intro v hv h
    obtain ⟨x,hx,hf,ho,hn⟩:=nxt_some hls hD hv (by omega)
    rw [pathD_step hx (by omega) hn,List.length_cons,ih x.t (hls x ho.1).2 (by rw [hn,h]; omega)]
end Go.Flow
/- Cuts and flows: the value of a flow is at most the capacity of a cut; where nothing more can be reached, it is the capacity. No program in sight. No conditions. -/
namespace Go.Flow
def sumTo (g:Nat → Int):Nat → Int
  | 0=>0
  | n + 1=>sumTo g n + g n
theorem sumTo_add (g h:Nat → Int):∀ n,sumTo (fun v=>g v + h v) n = sumTo g n + sumTo h n
  | 0=>rfl
  | n + 1=>by simp only [sumTo]; rw [sumTo_add g h n]; omega
theorem sumTo_congr {g h:Nat → Int}:∀ n,(∀ v,v < n → g v = h v) → sumTo g n = sumTo h n
  | 0,_=>rfl
  | n + 1,e=>by simp only [sumTo]; rw [sumTo_congr n (fun v hv=>e v (by omega)),e n (by omega)]
theorem sumTo_zero {g:Nat → Int}:∀ n,(∀ v,v < n → g v = 0) → sumTo g n = 0
  | 0,_=>rfl
  | n + 1,e=>by simp only [sumTo]; rw [sumTo_zero n (fun v hv=>e v (by omega)),e n (by omega)]; rfl
theorem sumTo_one {g:Nat → Int} {k:Nat}:∀ n,k < n → (∀ v,v < n → v ≠ k → g v = 0) → sumTo g n = g k
  | 0,h,_=>by omega
  | n + 1,h,e=>by
    simp only [sumTo]
    by_cases hk:k = n
    · subst hk
      rw [sumTo_zero k (fun v hv=>e v (by omega) (by omega))]; omega
    · rw [sumTo_one n (by omega) (fun v hv hne=>e v (by omega) hne),e n (by omega) (by omega)]; omega
def netB (B:Nat → Bool):List Arc → List Int → Int
  | a :: l,x :: fl=>((if B a.f.toNat = true then x else 0) - (if B a.t.toNat = true then x else 0)) + netB B l fl
  | _,_=>0
theorem netB_eq {n:Nat} (B:Nat → Bool):∀ (l:List Arc) (fl:List Int),(∀ a ∈ l,okArc n a = true) → sumTo (fun v=>if B v = true then fval v l fl else 0) n = netB B l fl
  | [],fl,_=>by
    rw [sumTo_zero n (fun v _=>by simp [fval])]; rfl
  | a :: l,[],_=>by
    rw [sumTo_zero n (fun v _=>by simp [fval])]; rfl
  | a :: l,x :: fl,h=>by
    obtain ⟨g1,g2,g3,g4,_⟩:=okArc_iff.1 (h a (by simp))
    have ih:=netB_eq B l fl (fun b hb=>h b (by simp [hb]))
    simp only [netB];rw [← ih]
    have e1:sumTo (fun v=>if B v = true then (if a.f = (v:Int) then x else 0) else 0) n = if B a.f.toNat = true then x else 0:=by
      rw [sumTo_one (k:=a.f.toNat) n (by omega) (fun v _ hne=>by rw [if_neg (show ¬ a.f = (v:Int) by omega)]; split <;> rfl)]
      rw [if_pos (show a.f = ((a.f.toNat:Nat):Int) by omega)]
    have e2:sumTo (fun v=>if B v = true then (if a.t = (v:Int) then -x else 0) else 0) n = if B a.t.toNat = true then -x else 0:=by
      rw [sumTo_one (k:=a.t.toNat) n (by omega) (fun v _ hne=>by rw [if_neg (show ¬ a.t = (v:Int) by omega)]; split <;> rfl)]
      rw [if_pos (show a.t = ((a.t.toNat:Nat):Int) by omega)]
    have e3:sumTo (fun v=>if B v = true then fval v (a :: l) (x :: fl) else 0) n = sumTo (fun v=>((if B v = true then (if a.f = (v:Int) then x else 0) else 0) + (if B v = true then (if a.t = (v:Int) then -x else 0) else 0)) + (if B v = true then fval v l fl else 0)) n:=by
      apply sumTo_congr
      intro v _
      simp only [fval]
      repeat' split
      all_goals omega
    rw [e3,sumTo_add,sumTo_add,e1,e2]
    repeat' split
    all_goals omega
section
variable {n s t:Nat} {l:List Arc} {fl:List Int} {B:Nat → Bool}
theorem Flw.net (hok:∀ a ∈ l,okArc n a = true) (hf:Flw n l s t fl) (hs:s < n) (h1:B s = true) (h2:B t = false):netB B l fl = fval s l fl:=by
  rw [← netB_eq B l fl hok,sumTo_one (k:=s) n hs (fun v hv hne=>?_)]
  · rw [if_pos h1]
  · split
    · rename_i hb
      exact hf.bal v hv hne (fun e=>by subst e; rw [h2] at hb; simp at hb)
    · rfl
end
def tight (B:Nat → Bool) (l:List Arc) (fl:List Int):Prop:=
  ∀ (i:Nat) (a:Arc) (x:Int),l[i]? = some a → fl[i]? = some x → (B a.f.toNat = true → B a.t.toNat = false → x = a.c) ∧ (B a.f.toNat = false → B a.t.toNat = true → x = 0)
theorem net_le (B:Nat → Bool):∀ (l:List Arc) (fl:List Int),l.length = fl.length → inCap l fl = true → (∀ a ∈ l,0 ≤ a.c) → netB B l fl ≤ capOf B l ∧ (netB B l fl = capOf B l ↔ tight B l fl)
  | [],[],_,_,_=>⟨by simp [netB,capOf],by simp [netB,capOf,tight]⟩
  | a :: l,x :: fl,hl,h,h0=>by
    simp only [inCap,Bool.and_eq_true,decide_eq_true_eq] at h
    obtain ⟨ih1,ih2⟩:=net_le B l fl (by simpa using hl) h.2 (fun b hb=>h0 b (by simp [hb]))
    have ha:=h0 a (by simp)
    simp only [netB,capOf]
    have hstep:tight B (a :: l) (x :: fl) ↔ (((B a.f.toNat = true → B a.t.toNat = false → x = a.c) ∧ (B a.f.toNat = false → B a.t.toNat = true → x = 0)) ∧ tight B l fl):=by
      constructor
      · intro ht
        exact ⟨ht 0 a x rfl rfl,fun i b y hb hy=>ht (i + 1) b y (by simpa using hb) (by simpa using hy)⟩
      · rintro ⟨h1,h2⟩ i b y hb hy
        cases i with
        | zero=>simp at hb hy; subst hb; subst hy; exact h1
        | succ i=>exact h2 i b y (by simpa using hb) (by simpa using hy)
    rw [hstep,← ih2]
    cases hB1:B a.f.toNat <;> cases hB2:B a.t.toNat <;> simp <;> omega
inductive Rch (E:Lk → Prop) (s:Nat):Nat → Prop
  | refl:Rch E s s
  | step {x:Lk}:Rch E s x.f → E x → Rch E s x.t
theorem Rch.far {n s t:Nat} {E:Lk → Prop} {D:List Int} (hD:IsDist n t E D) (hs:D.getD s 0 < 0) {v:Nat} (h:Rch E s v):D.getD v 0 < 0:=by
  induction h with
  | refl=>exact hs
  | @step x _ hx ih =>
    apply Classical.byContradiction
    intro hc
    have:=(hD.link x hx (by omega)).1
    omega
theorem Rch.sub {E:Lk → Prop} {s:Nat} {B:Nat → Bool} (hs:B s = true) (hcl:∀ x,E x → B x.f = true → B x.t = true) {v:Nat} (h:Rch E s v):B v = true:=by
  induction h with
  | refl=>exact hs
  | step _ hx ih=>exact hcl _ hx ih
section
variable {n s t:Nat} {l:List Arc} {fl:List Int} {B:Nat → Bool}
theorem tight_iff (hl:l.length = fl.length) (hc:inCap l fl = true):tight B l fl ↔ ∀ x,rE l fl x → B x.f = true → B x.t = true:=by
  have hgl:∀ (i:Nat) (a:Arc),l[i]? = some a → l.getD i default = a ∧ ∃ x,fl[i]? = some x ∧ fl.getD i 0 = x:=fun i a ha=>by
    have hi:i < l.length:=(List.getElem?_eq_some_iff.1 ha).1
    have hi2:i < fl.length:=by omega
    refine ⟨by simp [List.getD_eq_getElem?_getD,ha],fl[i],List.getElem?_eq_getElem hi2,by simp [List.getD_eq_getElem?_getD,hi2]⟩
  constructor
  · rintro ht x ⟨hx,hr⟩ hB
    obtain ⟨i,a,ha,hxe⟩:=rlinks_iff.1 hx
    obtain ⟨e1,y,hy,e2⟩:=hgl i a ha
    obtain ⟨t1,t2⟩:=ht i a y ha hy
    have hin:=inCap_get l fl hc i a y ha hy
    unfold rmR at hr
    rcases hxe with rfl | rfl
    · dsimp only at hr hB ⊢
      rw [if_pos (by omega),show 2 * i / 2 = i from by omega,e1,e2] at hr
      cases hb:B a.t.toNat with
      | true=>rfl
      | false=>have:=t1 hB hb; omega
    · dsimp only at hr hB ⊢
      rw [if_neg (by omega),show (2 * i + 1) / 2 = i from by omega,e2] at hr
      cases hb:B a.f.toNat with
      | true=>rfl
      | false=>have:=t2 hb hB; omega
  · intro h i a y ha hy
    obtain ⟨e1,y',hy',e2⟩:=hgl i a ha
    rw [hy] at hy'
    obtain rfl:=Option.some.inj hy'
    have hin:=inCap_get l fl hc i a y ha hy
    constructor
    · intro h1 h2
      have:=h ⟨2 * i,a.f.toNat,a.t.toNat⟩
      apply Classical.byContradiction
      intro hne
      have h3:=this ⟨rlinks_iff.2 ⟨i,a,ha,.inl rfl⟩,by unfold rmR; dsimp only; rw [if_pos (by omega),show 2 * i / 2 = i from by omega,e1,e2]; omega⟩ h1
      dsimp only at h3
      rw [h2] at h3; simp at h3
    · intro h1 h2
      have:=h ⟨2 * i + 1,a.t.toNat,a.f.toNat⟩
      apply Classical.byContradiction
      intro hne
      have h3:=this ⟨rlinks_iff.2 ⟨i,a,ha,.inr rfl⟩,by unfold rmR; dsimp only; rw [if_neg (by omega),show (2 * i + 1) / 2 = i from by omega,e2]; omega⟩ h2
      dsimp only at h3
      rw [h1] at h3; simp at h3
theorem ok_cap (hok:∀ a ∈ l,okArc n a = true):∀ a ∈ l,0 ≤ a.c:=fun a ha=>by have:=okArc_iff.1 (hok a ha); omega
theorem Flw.le_cap (hok:∀ a ∈ l,okArc n a = true) (hf:Flw n l s t fl) (hs:s < n) (h1:B s = true) (h2:B t = false):fval s l fl ≤ capOf B l:=by
  rw [← hf.net hok hs h1 h2];exact (net_le B l fl hf.len hf.cap (ok_cap hok)).1
def IsReach (n:Nat) (E:Lk → Prop) (s:Nat) (B:Nat → Bool):Prop:=∀ v,v < n → (B v = true ↔ Rch E s v)
theorem IsReach.closed {E:Lk → Prop} (hE:∀ x,E x → x.f < n ∧ x.t < n) (h:IsReach n E s B):∀ x,E x → B x.f = true → B x.t = true:=
  fun x hx hb=>(h x.t (hE x hx).2).2 (.step ((h x.f (hE x hx).1).1 hb) hx)
theorem run_cut (hok:∀ a ∈ l,okArc n a = true) (hs:s < n) (ht:t < n) (hst:s ≠ t) (hr:RunR n l s t (List.replicate l.length 0) fl) (hB:IsReach n (rE l fl) s B) :
    Flw n l s t fl ∧ B s = true ∧ B t = false ∧ fval s l fl = capOf B l:=by
  obtain ⟨hf,D,hD,hn⟩:=hr.flw hok hs hst (flw_zeros hok)
  have hE:∀ x,rE l fl x → x.f < n ∧ x.t < n:=fun x hx=>rl_lt hok x hx.1
  have b1:B s = true:=(hB s hs).2 .refl
  have b2:B t = false:=by
    cases hb:B t with
    | false=>rfl
    | true =>
      have:=((hB t ht).1 hb).far hD hn
      rw [hD.at0] at this; omega
  refine ⟨hf,b1,b2,?_⟩;rw [← hf.net hok hs b1 b2];exact (net_le B l fl hf.len hf.cap (ok_cap hok)).2.2 ((tight_iff hf.len hf.cap).2 (hB.closed hE))
end
theorem exists_reach (n:Nat) (E:Lk → Prop) (s:Nat):∃ B,IsReach n E s B:=by
  refine ⟨fun v=>open Classical in decide (Rch E s v),fun v _=>?_⟩
  simp
end Go.Flow
/- Time-expanded networks. No program in sight. No conditions. -/
namespace Go.Step
open Go.Flow (capOf chk okArc okArc_iff)
abbrev Arc:=Go.Flow.Arc
structure VOk (qs:List Int) (cs:List Ct) (bs:List Bk) (hs:List Hd) (d:Dm):Prop where
  ct:∀ c ∈ cs,(0 ≤ c.f ∧ c.f < qs.length) ∧ (0 ≤ c.t ∧ c.t < qs.length) ∧ (0 ≤ c.s ∧ c.s < c.e ∧ c.e ≤ 1099511627776) ∧ (1 ≤ c.r ∧ c.r ≤ 1000) ∧ (1 ≤ c.g ∧ c.g ≤ 1048576)
  nb:bs.length ≤ 512
  bk:firstE (bkE cs bs) bs.length = 0
  hd:∀ x ∈ hs,okHd qs.length x
  nh:hs.length ≤ 512
  fit:fitB qs hs = true
  nq:1 ≤ qs.length ∧ qs.length ≤ 16
  quo:∀ (j:Nat) (q:Int),qs[j]? = some q → 0 ≤ q ∧ q ≤ 1073741824
  dm:okDm qs.length d
  nc:cs.length ≤ 64
def wd (d:Dm):Int:=d.e - d.r + 1
def vtx (d:Dm) (n t:Int):Int:=n * wd d + (t - d.r)
theorem vtx_div {d:Dm} {n t:Int} (h1:d.r ≤ t) (h2:t ≤ d.e):vtx d n t / wd d = n:=by
  unfold vtx
  have hw:wd d ≠ 0:=by unfold wd; omega
  rw [Int.add_comm,Int.add_mul_ediv_right _ _ hw,Int.ediv_eq_zero_of_lt (by omega) (by unfold wd; omega),Int.zero_add]
theorem vtx_mod {d:Dm} {n t:Int} (h1:d.r ≤ t) (h2:t ≤ d.e):vtx d n t % wd d = t - d.r:=by
  unfold vtx
  rw [Int.add_comm,Int.add_mul_emod_self_right,Int.emod_eq_of_lt (by omega) (by unfold wd; omega)]
theorem vtx_inj {d:Dm} {n t m u:Int} (h1:d.r ≤ t) (h2:t ≤ d.e) (h3:d.r ≤ u) (h4:u ≤ d.e) (h:vtx d n t = vtx d m u):n = m ∧ t = u:=by
  have a:=vtx_div (n:=n) h1 h2
  have b:=vtx_mod (n:=n) h1 h2
  rw [h] at a b;rw [vtx_div h3 h4] at a;rw [vtx_mod h3 h4] at b;omega
theorem vtx_next (d:Dm) (n t:Int):vtx d n (t + 1) = vtx d n t + 1:=by unfold vtx; omega
theorem vtx_lt {d:Dm} {n t:Int} {N:Nat} (h1:0 ≤ n) (h2:n < N) (h3:d.r ≤ t) (h4:t ≤ d.e):0 ≤ vtx d n t ∧ vtx d n t < N * wd d:=by
  have hw:0 ≤ wd d:=by unfold wd; omega
  have a:=Int.mul_nonneg h1 hw
  have b:=Int.mul_le_mul_of_nonneg_right (show n + 1 ≤ (N:Int) by omega) hw
  rw [Int.add_mul,Int.one_mul] at b;unfold vtx
  have e:wd d = d.e - d.r + 1:=rfl
  omega
theorem vtx_of {d:Dm} {v:Int} {N:Nat} (hw:0 < wd d) (h1:0 ≤ v) (h2:v < N * wd d):(0 ≤ v / wd d ∧ v / wd d < N) ∧ (d.r ≤ d.r + v % wd d ∧ d.r + v % wd d ≤ d.e) ∧ vtx d (v / wd d) (d.r + v % wd d) = v:=by
  have a:=Int.ediv_nonneg h1 (Int.le_of_lt hw)
  have b:=Int.ediv_lt_of_lt_mul hw h2
  have c:=Int.emod_nonneg v (Int.ne_of_gt hw)
  have e:=Int.emod_lt_of_pos v hw
  have f:=Int.mul_ediv_add_emod v (wd d)
  refine ⟨⟨a,b⟩,⟨by omega,by unfold wd at *; omega⟩,?_⟩
  unfold vtx;rw [Int.mul_comm];omega
structure EA where
  a:Arc
  c:Int
  t:Int
deriving DecidableEq
def waitN (qs:List Int) (hs:List Hd) (d:Dm) (n:Int):List EA:=(rngI d.r d.e).map (fun t=>⟨⟨vtx d n t,vtx d n (t + 1),roomT qs hs d n t⟩,-1,t⟩)
def waitA (qs:List Int) (hs:List Hd) (d:Dm):Nat → List EA
  | 0=>[]
  | n + 1=>waitA qs hs d n ++ waitN qs hs d n
def conE (d:Dm) (c:Ct) (i t:Int):EA:=⟨⟨vtx d c.f t,vtx d c.t (t + 1 + c.g),c.r⟩,i,t⟩
def conN (cs:List Ct) (bs:List Bk) (d:Dm) (i:Nat):List EA:=match cs[i]? with
  | none=>[]
  | some c=>(tickL d.r d.e c.g (freeC cs bs i)).map (conE d c i)
def conA (cs:List Ct) (bs:List Bk) (d:Dm):Nat → List EA
  | 0=>[]
  | i + 1=>conA cs bs d i ++ conN cs bs d i
def arcsE (qs:List Int) (cs:List Ct) (bs:List Bk) (hs:List Hd) (d:Dm):List EA:=waitA qs hs d qs.length ++ conA cs bs d cs.length
def arcsG (qs:List Int) (cs:List Ct) (bs:List Bk) (hs:List Hd) (d:Dm):List Arc:=(arcsE qs cs bs hs d).map (fun x=>x.a)
theorem mem_waitA {qs:List Int} {hs:List Hd} {d:Dm} {x:EA}:∀ {m:Nat},x ∈ waitA qs hs d m ↔ ∃ n:Nat,n < m ∧ ∃ t,d.r ≤ t ∧ t < d.e ∧ x = ⟨⟨vtx d n t,vtx d n (t + 1),roomT qs hs d n t⟩,-1,t⟩
  | 0=>by simp [waitA]
  | m + 1=>by
    unfold waitA;rw [List.mem_append,mem_waitA (m:=m)];unfold waitN;rw [List.mem_map]
    constructor
    · rintro (⟨n,h1,h2⟩ | ⟨t,h1,rfl⟩)
      · exact ⟨n,by omega,h2⟩
      · rw [mem_rngI] at h1
        exact ⟨m,by omega,t,h1.1,h1.2,rfl⟩
    · rintro ⟨n,h1,t,h2,h3,rfl⟩
      by_cases h:n < m
      · exact .inl ⟨n,h,t,h2,h3,rfl⟩
      · obtain rfl:n = m:=by omega
        exact .inr ⟨t,by rw [mem_rngI]; exact ⟨h2,h3⟩,rfl⟩
theorem mem_conA {cs:List Ct} {bs:List Bk} {d:Dm} {x:EA}:∀ {m:Nat},x ∈ conA cs bs d m ↔ ∃ i:Nat,i < m ∧ ∃ c t,cs[i]? = some c ∧ memI (freeC cs bs i) t = true ∧ d.r ≤ t ∧ t + c.g < d.e ∧ x = conE d c i t
  | 0=>by simp [conA]
  | m + 1=>by
    unfold conA;rw [List.mem_append,mem_conA (m:=m)]
    have key:x ∈ conN cs bs d m ↔ ∃ c t,cs[m]? = some c ∧ memI (freeC cs bs m) t = true ∧ d.r ≤ t ∧ t + c.g < d.e ∧ x = conE d c m t:=by
      unfold conN
      cases e:cs[m]? with
      | none=>simp
      | some c =>
        simp only [List.mem_map,mem_tickL,Option.some.injEq]
        constructor
        · rintro ⟨t,⟨h1,h2,h3⟩,rfl⟩
          exact ⟨c,t,rfl,h1,h2,h3,rfl⟩
        · rintro ⟨c',t,rfl,h1,h2,h3,rfl⟩
          exact ⟨t,⟨h1,h2,h3⟩,rfl⟩
    rw [key]
    constructor
    · rintro (⟨i,h1,h2⟩ | h)
      · exact ⟨i,by omega,h2⟩
      · exact ⟨m,by omega,h⟩
    · rintro ⟨i,h1,h2⟩
      by_cases h:i < m
      · exact .inl ⟨i,h,h2⟩
      · obtain rfl:i = m:=by omega
        exact .inr h2
section
variable {qs:List Int} {cs:List Ct} {bs:List Bk} {hs:List Hd} {d:Dm}
theorem VOk.room (h:VOk qs cs bs hs d) (n:Nat) (hn:n < qs.length) (t:Int):0 ≤ roomT qs hs d n t ∧ roomT qs hs d n t ≤ 1099511627776:=by
  refine ⟨room_nonneg h.quo h.hd h.fit d n hn t,?_⟩;unfold roomT
  split
  · omega
  have h1:=stored_bd (n:=(n:Int)) (t:=t) h.hd
  have hx:=List.getElem?_eq_getElem hn
  have hq:=h.quo n _ hx
  rw [Int.toNat_natCast,List.getD_eq_getElem?_getD,hx,Option.getD_some];omega
theorem VOk.free (h:VOk qs cs bs hs d) {i:Nat} {c:Ct} (hc:cs[i]? = some c):NormI (freeC cs bs i) ∧ (∀ z ∈ freeC cs bs i,c.s ≤ z.1 ∧ z.2 ≤ c.e) ∧ ∀ t,memI (freeC cs bs i) t = (decide (c.s ≤ t ∧ t < c.e) && !(bookedB bs i t)):=freeC_ok h.bk hc
inductive ArcIs (qs:List Int) (cs:List Ct) (bs:List Bk) (hs:List Hd) (d:Dm):EA → Prop
  | wait {n:Nat} {t:Int}:n < qs.length → d.r ≤ t → t < d.e → ArcIs qs cs bs hs d ⟨⟨vtx d n t,vtx d n (t + 1),roomT qs hs d n t⟩,-1,t⟩
  | con {i:Nat} {c:Ct} {t:Int}:cs[i]? = some c → d.r ≤ t → c.s ≤ t → t < c.e → t + 1 + c.g ≤ d.e → bookedB bs i t = false → ArcIs qs cs bs hs d (conE d c i t)
theorem VOk.arc (h:VOk qs cs bs hs d) {x:EA}:x ∈ arcsE qs cs bs hs d ↔ ArcIs qs cs bs hs d x:=by
  unfold arcsE;rw [List.mem_append,mem_waitA,mem_conA]
  constructor
  · rintro (⟨n,h1,t,h2,h3,rfl⟩ | ⟨i,h1,c,t,hc,hm,h2,h3,rfl⟩)
    · exact .wait h1 h2 h3
    · rw [(h.free hc).2.2 t,Bool.and_eq_true,decide_eq_true_eq,Bool.not_eq_true'] at hm
      exact .con hc h2 hm.1.1 hm.1.2 (by omega) hm.2
  · rintro (⟨h1,h2,h3⟩ | ⟨hc,h1,h2,h3,h4,h5⟩)
    · exact .inl ⟨_,h1,_,h2,h3,rfl⟩
    · refine .inr ⟨_,(List.getElem?_eq_some_iff.1 hc).1,_,_,hc,?_,h1,by omega,rfl⟩
      rw [(h.free hc).2.2,h5,decide_eq_true ⟨h2,h3⟩]
      rfl
def vsN (qs:List Int) (d:Dm):Int:=qs.length * wd d
theorem VOk.wd (h:VOk qs cs bs hs d):2 ≤ Go.Step.wd d ∧ Go.Step.wd d ≤ 101:=by
  have:=h.dm.2.2.2.2
  unfold Go.Step.wd;omega
theorem VOk.vs (h:VOk qs cs bs hs d):0 ≤ vsN qs d ∧ vsN qs d ≤ 1616:=by
  have h1:=h.wd
  have h2:=h.nq
  unfold vsN
  refine ⟨Int.mul_nonneg (by omega) (by omega),?_⟩
  exact Int.le_trans (Int.mul_le_mul (show ((qs.length:Nat):Int) ≤ 16 by omega) h1.2 (by omega) (by omega)) (by omega)
theorem VOk.ok (h:VOk qs cs bs hs d):∀ a ∈ arcsG qs cs bs hs d,okArc (vsN qs d) a = true:=fun a ha=>by
  obtain ⟨x,hx,rfl⟩:=List.mem_map.1 ha
  have hw:=h.wd
  unfold wd at hw;rw [okArc_iff]
  cases h.arc.1 hx with
  | @wait n t h1 h2 h3 =>
    have a:=vtx_lt (d:=d) (n:=n) (t:=t) (N:=qs.length) (by omega) (by omega) h2 (by omega)
    have b:=vtx_lt (d:=d) (n:=n) (t:=t + 1) (N:=qs.length) (by omega) (by omega) (by omega) (by omega)
    have c:=vtx_next d n t
    have r:=h.room n h1 t
    unfold vsN
    dsimp only
    omega
  | @con i c t hc h1 h2 h3 h4 h5 =>
    have k:=h.ct c (List.mem_of_getElem? hc)
    have a:=vtx_lt (d:=d) (n:=c.f) (t:=t) (N:=qs.length) k.1.1 k.1.2 h1 (by omega)
    have b:=vtx_lt (d:=d) (n:=c.t) (t:=t + 1 + c.g) (N:=qs.length) k.2.1.1 k.2.1.2 (by omega) h4
    have ne:vtx d c.f t ≠ vtx d c.t (t + 1 + c.g):=fun e=>by
      have:=vtx_inj h1 (by omega) (by omega) h4 e
      omega
    unfold vsN conE
    dsimp only
    omega
theorem waitN_len (qs:List Int) (hs:List Hd) (d:Dm) (n:Int):(waitN qs hs d n).length = (d.e - d.r).toNat:=by unfold waitN; rw [List.length_map,rngI_len]
theorem waitA_len (qs:List Int) (hs:List Hd) (d:Dm):∀ m,(waitA qs hs d m).length = m * (d.e - d.r).toNat
  | 0=>by simp [waitA]
  | m + 1=>by unfold waitA; rw [List.length_append,waitA_len qs hs d m,waitN_len,Nat.add_mul,Nat.one_mul]
theorem tickL_all {r e g:Int} {l:List (Int × Int)} (h:NormI l) (hg:0 ≤ g):tickL r e g l = (rngI r e).filter (fun t=>memI l t && decide (t + g < e)):=by
  refine asc_ext (tickL_asc h) ((rngI_asc _ _).filter _) (fun t=>?_)
  rw [mem_tickL,List.mem_filter,mem_rngI,Bool.and_eq_true,decide_eq_true_eq]
  constructor
  · rintro ⟨h1,h2,h3⟩
    exact ⟨by omega,h1,h3⟩
  · rintro ⟨h1,h2,h3⟩
    exact ⟨h2,by omega,h3⟩
theorem VOk.conN_len (h:VOk qs cs bs hs d) (i:Nat):(conN cs bs d i).length ≤ (d.e - d.r).toNat:=by
  unfold conN
  cases e:cs[i]? with
  | none=>simp
  | some c =>
    have k:=h.ct c (List.mem_of_getElem? e)
    simp only [List.length_map]
    rw [tickL_all (h.free e).1 (by omega)]
    exact Nat.le_trans (List.length_filter_le _ _) (by rw [rngI_len]; exact Nat.le_refl _)
theorem VOk.conA_len (h:VOk qs cs bs hs d):∀ m,(conA cs bs d m).length ≤ m * (d.e - d.r).toNat
  | 0=>by simp [conA]
  | m + 1=>by
    have h1:=h.conA_len m
    have h2:=h.conN_len m
    unfold conA;rw [List.length_append,Nat.add_mul,Nat.one_mul];omega
theorem VOk.len (h:VOk qs cs bs hs d):(arcsE qs cs bs hs d).length ≤ 8000:=by
  have h1:=waitA_len qs hs d qs.length
  have h2:=h.conA_len cs.length
  have h3:=h.dm.2.2.2.2
  have h4:(d.e - d.r).toNat ≤ 100:=by omega
  have a:=Nat.mul_le_mul h.nq.2 h4
  have b:=Nat.mul_le_mul h.nc h4
  unfold arcsE;rw [List.length_append];omega
theorem VOk.chk (h:VOk qs cs bs hs d):chk (vsN qs d) (arcsG qs cs bs hs d) = 0:=by
  have h1:=h.vs
  have h2:=h.len
  unfold Go.Flow.chk
  rw [if_neg (by omega),if_neg (by unfold arcsG; rw [List.length_map]; omega),if_pos (List.all_eq_true.2 h.ok)]
theorem VOk.ends (h:VOk qs cs bs hs d):Go.Flow.okEnds (vsN qs d) (vtx d d.s d.r) (vtx d d.d d.e) = true:=by
  have hw:=h.wd
  unfold wd at hw
  obtain ⟨h1,h2,h3,_,h4⟩:=h.dm
  have a:=vtx_lt (d:=d) (n:=d.s) (t:=d.r) (N:=qs.length) h1.1 h1.2 (by omega) (by omega)
  have b:=vtx_lt (d:=d) (n:=d.d) (t:=d.e) (N:=qs.length) h2.1 h2.2 (by omega) (by omega)
  rw [Go.Flow.okEnds_iff];unfold vsN
  refine ⟨a.1,a.2,b.1,b.2,fun e=>?_⟩
  have:=vtx_inj (by omega) (by omega) (by omega) (by omega) e
  omega
/-! sums over lists -/
def lsum {α:Type} (f:α → Int):List α → Int
  | []=>0
  | x :: l=>f x + lsum f l
theorem lsum_append {α:Type} (f:α → Int) (a b:List α):lsum f (a ++ b) = lsum f a + lsum f b:=by
  induction a with
  | nil=>simp [lsum]
  | cons x a ih=>simp only [List.cons_append,lsum,ih]; omega
theorem lsum_map {α β:Type} (f:β → Int) (g:α → β) (l:List α):lsum f (l.map g) = lsum (fun x=>f (g x)) l:=by
  induction l with
  | nil=>rfl
  | cons x l ih=>simp only [List.map_cons,lsum,ih]
theorem lsum_congr {α:Type} {f g:α → Int} {l:List α} (h:∀ x ∈ l,f x = g x):lsum f l = lsum g l:=by
  induction l with
  | nil=>rfl
  | cons x l ih=>simp only [lsum]; rw [h x (by simp),ih (fun y hy=>h y (by simp [hy]))]
theorem lsum_filter {α:Type} (f:α → Int) (p:α → Bool) (l:List α):lsum f (l.filter p) = lsum (fun x=>if p x = true then f x else 0) l:=by
  induction l with
  | nil=>rfl
  | cons x l ih =>
    rw [List.filter_cons]
    by_cases h:p x = true
    · rw [if_pos h]; simp only [lsum,ih,if_pos h]
    · rw [if_neg h]; simp only [lsum,ih,if_neg h]; omega
theorem lsum_range (f:Int → Int) (a:Int):∀ m:Nat,lsum f ((List.range m).map (fun k:Nat=>a + k)) = sumT f a m
  | 0=>rfl
  | m + 1=>by
    rw [List.range_succ,List.map_append,lsum_append,lsum_range f a m]
    simp [lsum,sumT]
theorem lsum_rngI (f:Int → Int) (a b:Int):lsum f (rngI a b) = sumU f a b:=by unfold rngI sumU; exact lsum_range f a _
theorem lsum_zero {α:Type} (l:List α):lsum (fun _:α=>(0:Int)) l = 0:=by
  induction l with
  | nil=>rfl
  | cons x l ih=>simp only [lsum,ih]; omega
theorem capOf_lsum (p:Nat → Bool) (l:List Arc):capOf p l = lsum (fun a=>if p a.f.toNat = true ∧ p a.t.toNat = false then a.c else 0) l:=by
  induction l with
  | nil=>rfl
  | cons a l ih=>simp only [capOf,lsum,ih]
/-! the capacity of a set of nodes at times -/
def waitB (qs:List Int) (hs:List Hd) (d:Dm) (B:Int → Int → Bool) (n t:Int):Int:=if (B n t && !B n (t + 1)) = true then roomT qs hs d n t else 0
def conB (cs:List Ct) (bs:List Bk) (d:Dm) (B:Int → Int → Bool) (i t:Int):Int:=match cs[i.toNat]? with
  | none=>0
  | some x=>if x.s ≤ t ∧ t < x.e ∧ t + 1 + x.g ≤ d.e ∧ bookedB bs i t = false ∧ (B x.f t && !B x.t (t + 1 + x.g)) = true then x.r else 0
def capB (qs:List Int) (cs:List Ct) (bs:List Bk) (hs:List Hd) (d:Dm) (B:Int → Int → Bool):Int:=
  sumT (fun n=>sumU (waitB qs hs d B n) d.r d.e) 0 qs.length + sumT (fun i=>sumU (conB cs bs d B i) d.r d.e) 0 cs.length
theorem lsum_waitA (f:EA → Int) (qs:List Int) (hs:List Hd) (d:Dm):∀ m:Nat,lsum f (waitA qs hs d m) = sumT (fun n=>sumU (fun t=>f ⟨⟨vtx d n t,vtx d n (t + 1),roomT qs hs d n t⟩,-1,t⟩) d.r d.e) 0 m
  | 0=>rfl
  | m + 1=>by
    unfold waitA;rw [lsum_append,lsum_waitA f qs hs d m];unfold waitN;rw [lsum_map,lsum_rngI]
    show _ = sumT _ 0 m + _
    rw [Int.zero_add]
theorem VOk.lsum_conN (h:VOk qs cs bs hs d) (f:EA → Int) (i:Nat) {c:Ct} (hc:cs[i]? = some c):lsum f (conN cs bs d i) = sumU (fun t=>if c.s ≤ t ∧ t < c.e ∧ t + 1 + c.g ≤ d.e ∧ bookedB bs i t = false then f (conE d c i t) else 0) d.r d.e:=by
  have k:=h.ct c (List.mem_of_getElem? hc)
  obtain ⟨n1,_,n3⟩:=h.free hc
  unfold conN;rw [hc];simp only
  rw [lsum_map,tickL_all n1 (by omega),lsum_filter,lsum_rngI]
  congr 1
  funext t
  rw [n3]
  by_cases hb:bookedB bs i t = false
  · by_cases h1:c.s ≤ t ∧ t < c.e ∧ t + 1 + c.g ≤ d.e
    · have hl:(decide (c.s ≤ t ∧ t < c.e) && !bookedB bs (↑i) t && decide (t + c.g < d.e)) = true:=by
        rw [hb,decide_eq_true (show c.s ≤ t ∧ t < c.e by omega),decide_eq_true (show t + c.g < d.e by omega)]
        rfl
      rw [if_pos hl,if_pos ⟨h1.1,h1.2.1,h1.2.2,hb⟩]
    · rw [if_neg (show ¬ (decide (c.s ≤ t ∧ t < c.e) && !bookedB bs (↑i) t && decide (t + c.g < d.e)) = true by
          rw [Bool.and_eq_true,Bool.and_eq_true,decide_eq_true_eq,decide_eq_true_eq]
          omega),if_neg (show ¬ (c.s ≤ t ∧ t < c.e ∧ t + 1 + c.g ≤ d.e ∧ bookedB bs i t = false) from fun h2=>h1 ⟨h2.1,h2.2.1,h2.2.2.1⟩)]
  · rw [if_neg (show ¬ (decide (c.s ≤ t ∧ t < c.e) && !bookedB bs (↑i) t && decide (t + c.g < d.e)) = true by
        rw [Bool.and_eq_true,Bool.and_eq_true,Bool.not_eq_true']
        exact fun h2=>hb h2.1.2),if_neg (show ¬ (c.s ≤ t ∧ t < c.e ∧ t + 1 + c.g ≤ d.e ∧ bookedB bs i t = false) from fun h2=>hb h2.2.2.2)]
theorem capB_eq (h:VOk qs cs bs hs d) (p:Nat → Bool):capOf p (arcsG qs cs bs hs d) = capB qs cs bs hs d (fun n t=>p (vtx d n t).toNat):=by
  have hcond:∀ a b:Bool,(a = true ∧ b = false) ↔ (a && !b) = true:=by decide
  unfold arcsG;rw [capOf_lsum,lsum_map];unfold arcsE;rw [lsum_append,lsum_waitA];unfold capB
  congr 1
  · refine sumT_congr (fun k hk=>?_)
    congr 1
    funext t
    unfold waitB;simp only [hcond]
  · have:∀ m,m ≤ cs.length → lsum (fun x:EA=>if p x.a.f.toNat = true ∧ p x.a.t.toNat = false then x.a.c else 0) (conA cs bs d m) = sumT (fun i=>sumU (conB cs bs d (fun n t=>p (vtx d n t).toNat) i) d.r d.e) 0 m:=by
      intro m
      induction m with
      | zero=>intro _; rfl
      | succ m ih =>
        intro hm
        have hx:=List.getElem?_eq_getElem (show m < cs.length by omega)
        unfold conA
        rw [lsum_append,ih (by omega),h.lsum_conN _ m hx]
        show _ = sumT _ 0 m + _
        congr 1
        rw [Int.zero_add]
        congr 1
        funext t
        unfold conB;rw [Int.toNat_natCast,hx];simp only [conE,hcond]
        by_cases h1:cs[m].s ≤ t ∧ t < cs[m].e ∧ t + 1 + cs[m].g ≤ d.e ∧ bookedB bs m t = false
        · rw [if_pos h1]
          by_cases h2:(p (vtx d cs[m].f t).toNat && !p (vtx d cs[m].t (t + 1 + cs[m].g)).toNat) = true
          · rw [if_pos h2,if_pos ⟨h1.1,h1.2.1,h1.2.2.1,h1.2.2.2,h2⟩]
          · rw [if_neg h2,if_neg (fun h3=>h2 h3.2.2.2.2)]
        · rw [if_neg h1,if_neg (fun h3=>h1 ⟨h3.1,h3.2.1,h3.2.2.1,h3.2.2.2.1⟩)]
    exact this _ (Nat.le_refl _)
end
end Go.Step
/- Maps whose keys are structs of two or three ints: looked up, changed. No conditions. -/
namespace Go.Eng
variable {C : Cx} {D : List Deferred} {R H : List PH} {L : Env} {K : List It}
variable {dst : Option Tmp} {ty : TypeId} {pos : String} {aft : Array Edge} {g : Option (Nat × Bool)}
abbrev aggI (k : List Int) : Value := .agg (k.map int).toArray
def entsS : Nat → List (List Int × Value) → List MapEntry
  | _, [] => []
  | i, kv :: m => ⟨aggI kv.1, kv.2, i⟩ :: entsS (i + 1) m
def mapS (m : List (List Int × Value)) : Obj := .map (entsS 0 m).toArray m.length
def midxS (k : List Int) : List (List Int × Value) → Option (Nat × Value)
  | [] => none
  | (a, v) :: m => if k = a then some (0, v) else (midxS k m).map (fun p => (p.1 + 1, p.2))
def mgetS (k : List Int) (m : List (List Int × Value)) : Option Value := (midxS k m).map (·.2)
def msetS (k : List Int) (v : Value) : List (List Int × Value) → List (List Int × Value)
  | [] => [(k, v)]
  | (a, w) :: m => if k = a then (a, v) :: m else (a, w) :: msetS k v m
theorem mgetS_mset (k x : List Int) (v : Value) : ∀ m : List (List Int × Value), mgetS x (msetS k v m) = if x = k then some v else mgetS x m
  | [] => by
    by_cases h : x = k <;> simp [msetS, mgetS, midxS, h]
  | (a, w) :: m => by
    have ih := mgetS_mset k x v m
    by_cases h : k = a
    · subst h
      simp only [msetS, if_true, mgetS, midxS]
      by_cases e : x = k <;> simp [e]
    · simp only [msetS, if_neg h, mgetS, midxS] at ih ⊢
      by_cases e : x = a
      · subst e
        simp [Ne.symm h]
      · simp only [if_neg e, Option.map_map] at ih ⊢
        have e2 : ((fun x : Nat × Value => x.2) ∘ fun p : Nat × Value => (p.1 + 1, p.2)) = fun x => x.2 := rfl
        rw [e2, ih]
theorem mset_noneS {k : List Int} {v : Value} : ∀ {m : List (List Int × Value)} (i : Nat), midxS k m = none → entsS i m ++ [⟨aggI k, v, i + m.length⟩] = entsS i (msetS k v m) ∧ (msetS k v m).length = m.length + 1
  | [], i, _ => ⟨rfl, rfl⟩
  | (a, w) :: m, i, h => by
    unfold midxS at h
    split at h
    · exact absurd h (by simp)
    · rename_i hk
      have h' : midxS k m = none := by simpa using h
      obtain ⟨e, l⟩ := mset_noneS (k := k) (v := v) (m := m) (i + 1) h'
      simp only [msetS, if_neg hk, entsS, List.cons_append, List.length_cons, l, and_true, ← e]
      congr 4
      omega
theorem mset_someS {k : List Int} {v : Value} : ∀ {m : List (List Int × Value)} (i n : Nat) (w : Value), midxS k m = some (n, w) → (entsS i m).modify n (fun e => { e with key := aggI k, val := v }) = entsS i (msetS k v m) ∧ (msetS k v m).length = m.length ∧ n < m.length ∧ ((entsS i m)[n]?).map (·.key) = some (aggI k)
  | [], i, n, w, h => by simp [midxS] at h
  | (a, u) :: m, i, n, w, h => by
    unfold midxS at h
    split at h
    · rename_i hk
      subst hk
      simp at h
      obtain ⟨rfl, rfl⟩ := h
      simp [entsS, msetS]
    · rename_i hk
      cases hm : midxS k m with
      | none => rw [hm] at h; simp at h
      | some p =>
        rw [hm] at h
        simp at h
        obtain ⟨rfl, rfl⟩ := h
        obtain ⟨e, l, l2, l3⟩ := mset_someS (k := k) (v := v) (m := m) (i + 1) p.1 p.2 hm
        simp only [msetS, if_neg hk, entsS, List.length_cons, l, List.modify_succ_cons, e]
        refine ⟨trivial, trivial, by omega, ?_⟩
        simpa using l3
structure KeyS (P : Program) (kt : TypeId) (n : Nat) : Prop where
  i : intsP P kt n = true
  s : P.stoodInHeld kt = false
theorem run_askS {P : Program} {w : World} {kt : TypeId} {n : Nat} {k : List Int} (hk : KeyS P kt n) (hn : k.length = n) : ∀ (m : List (List Int × Value)) (i j : Nat), (∀ x ∈ m, x.1.length = n) → (Instr.findAsking kt (aggI k) (entsS i m) j).run P w = .ok ((midxS k m).map (fun p => (j + p.1, p.2))) w
  | [], i, j, _ => by simp [entsS, Instr.findAsking, midxS]
  | (a, v) :: m, i, j, h => by
    have ih := run_askS (w := w) hk hn m (i + 1) (j + 1) (fun x hx => h x (by simp [hx]))
    have he := run_eqInts (P := P) w hk.i hk.s hn (h (a, v) (by simp))
    simp only [entsS, Instr.findAsking, Op.equal, Op.maxDepth, Sem.run_bind, he, Result.andThen_ok, midxS]
    by_cases e : k = a
    · simp [e]
    · simp only [e, decide_false, Bool.false_eq_true, if_false, ih, Option.map_map]
      congr 2
      funext p
      show (j + 1 + p.1, p.2) = (j + (p.1 + 1), p.2)
      rw [show j + 1 + p.1 = j + (p.1 + 1) by omega]
theorem run_findS {P : Program} {w : World} {kt : TypeId} {n : Nat} {k : List Int} (hk : KeyS P kt n) (hn : k.length = n) {m : List (List Int × Value)} (h : ∀ x ∈ m, x.1.length = n) : (Instr.findKey kt (aggI k) (entsS 0 m)).run P w = .ok (midxS k m) w := by
  obtain ⟨fs, hu, _, _⟩ := intsP_of hk.i
  rw [run_findKey_eq w (by rw [hu]), run_askS hk hn m 0 0 h]
  simp
theorem run_checkFlds {P : Program} {w : World} (em : Bool) (d : Nat) (k : List Int) : ∀ (fs : List Field) (j : Nat), fldsI P j fs = true → j + fs.length = k.length →
    ((forIn fs PUnit.unit fun (f : Field) (_ : PUnit) => (if f.name ≠ "_" then do let x ← part f.type (k.map int).toArray f.offset; Instr.checkKey em (d + 1) f.type x; pure (ForInStep.yield PUnit.unit) else pure (ForInStep.yield PUnit.unit) : Sem (ForInStep PUnit)))).run P w = .ok PUnit.unit w
  | [], j, _, _ => by simp
  | f :: fs, j, hf, h => by
    simp only [fldsI, fldI, Bool.and_eq_true, bne_iff_ne, ne_eq, beq_iff_eq] at hf
    obtain ⟨⟨⟨h3, h4⟩, h5⟩, h6⟩ := hf
    have hu : P.underlying f.type = some (.int .i64) := by
      split at h5
      · assumption
      · simp at h5
    have ih := run_checkFlds (w := w) em d k fs (j + 1) h6 (by simp at h; omega)
    have hk : j < k.length := by simp at h; omega
    have hp : (part f.type (k.map int).toArray f.offset).run P w = .ok (int k[j]) w := by
      have hag : aggP P f.type = some false := by simp [aggP, hu]
      simp [part, run_isAgg hag, h4, hk]
    have hc := run_checkKey (P := P) (w := w) (k := k[j]) em d hu
    rw [List.forIn_cons];simp only [h3, not_false_eq_true, if_true, ne_eq, bind_assoc, Sem.run_bind, hp, hc, Result.andThen_ok, pure_bind];exact ih
theorem run_checkS {P : Program} {w : World} {kt : TypeId} {n : Nat} {k : List Int} (hk : KeyS P kt n) (hn : k.length = n) (em : Bool) : (Instr.checkKey em 10000 kt (aggI k)).run P w = .ok () w := by
  obtain ⟨fs, hu, hs, hf⟩ := intsP_of hk.i
  have h := run_checkFlds (P := P) (w := w) em 9998 k fs.toList 0 hf (by simp [hs, hn])
  rw [show (10000 : Nat) = 9999 + 1 from rfl, Instr.checkKey]
  simp only [Sem.run_bind, run_underlying hu, Result.andThen_ok, ← Array.forIn_toList];rw [h]
  rfl
theorem run_lookupS {P : Program} {w : World} {t kt et : TypeId} {b n : Nat} {k : List Int} {l : List (List Int × Value)} {z : Value} {ok : Bool} (ht : P.underlying t = some (.map kt et)) (hk : KeyS P kt n) (hn : k.length = n) (hl : ∀ x ∈ l, x.1.length = n) (hz : zeroP P et = some z) (hg : w.heap[b]? = some (mapS l)) :
    (Instr.lookup t (.map (some b)) (aggI k) ok).run P w = .ok (if ok then .tuple #[(mgetS k l).getD z, .bool (mgetS k l).isSome] else (mgetS k l).getD z) w := by
  have hf := run_findS (P := P) (w := w) (k := k) hk hn hl
  have hc := fun e => run_checkS (P := P) (w := w) (k := k) hk hn e
  unfold mgetS
  cases hm : midxS k l with
  | none =>
    rw [hm] at hf
    simp [Instr.lookup, run_underlying ht, getObj, Sem.run, hg, mapS]
    simp [hc, hf, run_zeroValue hz]
  | some p =>
    rw [hm] at hf
    simp [Instr.lookup, run_underlying ht, getObj, Sem.run, hg, mapS]
    simp [hc, hf]
def MapAtS (N : Bs) (R H : List PH) (b : Nat) (l : List (List Int × Value)) : Prop := ∀ w, Sat N R H w → w.heap[b]? = some (mapS l)
theorem mapAtS_rd {N : Bs} {b : Nat} {l : List (List Int × Value)} (m : Mem (sng b (mapS l)) R) : MapAtS N R H b l := fun w hs => hs.r _ m.mem b _ (sng_self b _)
theorem E8 {t : TypeId} : Loud C R H L ⟨dst, .makeMap t none, ty, pos, aft, g⟩ (fun v H' => ∃ b, v = .map (some b) ∧ H' = sng b (mapS []) :: H) := EH
theorem FQ {x y : Operand} {t kt et : TypeId} {b : Nat} (n : Nat) (k : List Int) {l : List (List Int × Value)} {z : Value} (h : evalE L x = some (.map (some b))) (hk : evalE L y = some (aggI k)) (ht : C.P.underlying t = some (.map kt et)) (hkt : KeyS C.P kt n) (hn : k.length = n) (hl : ∀ x ∈ l, x.1.length = n) (hz : zeroP C.P et = some z) (hm : MapAtS C.N R H b l) :
    Quiet C R H L ⟨dst, .lookup t x y false, ty, pos, aft, g⟩ ((mgetS k l).getD z) :=
  ⟨by intro c; simp, fun a w hx hs => by
    have e1 := hx x (by simp [Op.operands]) _ h
    have e2 := hx y (by simp [Op.operands]) _ hk
    simp [execOp, e1, e2, run_lookupS (ok := false) ht hkt hn hl hz (hm w hs)]⟩
theorem sameBits_agg (k : List Int) : Instr.sameBits 10000 (aggI k) (aggI k) = true := by
  have h : ∀ l : List Int, ((l.map int).zip (l.map int)).all (fun p => Instr.sameBits 9999 p.1 p.2) = true := by
    intro l
    induction l with
    | nil => rfl
    | cons x l ih =>
      simp only [List.map_cons, List.zip_cons_cons, List.all_cons, ih, Bool.and_true]
      simp [Instr.sameBits]
  have h2 := h k
  simp only [aggI];unfold Instr.sameBits;simp only [beq_self_eq_true, Bool.true_and];exact h2
theorem run_mapUpdateS {P : Program} {w : World} {t kt et : TypeId} {b n : Nat} {k : List Int} {v : Value} {l : List (List Int × Value)} (ht : P.underlying t = some (.map kt et)) (hkt : KeyS P kt n) (hn : k.length = n) (hl : ∀ x ∈ l, x.1.length = n) (hg : w.heap[b]? = some (mapS l)) :
    (Instr.mapUpdate t (.map (some b)) (aggI k) v).run P w = .ok () { w with heap := w.heap.setIfInBounds b (mapS (msetS k v l)) } := by
  have hf := run_findS (P := P) (w := w) (k := k) hkt hn hl
  have hc := fun e => run_checkS (P := P) (w := w) (k := k) hkt hn e
  cases hm : midxS k l with
  | none =>
    rw [hm] at hf
    obtain ⟨e, n⟩ := mset_noneS (k := k) (v := v) 0 hm
    have e2 : mapS (msetS k v l) = .map ((entsS 0 l).toArray.push ⟨aggI k, v, l.length⟩) (l.length + 1) := by
      unfold mapS; rw [n, ← e]; simp
    rw [e2]
    simp [Instr.mapUpdate, run_underlying ht, getObj, Sem.run, hg, mapS]
    simp [hc, hf, setObj, Sem.run, hg, mapS]
  | some p =>
    rw [hm] at hf
    obtain ⟨e, n, n2, n3⟩ := mset_someS (k := k) (v := v) 0 p.1 p.2 hm
    have e2 : mapS (msetS k v l) = .map ((entsS 0 l).toArray.modify p.1 (fun e => { e with key := aggI k, val := v })) l.length := by
      unfold mapS; rw [n, ← e]; simp
    rw [e2]
    have hks : (Instr.keyThatStays (aggI k) (aggI k)).run P w = .ok (aggI k) w := by simp [Instr.keyThatStays, sameBits_agg]
    simp [Instr.mapUpdate, run_underlying ht, getObj, Sem.run, hg, mapS]
    simp [hc, hf, setObj, Sem.run, n3, hks, hg, mapS]
theorem EM {x y z : Operand} {t kt et : TypeId} {b : Nat} (n : Nat) (k : List Int) {v : Value} {l : List (List Int × Value)} {H' : List PH} (h : evalE L x = some (.map (some b))) (hk : evalE L y = some (aggI k)) (hv : evalE L z = some v) (ht : C.P.underlying t = some (.map kt et)) (hkt : KeyS C.P kt n) (hn : k.length = n) (hl : ∀ x ∈ l, x.1.length = n) (hm : Take (sng b (mapS l)) H H') :
    Loud C R H L ⟨dst, .mapUpdate t x y z, ty, pos, aft, g⟩ (fun u H2 => u = undef ∧ H2 = sng b (mapS (msetS k v l)) :: H') := by
  refine ⟨fun a w hx hs next Q hnx => ?_⟩
  have hg := hs.own hm
  have e1 := hx x (by simp [Op.operands]) _ h
  have e2 := hx y (by simp [Op.operands]) _ hk
  have e3 := hx z (by simp [Op.operands]) _ hv
  refine wpIn_skipv (w' := { w with heap := w.heap.setIfInBounds b (mapS (msetS k v l)) }) (by intro c; simp) ?_ (hnx _ _ _ ⟨rfl, rfl⟩ (hs.turn hm ?_ ?_ ?_))
  · simp [execOp, e1, e2, e3, run_mapUpdateS ht hkt hn hl hg]
  · simp
  · have : b < w.heap.size := by
      rw [Array.getElem?_eq_some_iff] at hg; exact hg.1
    simp [this]
  · intro k hk; simp [Array.getElem?_setIfInBounds, Ne.symm hk]
theorem msetS_len {k : List Int} {v : Value} {n : Nat} (hk : k.length = n) : ∀ {l : List (List Int × Value)}, (∀ x ∈ l, x.1.length = n) → ∀ x ∈ msetS k v l, x.1.length = n
  | [], _, x, hx => by simp [msetS] at hx; rw [hx]; exact hk
  | (a, w) :: l, h, x, hx => by
    unfold msetS at hx
    split at hx
    · rcases List.mem_cons.1 hx with rfl | hx
      · exact h (a, w) (by simp)
      · exact h x (by simp [hx])
    · rcases List.mem_cons.1 hx with rfl | hx
      · exact h (a, w) (by simp)
      · exact msetS_len hk (l := l) (fun y hy => h y (by simp [hy])) x hx
end Go.Eng
/- Nodes at times, numbered in a map. No program in sight. No conditions. -/
namespace Go.Step
open Go.Eng
def placesN (d:Dm) (n:Nat) (t:Int):List (Int × Int):=(rngI d.r t).map (fun u=>((n:Int),u))
def placesA (d:Dm):Nat → List (Int × Int)
  | 0=>[]
  | n + 1=>placesA d n ++ placesN d n (d.e + 1)
theorem placesN_len (d:Dm) (n:Nat) (t:Int):(placesN d n t).length = (t - d.r).toNat:=by unfold placesN; rw [List.length_map,rngI_len]
theorem placesA_len {d:Dm} (h:d.r ≤ d.e):∀ m:Nat,((placesA d m).length:Int) = m * wd d
  | 0=>by simp [placesA]
  | m + 1=>by
    have ih:=placesA_len h m
    unfold placesA;rw [List.length_append,placesN_len,Int.natCast_add,ih,Int.natCast_add,Int.add_mul];unfold wd;omega
theorem places_at {d:Dm} (h:d.r ≤ d.e) {k:Nat} {t:Int} (ht:d.r ≤ t):((placesA d k ++ placesN d k t).length:Int) = vtx d k t:=by
  rw [List.length_append,placesN_len,Int.natCast_add,placesA_len h];unfold vtx;omega
theorem placesN_snoc {d:Dm} {k:Nat} {t:Int} (ht:d.r ≤ t):placesN d k (t + 1) = placesN d k t ++ [((k:Int),t)]:=by
  unfold placesN;rw [rngI_snoc ht,List.map_append]
  rfl
theorem placesN_nil (d:Dm) (k:Nat):placesN d k d.r = []:=by
  unfold placesN;rw [rngI_nil (Int.le_refl _)]
  rfl
theorem placesA_get {d:Dm} (h:d.r ≤ d.e) {n:Nat} {t:Int} (h1:d.r ≤ t) (h2:t ≤ d.e):∀ {m:Nat},n < m → (placesA d m)[(vtx d n t).toNat]? = some ((n:Int),t)
  | 0,hm=>by omega
  | m + 1,hm=>by
    have hl:=placesA_len h m
    have hp:0 ≤ vtx d n t:=by
      unfold vtx
      have:=Int.mul_nonneg (show 0 ≤ (n:Int) by omega) (show 0 ≤ wd d by unfold wd; omega)
      omega
    unfold placesA
    by_cases hn:n < m
    · have hlt:=(vtx_lt (d:=d) (n:=n) (t:=t) (N:=m) (by omega) (by omega) h1 h2).2
      rw [List.getElem?_append_left (by omega)]
      exact placesA_get h h1 h2 hn
    · obtain rfl:n = m:=by omega
      have hv:vtx d n t = n * wd d + (t - d.r):=rfl
      rw [List.getElem?_append_right (by omega)]
      have e:(vtx d n t).toNat - (placesA d n).length = (t - d.r).toNat:=by omega
      rw [e];unfold placesN
      rw [List.getElem?_map,rngI_get (by omega)]
      simp only [Option.map_some,Option.some.injEq,Prod.mk.injEq,true_and];omega
theorem tickL_len (r e g:Int) (F:List (Int × Int)) {k:Nat} {x:Int × Int} (h:F[k]? = some x):(tickL r e g (F.take (k + 1))).length = (tickL r e g (F.take k)).length + (min x.2 (e - g) - max x.1 r).toNat:=by
  obtain ⟨hk,rfl⟩:=List.getElem?_eq_some_iff.1 h
  unfold tickL;rw [List.take_succ_eq_append_getElem hk,List.flatMap_append,List.length_append]
  congr 1
  simp [tickS,rngI_len]
theorem tickL_at (r e g:Int) (F:List (Int × Int)) {k:Nat} {x:Int × Int} (h:F[k]? = some x) {t:Int} (h1:max x.1 r ≤ t) (h2:t < min x.2 (e - g)):(tickL r e g F)[(tickL r e g (F.take k)).length + (t - max x.1 r).toNat]? = some t:=by
  obtain ⟨hk,rfl⟩:=List.getElem?_eq_some_iff.1 h
  have hF:tickL r e g F = tickL r e g (F.take k) ++ (tickS r e g F[k] ++ tickL r e g (F.drop (k + 1))):=by
    have h3:F = F.take k ++ F[k] :: F.drop (k + 1):=by rw [← List.drop_eq_getElem_cons hk,List.take_append_drop]
    conv=>lhs; rw [h3]
    unfold tickL;rw [List.flatMap_append,List.flatMap_cons]
  rw [hF,List.getElem?_append_right (by omega),Nat.add_sub_cancel_left,List.getElem?_append_left (by unfold tickS; rw [rngI_len]; omega)]
  unfold tickS
  rw [rngI_get (by omega)]
  congr 1
  omega
def NumAt (d:Dm) (k t:Int) (M:List (List Int × Value)):Prop:=(∀ e ∈ M,e.1.length = 2) ∧ ∀ n u:Int,mgetS [n,u] M = if (0 ≤ n ∧ d.r ≤ u ∧ u ≤ d.e) ∧ (n < k ∨ (n = k ∧ u < t)) then some (int (vtx d n u)) else none
theorem NumAt.nil (d:Dm):NumAt d 0 d.r []:=⟨by simp,fun n u=>by rw [if_neg (by omega)]; rfl⟩
theorem NumAt.row {d:Dm} {k t:Int} {M:List (List Int × Value)} (h:NumAt d k t M) (ht:d.e < t):NumAt d (k + 1) d.r M:=⟨h.1,fun n u=>by
  rw [h.2]
  by_cases c:(0 ≤ n ∧ d.r ≤ u ∧ u ≤ d.e) ∧ (n < k ∨ (n = k ∧ u < t))
  · rw [if_pos c,if_pos (by omega)]
  · rw [if_neg c,if_neg (by omega)]⟩
theorem NumAt.add {d:Dm} {k t:Int} {M:List (List Int × Value)} (h:NumAt d k t M) (hk:0 ≤ k) (h1:d.r ≤ t) (h2:t ≤ d.e):NumAt d k (t + 1) (msetS [k,t] (int (vtx d k t)) M):=⟨msetS_len rfl h.1,fun n u=>by
  rw [mgetS_mset]
  by_cases c:[n,u] = [k,t]
  · rw [if_pos c]
    simp only [List.cons.injEq,and_true] at c
    obtain ⟨rfl,rfl⟩:=c
    rw [if_pos (by omega)]
  · rw [if_neg c,h.2]
    have c2:¬ (n = k ∧ u = t):=fun h=>c (by rw [h.1,h.2])
    by_cases c3:(0 ≤ n ∧ d.r ≤ u ∧ u ≤ d.e) ∧ (n < k ∨ (n = k ∧ u < t))
    · rw [if_pos c3,if_pos (by omega)]
    · rw [if_neg c3,if_neg (by omega)]⟩
end Go.Step
/- What an owned slice looks like; chunks that hold more. No conditions. -/
namespace Go.Eng
theorem OwnS.form {e:TypeId} {s n:Nat} {v:Value} {xs:List Value} {ρ:PH} (h:OwnS e s v n xs ρ):∃ p c,v = .slice p n c:=by
  obtain ⟨_,⟨rfl,rfl,_⟩ | ⟨b,cap,_,rfl,_⟩⟩:=h
  · exact ⟨none,0,rfl⟩
  · exact ⟨_,cap,rfl⟩
theorem OwnS.formP {e:TypeId} {s n:Nat} {v:Value} {xs:List Value} {ρ:PH} (h:OwnS e s v n xs ρ) (hn:0 < n):∃ b c,v = .slice (some ⟨b,0,none⟩) n c:=by
  obtain ⟨_,⟨_,h,_⟩ | ⟨b,cap,_,rfl,_⟩⟩:=h
  · omega
  · exact ⟨b,cap,rfl⟩
theorem SlAt.mono {ρ γ:PH} {s n:Nat} {v:Value} {xs:List Value} (h:SlAt ρ s v n xs) (hs:PH.sub ρ γ):SlAt γ s v n xs:=by
  obtain ⟨h1,h2 | ⟨b,o,c,e,h3⟩⟩:=h
  · exact ⟨h1,.inl h2⟩
  · exact ⟨h1,.inr ⟨b,o,c,e,fun j u hu=>hs.rdc (h3 j u hu)⟩⟩
theorem SlE.mono {α:Type} {enc:α → List Value} {s:Nat} {ρ γ:PH} {v:Value} {l:List α} (h:SlE enc s ρ v l) (hs:PH.sub ρ γ):SlE enc s γ v l:=SlAt.mono h hs
end Go.Eng
/- Arrays of small values: their elements' places, two of them built. No conditions. -/
namespace Go.Eng
variable {C:Cx} {R H:List PH} {L:Env} {dst:Option Tmp} {ty:TypeId} {pos:String} {aft:Array Edge} {g:Option (Nat × Bool)}
theorem GG {x y:Operand} {t e:TypeId} {b o n i:Nat} {k:IntKind} (h:evalE L x = some (.pointer (some ⟨b,o,none⟩))) (h2:evalE L y = some (.int k (i:Int))) (ht:C.P.underlying t = some (.array n e)) (hs:szP C.P e = some 1) (hn:i < n) :
    Quiet C R H L ⟨dst,.indexAddr t x y,ty,pos,aft,g⟩ (.pointer (some ⟨b,o + i,none⟩)):=
  ⟨by intro c; simp,fun a w hx _=>by
    simp [execOp,hx x (by simp [Op.operands]) _ h,hx y (by simp [Op.operands]) _ h2,Instr.indexAt,Instr.sureAddr,asIntOf,run_underlying ht,hn,run_sizeOf hs,Addr.add_lit]⟩
theorem GW {x y:Operand} {t e:TypeId} {b o n:Nat} {k:IntKind} (h:evalE L x = some (.pointer (some ⟨b,o,none⟩))) (h2:evalE L y = some (.int k 0)) (ht:C.P.underlying t = some (.array n e)) (hs:szP C.P e = some 1) (hn:0 < n) :
    Quiet C R H L ⟨dst,.indexAddr t x y,ty,pos,aft,g⟩ (.pointer (some ⟨b,o,none⟩)):=GG (i:=0) h h2 ht hs hn
theorem GX {x y:Operand} {t e:TypeId} {b o n:Nat} {k:IntKind} (h:evalE L x = some (.pointer (some ⟨b,o,none⟩))) (h2:evalE L y = some (.int k 1)) (ht:C.P.underlying t = some (.array n e)) (hs:szP C.P e = some 1) (hn:1 < n) :
    Quiet C R H L ⟨dst,.indexAddr t x y,ty,pos,aft,g⟩ (.pointer (some ⟨b,o + 1,none⟩)):=GG (i:=1) h h2 ht hs hn
theorem DH {x y:Operand} {t e:TypeId} {z0 z1 v0 v1:Value} (h:evalE L x = some v0) (h2:evalE L y = some v1) (ht:C.P.underlying t = some (.array 2 e)) (hs:szP C.P e = some 1) (hz:zeroP C.P t = some (.agg #[z0,z1])) (o0:v0.oneCell' = true) (o1:v1.oneCell' = true) :
    Quiet C R H L ⟨dst,.build t #[(0,x),(1,y)],ty,pos,aft,g⟩ (.agg #[v0,v1]):=
  ⟨by intro c; simp,fun a w hx _=>by
    have c0:v0.cells = #[v0]:=by cases v0 <;> first | rfl | simp [Value.oneCell'] at o0
    have c1:v1.cells = #[v1]:=by cases v1 <;> first | rfl | simp [Value.oneCell'] at o1
    have cz:(Value.agg #[z0,z1]).cells = #[z0,z1]:=rfl
    simp [execOp,hx x (by simp [Op.operands]) _ h,hx y (by simp [Op.operands]) _ h2,Instr.build,run_zeroValue hz,run_underlying ht,run_sizeOf hs,cz,Instr.fill,c0,c1]⟩
end Go.Eng
/- Building structs whose fields are structs. No conditions. -/
namespace Go.Eng
variable {C:Cx} {R H:List PH} {L:Env}
def placesP (P:Program):List Field → Option (List (Nat × Nat))
  | []=>some []
  | f :: fs=>match szP P f.type,placesP P fs with
    | some n,some r=>some ((f.offset,n) :: r)
    | _,_=>none
def evalPs (L:Env):List (Nat × Operand) → Option (List (Nat × Value))
  | []=>some []
  | (i,x) :: ps=>match evalE L x,evalPs L ps with
    | some v,some r=>some ((i,v) :: r)
    | _,_=>none
def fillL (pl:List (Nat × Nat)):List Value → List (Nat × Value) → Option (List Value)
  | zs,[]=>some zs
  | zs,(i,v) :: r=>match pl[i]? with
    | none=>none
    | some (off,size)=>if v.cells.size = size ∧ off + size ≤ zs.length then fillL pl (zs.take off ++ (v.cells.toList ++ zs.drop (off + size))) r else none
theorem fillL_eq {pl:List (Nat × Nat)}:∀ {pvs:List (Nat × Value)} {zs out:List Value},fillL pl zs pvs = some out → Instr.fill (fun i=>pl[i]?) zs.toArray pvs = some out.toArray
  | [],zs,out,h=>by simp [fillL] at h; subst h; rfl
  | (i,v) :: r,zs,out,h=>by
    unfold fillL at h;unfold Instr.fill

    split at h
    · simp at h
    · rename_i off size e
      rw [e]
      split at h
      · rename_i hc
        have ih:=fillL_eq h
        have hs:=splice_fold v.cells.toList 0 off zs.toArray (by simp; omega)
        simp only
        rw [if_neg (by simp; omega)]
        rw [← ih]
        congr 1
        apply Array.ext'
        simpa [← Array.toList_zipIdx,← hc.1] using hs
      · simp at h
theorem evalPs_eq {a:Act}:∀ {ps:List (Nat × Operand)} {pvs:List (Nat × Value)},evalPs L ps = some pvs → (∀ x ∈ ps.map (·.2),OnE L a x) → ps.map (fun (x:Nat × Operand)=>(x.1,a.eval x.2)) = pvs
  | [],pvs,h,_=>by simp [evalPs] at h; subst h; rfl
  | (i,x) :: ps,pvs,h,hx=>by
    unfold evalPs at h
    split at h
    · rename_i v r e1 e2
      simp at h; subst h
      rw [List.map_cons,evalPs_eq e2 (fun y hy=>hx y (by simp at hy ⊢; exact .inr hy)),hx x (by simp) v e1]
    · simp at h
theorem placesP_run {P:Program}:∀ (fs:List Field) (pl:List (Nat × Nat)) (w:World),placesP P fs = some pl → (fs.mapM (fun f=>Prod.mk f.offset <$> sizeOf f.type:Field → Sem (Nat × Nat))).run P w = .ok pl w
  | [],pl,w,h=>by simp [placesP] at h; subst h; simp
  | f :: fs,pl,w,h=>by
    unfold placesP at h
    split at h
    · rename_i n r e1 e2
      simp at h; subst h
      simp [List.mapM_cons,run_sizeOf e1,placesP_run fs r w e2]
    · simp at h
theorem DS {dst:Option Tmp} {ty:TypeId} {pos:String} {aft:Array Edge} {g:Option (Nat × Bool)} {t:TypeId} {ps:List (Nat × Operand)} {fs:List Field} {pl:List (Nat × Nat)} {pvs:List (Nat × Value)} {zs out:List Value}
    (hu:C.P.underlying t = some (.struct fs.toArray)) (hz:zeroP C.P t = some (.agg zs.toArray)) (hpl:placesP C.P fs = some pl) (hv:evalPs L ps = some pvs) (ho:fillL pl zs pvs = some out) :
    Quiet C R H L ⟨dst,.build t ps.toArray,ty,pos,aft,g⟩ (.agg out.toArray):=
  ⟨by intro c; simp,fun a w hxx _=>by
    have h1:=evalPs_eq (a:=a) hv (fun x hx=>hxx x (by simp [Op.operands] at hx ⊢; exact hx))
    have h2:=placesP_run fs pl w hpl
    have h3:=fillL_eq ho
    simp only [execOp,Instr.build]

    simp [run_zeroValue hz,Value.cells,run_underlying hu,h1,h2,h3]⟩
end Go.Eng
/- Free spans of contacts. -/
namespace Go.Proofs.YtphehihohghfoaaGreat
open Go.Eng Go.Step
set_option maxRecDepth 100000
set_option maxHeartbeats 4000000

theorem vok {qs:List Int} {cs:List Ct} {bs:List Bk} {hs:List Hd} {d:Dm} (h:validT qs cs bs hs d = true):VOk qs cs bs hs d:=by
 obtain ⟨hcs0,hbl,hok,hhl,hql,hquo,hdm,hcsl⟩:=valid_ok h
 obtain ⟨_,hb,hh⟩:=chkT_ok (of_decide_eq_true h).1
 exact ⟨fun c hc=>by
  have h1:=chkCt_all (hcs0 c hc).1
  have h2:=(hcs0 c hc).2
  exact ⟨⟨h1.1.1,by omega⟩,⟨h1.2.1.1,by omega⟩,h1.2.2.1,h1.2.2.2.1,h1.2.2.2.2⟩,hbl,(chkB_ok hb).2,hok,hhl,fit_of hh,hql,hquo,hdm,hcsl⟩
theorem vokB {qs:List Int} {cs:List Ct} {bs:List Bk} {hs:List Hd} {d:Dm} (h:validT qs cs bs hs d = true):chkB qs cs bs = 0:=(chkT_ok (of_decide_eq_true h).1).2.1
theorem bkCheck0_spec {ρ τ σ υ:PH} {pq pc pb ph:Option Addr} {kq kc kb kh:Nat} {qs:List Int} {cs:List Ct} {bs:List Bk} {hs:List Hd} (hT:TbAt ρ τ σ υ pq pc pb ph kq kc kb kh qs cs bs hs) (i:Nat) (h0:chkB qs cs bs = 0) (hi:i < cs.length) :
  Ans Tryz.prog (fv 152) [.agg #[.slice pq qs.length kq,.slice pc cs.length kc],.slice pb bs.length kb,int (i:Int)] [ρ,τ,σ] (fun r=>r = int 0):=by
 have hck:=bkCheck_spec ρ τ σ pq pc kq kc qs cs _ bs hT.hq hT.hc hT.hcap hT.lq hT.lc hT.hb hT.lb
 rw [h0] at hck
 refine spec_in (cap:=[]) Tryz.func152 rfl rfl Tryz.ntmps152 rfl envZ (fun N β=>?_)
 refine Aa ?_;refine BI (BK rfl) rfl rfl rfl ?_;rintro _ _ ⟨b3,rfl,rfl⟩;refine AS (ρ:=sng b3 _) takeZ ?_
 have c:=rdB b3 25 [.slice pq qs.length kq,.slice pc cs.length kc]
 have c0:=rdC c 0
 have c1:=rdC c 1
 refine Abm ?_;refine Abo ?_;refine AB ?_;refine A3 hck rfl rfl rdZ rfl rfl ?_;rintro _ rfl;refine Abc ?_;refine Aam ?_;refine AY ?_;refine AB ?_;refine Aeb ?_;refine BJ ?_;refine Abg ?_;refine Aaj ?_;exact AI (res1 rfl rfl) rsubZ selZ ⟨rfl,rfl⟩
theorem freeAdd_spec (bA bO:Nat) (a to:Int) (u:Value) (G:List (Int × Int)) (χ:PH) (hO:OwnS 93 2 u G.length (G.flatMap encS) χ) (hl:G.length ≤ 100000) :
  Eng.Spec Tryz.prog (.func (.func 165) #[] #[.pointer (some ⟨bA,0,none⟩),.pointer (some ⟨bO,0,none⟩)]) [int to] [] [sng bA (.cells #[int a] 3 (0,0)),sng bO (.cells #[u] 91 (0,0)),χ] (fun r H'=>r = .tuple #[] ∧ ∃ u' χ',H' = [sng bA (.cells #[int a] 3 (0,0)),sng bO (.cells #[u'] 91 (0,0)),χ'] ∧ OwnS 93 2 u' (G ++ if a < to then [(a,to)] else []).length ((G ++ if a < to then [(a,to)] else []).flatMap encS) χ'):=by
 have hone:∀ z n (xs:List Value) (χ:PH),OwnS 93 2 z n xs χ → z.oneCell' = true:=fun z n xs χ h=>by obtain ⟨_,_,rfl⟩:=h.form; rfl
 have hu:=hone _ _ _ _ hO
 refine spec_in (cap:=[.pointer (some ⟨bA,0,none⟩),.pointer (some ⟨bO,0,none⟩)]) Tryz.func165 rfl rfl Tryz.ntmps165 rfl envZ (fun N β=>?_)
 by_cases h:a < to
 ·rw [if_pos h]
  refine Ac4 ?_;refine A9 ?_;refine Add ?_;refine AF ?_;refine Acb ?_;refine BS ?_;refine BH ?_; rintro _ _ ⟨b,rfl,rfl⟩
  refine BI (B6 (by_:=16) (s:=2) (news:=[int a,int to]) rfl rfl rfl rfl rfl rfl rfl hO takeZ (cells_own memZ) rfl (by (repeat (first | exact (fun v hv=>absurd hv List.not_mem_nil) | (refine List.forall_mem_cons.2 ⟨?_,?_⟩; (focus (first | exact rfl | assumption))))); first | done | fail) (by omega) (by simp only [maxLen]; omega) (by omega)) rfl rfl rfl ?_
  rintro u1 _ ⟨χ1,hO1,rfl⟩
  have hu2:=hone _ _ _ _ hO1
  refine BB ?_; rintro _ _ ⟨rfl,rfl⟩;refine AE ?_;refine CA (res0 rfl) rsubZ selZ ⟨rfl,u1,χ1,rfl,?_⟩;rw [List.length_append,List.flatMap_append];exact hO1
 ·rw [if_neg h,List.append_nil]
  refine Ac4 ?_;refine AY ?_;refine Aal ?_;exact CA (res0 rfl) rsubZ selZ ⟨rfl,u,χ,rfl,hO⟩
theorem gapsP_at {e:Int} {l:List (Int × Int)} {k:Nat} (h:k < l.length) (a:Int):gapsP e a (l.drop k) = (if a < l[k].1 then [(a,l[k].1)] else []) ++ gapsP e l[k].2 (l.drop (k + 1)):=by
 rw [List.drop_eq_getElem_cons h]
 rfl
set_option maxHeartbeats 32000000 in
theorem bkFree0_spec {ρ τ σ υ:PH} {pq pc pb ph:Option Addr} {kq kc kb kh:Nat} {qs:List Int} {cs:List Ct} {bs:List Bk} {hs:List Hd} (hT:TbAt ρ τ σ υ pq pc pb ph kq kc kb kh qs cs bs hs) (i:Nat) (x:Ct) (hx:cs[i]? = some x) (hb:firstE (bkE cs bs) bs.length = 0) (hbl:bs.length ≤ 512) :
  Makes Tryz.prog (fv 153) [.agg #[.slice pq qs.length kq,.slice pc cs.length kc],.slice pb bs.length kb,int (i:Int),int x.s] [ρ,τ,σ] (fun r χ=>OwnS 93 2 r (freeC cs bs i).length ((freeC cs bs i).flatMap encS) χ):=by
 have hbusy:=busy_spec σ _ bs i hT.hb (by omega)
 have hbi:=busy_in hb hx
 have hbp:=busy_apart hb i
 have hbll:=busyL_len bs i
 have hfc:freeC cs bs i = gapsP x.e x.s (busyL bs i):=by unfold freeC; rw [hx]
 have hgl:=gapsP_len x.e (busyL bs i) x.s
 have hone:∀ z n (xs:List Value) (χ:PH),OwnS 93 2 z n xs χ → z.oneCell' = true:=fun z n xs χ h=>by obtain ⟨_,_,rfl⟩:=h.form; rfl
 rw [hfc]
 have hi:=(List.getElem?_eq_some_iff.1 hx).1
 obtain ⟨bq,oq,e4,hrd⟩:=ctRow hT.rc hx
 refine spec_in (cap:=[]) Tryz.func153 rfl rfl Tryz.ntmps153 rfl envZ (fun N β=>?_)
 refine Aa ?_;refine BI (BK rfl) rfl rfl rfl ?_;rintro _ _ ⟨b3,rfl,rfl⟩;refine AS (ρ:=sng b3 _) takeZ ?_
 have c:=rdB b3 25 [.slice pq qs.length kq,.slice pc cs.length kc]
 have c0:=rdC c 0
 have c1:=rdC c 1
 refine BY ?_;subst e4;refine Abv ?_;refine AB ?_;refine Abf ?_;refine AW ?_; rintro _ _ ⟨b,rfl,rfl⟩;refine AV ?_; rintro _ _ ⟨rfl,rfl⟩;refine AE ?_;refine Aa ?_;refine BQ ?_; rintro _ _ ⟨b,rfl,rfl⟩;refine AE ?_;refine Acy ?_;refine E3 ?_;refine BQ ?_; rintro _ _ ⟨b,rfl,rfl⟩;refine BB ?_; rintro _ _ ⟨rfl,rfl⟩;refine AE ?_;refine Aa ?_;refine BX ?_;refine Aab ?_;refine Ab6 ?_
 revert b; intro bA
 revert b; intro bO
 revert b; intro bC
 rw [show max x.s x.s = x.s by omega]
 refine AS (ρ:=sng bC _) takeZ ?_
 have g2:rdc (sng bC (.cells #[int x.f,int x.t,int x.s,int x.e,int x.r,int x.g,int x.l] 57 (0,0))) bC 3 = some (int x.e):=by rw [rdc_sng]; rfl
 refine BZ hbusy rfl rfl rdZ rfl rfl ?_;rintro w χb hOb
 have hSb:=hOb.at
 obtain ⟨pw,kw,rfl⟩:=hOb.form
 obtain ⟨_,_,ew,hrw⟩:=SlE.val (enc:=encS) encS_len (show SlE encS 2 χb _ (busyL bs i) from hSb)
 simp only [Value.slice.injEq] at ew
 obtain ⟨rfl,_,rfl⟩:=ew
 refine AS (ρ:=χb) takeZ ?_
 generalize busyL bs i = L at hbi hbp hbll hOb hSb hrw hgl
 refine Abk ?_
 refine BC [2,12,27,28,9,10,11] (X:=Nat × Int × List (Int × Int) × Value × PH) (0,x.s,[],.slice none 0 0,emp) (fun z=>z.1 ≤ L.length ∧ (∀ y ∈ L.drop z.1,z.2.1 ≤ y.1) ∧ gapsP x.e x.s L = z.2.2.1 ++ gapsP x.e z.2.1 (L.drop z.1) ∧ OwnS 93 2 z.2.2.2.1 z.2.2.1.length (z.2.2.1.flatMap encS) z.2.2.2.2) (fun z=>[(29,int z.1)]) (fun z=>[sng bA (.cells #[int z.2.1] 3 (0,0)),sng bO (.cells #[z.2.2.2.1] 91 (0,0)),z.2.2.2.2]) (fun z=>L.length - z.1) pickZ ⟨by dsimp only; omega,fun y hy=>by rw [List.drop_zero] at hy; exact (hbi y hy).1,rfl,OwnS.nil _ _⟩ covZ selZ ?_
 rintro ⟨k,a,G,u,χ⟩ ⟨hk,ha,hG,hO⟩
 dsimp only at hk ha hG hO ⊢
 have hGl:G.length ≤ L.length + 1:=by
  have:=congrArg List.length hG
  rw [List.length_append] at this;omega
 by_cases hlt:k < L.length
 ·have hy:=List.getElem?_eq_getElem hlt
  have hga:=gapsP_at (e:=x.e) hlt a
  have hmem:=List.getElem_mem hlt
  have hin:=hbi _ hmem
  have hak:=ha L[k] (by rw [List.drop_eq_getElem_cons hlt]; exact List.mem_cons_self)
  have hpk:∀ y ∈ L.drop (k + 1),L[k].2 ≤ y.1:=fun y hy=>by
   have h1:=List.Pairwise.sublist (List.drop_sublist k L) hbp
   rw [List.drop_eq_getElem_cons hlt] at h1;exact (List.pairwise_cons.1 h1).1 y hy
  obtain ⟨b6,o6,rfl,hRd6,y0,y1⟩:=spRow hrw hy
  generalize L[k] = y at hy hga hin hak hpk hRd6 y0 y1
  have hadd:=freeAdd_spec bA bO a y.1 u G χ hO (by omega)
  refine Ab7 ?_;refine AW ?_; rintro _ _ ⟨b,rfl,rfl⟩;refine AV ?_; rintro _ _ ⟨rfl,rfl⟩;refine Adb ?_;refine Aac ?_
  revert b; intro b14
  refine BF hadd rfl rfl takesZ rdZ rfl rfl ?_;rintro _ _ ⟨rfl,u',χ',rfl,hO'⟩
  have hmx:max a y.2 = y.2:=by omega
  refine Adx ?_;refine AF ?_;refine Aac ?_;refine E3 ?_
  focus ((rw [hmx]))
  refine BB ?_; rintro _ _ ⟨rfl,rfl⟩;refine Ade ?_
  refine AZ (k + 1,y.2,G ++ (if a < y.1 then [(a,y.1)] else []),u',χ') ⟨by dsimp only; omega,hpk,?_,hO'⟩ (by dsimp only; omega) covZ selZ
  dsimp only
  rw [hG,hga,List.append_assoc]
 ·have hke:k = L.length:=by omega
  subst hke
  have hadd:=freeAdd_spec bA bO a x.e u G χ hO (by omega)
  have hfin:gapsP x.e x.s L = G ++ (if a < x.e then [(a,x.e)] else []):=by
   rw [hG,List.drop_length]
   rfl
  rw [hfin];refine Abt ?_;refine Aad ?_;refine Aac ?_;refine BF hadd rfl rfl takesZ rdZ rfl rfl ?_;rintro _ _ ⟨rfl,u',χ',rfl,hO'⟩;refine AE ?_;refine Abb ?_;refine Aab ?_;exact AI (res1 rfl rfl) rsubZ selZ ⟨χ',hO',rfl⟩
theorem bkFree_spec {ρ τ σ υ:PH} {pq pc pb ph:Option Addr} {kq kc kb kh:Nat} {qs:List Int} {cs:List Ct} {bs:List Bk} {hs:List Hd} (hT:TbAt ρ τ σ υ pq pc pb ph kq kc kb kh qs cs bs hs) (i:Nat) (x:Ct) (hx:cs[i]? = some x) (h0:chkB qs cs bs = 0) :
  Makes Tryz.prog (fv 136) [.agg #[.slice pq qs.length kq,.slice pc cs.length kc],.slice pb bs.length kb,int (i:Int)] [ρ,τ,σ] (fun r χ=>∃ u,r = .tuple #[u,int 0] ∧ OwnS 93 2 u (freeC cs bs i).length ((freeC cs bs i).flatMap encS) χ):=by
 obtain ⟨hbl,hb⟩:=chkB_ok h0
 have hck:=bkCheck0_spec hT i h0 (List.getElem?_eq_some_iff.1 hx).1
 have hfr:=bkFree0_spec hT i x hx hb hbl
 have hi:=(List.getElem?_eq_some_iff.1 hx).1
 obtain ⟨bq,oq,e4,hrd⟩:=ctRow hT.rc hx
 have g2:rdc τ bq (oq + i * 7 + 2) = some (int x.s):=hrd.get (j:=2) rfl
 refine spec_in (cap:=[]) Tryz.func136 rfl rfl Tryz.ntmps136 rfl envZ (fun N β=>?_)
 refine Aa ?_;refine BI (BK rfl) rfl rfl rfl ?_;rintro _ _ ⟨b3,rfl,rfl⟩;refine AS (ρ:=sng b3 _) takeZ ?_
 have c:=rdB b3 25 [.slice pq qs.length kq,.slice pc cs.length kc]
 have c0:=rdC c 0
 have c1:=rdC c 1
 subst e4;refine Aan ?_;refine AC ?_;refine Abo ?_;refine Aax ?_;refine A3 hck rfl rfl rdZ rfl rfl ?_;rintro _ rfl;refine Ab ?_;refine Ad1 ?_
 refine A5 (.q 0 (.q 1 (.q 2 (.q 3 (.q 4 (.q 5 (.q 6 (.q 7 (.q 8 (.l 9 .e (.q 10 (.q 11 .nil)))))))))))) [] rfl (by kernel_rfl) Sel.nil ?_
 refine BR ?_;refine Aa6 ?_;refine Aaq ?_;refine AR ?_;refine BG ?_;refine Aca ?_;refine CO (DL rfl hfr rfl rfl rdZ rfl rfl ?_);rintro u _ ⟨χ,hO,rfl⟩;refine BV ?_;refine Adw ?_
 skip
 exact AI (res2 rfl rfl rfl) rsubZ selZ ⟨χ,⟨u,rfl,hO⟩,rfl⟩
end Go.Proofs.YtphehihohghfoaaGreat
