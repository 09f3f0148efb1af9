/- Texts of this proof, one after the other; no conditions. -/
import Derived.Test.YtjehnjhkcmobcaaGreatWB5
import Derived.Test.YtjehnjhkcmobcaaGreatWB1
set_option linter.all false
/- Union and intersection of sets of integers. No program in sight. No conditions. -/
namespace Go.Step
abbrev Iv:=List (Int × Int)
def NormI (l:Iv):Prop:=(∀ x ∈ l,x.1 < x.2) ∧ l.Pairwise (fun x y=>x.2 < y.1)
def memI (l:Iv) (t:Int):Bool:=l.any (inSp t)
theorem inSp_iff {t:Int} {x:Int × Int}:inSp t x = true ↔ x.1 ≤ t ∧ t < x.2:=by simp [inSp]
theorem memI_iff {l:Iv} {t:Int}:memI l t = true ↔ ∃ x ∈ l,x.1 ≤ t ∧ t < x.2:=by simp [memI,inSp]
theorem memI_cons (x:Int × Int) (l:Iv) (t:Int):memI (x :: l) t = (inSp t x || memI l t):=rfl
theorem NormI.nil:NormI []:=⟨by simp,.nil⟩
theorem NormI.tail {x:Int × Int} {l:Iv} (h:NormI (x :: l)):NormI l:=⟨fun y hy=>h.1 y (by simp [hy]),(List.pairwise_cons.1 h.2).2⟩
theorem NormI.hd {x:Int × Int} {l:Iv} (h:NormI (x :: l)):x.1 < x.2 ∧ ∀ y ∈ l,x.2 < y.1:=⟨h.1 x (by simp),(List.pairwise_cons.1 h.2).1⟩
theorem NormI.cons {x:Int × Int} {l:Iv} (h:NormI l) (h1:x.1 < x.2) (h2:∀ y ∈ l,x.2 < y.1):NormI (x :: l):=
  ⟨fun y hy=>by
    rcases List.mem_cons.1 hy with rfl | hy
    · exact h1
    · exact h.1 y hy,List.pairwise_cons.2 ⟨h2,h.2⟩⟩
theorem memI_lo {x:Int × Int} {l:Iv} {t:Int} (h:NormI (x :: l)) (hm:memI (x :: l) t = true):x.1 ≤ t:=by
  obtain ⟨y,hy,h1,h2⟩:=memI_iff.1 hm
  rcases List.mem_cons.1 hy with rfl | hy
  · exact h1
  · have a:=h.hd.1
    have b:=h.hd.2 y hy
    omega
theorem memI_lo2 {x:Int × Int} {l:Iv} {t:Int} (h:NormI (x :: l)) (hm:memI l t = true):x.2 < t:=by
  obtain ⟨y,hy,h1,h2⟩:=memI_iff.1 hm
  have b:=h.hd.2 y hy
  omega
theorem memI_first {x:Int × Int} {l:Iv} (h:x.1 < x.2):memI (x :: l) x.1 = true:=memI_iff.2 ⟨x,by simp,by omega,h⟩
theorem normI_ext:∀ {a b:Iv},NormI a → NormI b → (∀ t,memI a t = memI b t) → a = b
  | [],[],_,_,_=>rfl
  | [],y :: b,_,hb,h=>by
    have:=h y.1
    rw [memI_first hb.hd.1] at this
    exact absurd this (by simp [memI])
  | x :: a,[],ha,_,h=>by
    have:=h x.1
    rw [memI_first ha.hd.1] at this
    exact absurd this (by simp [memI])
  | x :: a,y :: b,ha,hb,h=>by
    have e1:x.1 = y.1:=by
      have h1:=memI_lo hb (t:=x.1) (by rw [← h]; exact memI_first ha.hd.1)
      have h2:=memI_lo ha (t:=y.1) (by rw [h]; exact memI_first hb.hd.1)
      omega
    have hx:=ha.hd.1
    have hy:=hb.hd.1
    have e2:x.2 = y.2:=by
      apply Int.le_antisymm
      · apply Int.not_lt.1
        intro hlt
        have h1:=h y.2
        rw [memI_cons,memI_cons,(inSp_iff (t:=y.2) (x:=x)).2 ⟨by omega,hlt⟩,Bool.true_or] at h1
        rcases (Bool.or_eq_true _ _).mp h1.symm with h2 | h2
        · have:=(inSp_iff.1 h2).2; omega
        · have:=memI_lo2 hb h2; omega
      · apply Int.not_lt.1
        intro hlt
        have h1:=h x.2
        rw [memI_cons,memI_cons,(inSp_iff (t:=x.2) (x:=y)).2 ⟨by omega,hlt⟩,Bool.true_or] at h1
        rcases (Bool.or_eq_true _ _).mp h1 with h2 | h2
        · have:=(inSp_iff.1 h2).2; omega
        · have:=memI_lo2 ha h2; omega
    have exy:x = y:=Prod.ext e1 e2
    subst exy
    congr 1
    refine normI_ext ha.tail hb.tail (fun t=>?_)
    by_cases ht:x.2 < t
    · have h1:=h t
      have h2:inSp t x = false:=by
        cases e:inSp t x with
        | false=>rfl
        | true=>have:=(inSp_iff.1 e).2; omega
      rw [memI_cons,memI_cons,h2,Bool.false_or,Bool.false_or] at h1;exact h1
    · have h1:memI a t = false:=by
        cases e:memI a t with
        | false=>rfl
        | true=>exact absurd (memI_lo2 ha e) ht
      have h2:memI b t = false:=by
        cases e:memI b t with
        | false=>rfl
        | true=>exact absurd (memI_lo2 hb e) ht
      rw [h1,h2]
/-! sets that are checked -/
theorem chkI_norm {l:Iv} (h:chkI l = 0):l.length ≤ 1000 ∧ NormI l ∧ ∀ x ∈ l,okSp x:=by
  have h1:l.length ≤ 1000:=by
    unfold chkI at h
    split at h
    · simp at h
    · omega
  refine ⟨h1,⟨fun x hx=>?_,List.pairwise_iff_getElem.2 (fun i j hi hj hij=>?_)⟩,fun x hx=>?_⟩
  · obtain ⟨i,hi,rfl⟩:=List.getElem_of_mem hx
    exact (chkI_at h hi).1
  · have a:=chkI_hi h (j - 1 - i) (i:=i) (by omega)
    have b:=(chkI_at h hj).2 (by omega)
    have e:i + (j - 1 - i) = j - 1:=by omega
    simp only [e] at a;omega
  · obtain ⟨i,hi,rfl⟩:=List.getElem_of_mem hx
    unfold chkI at h
    rw [if_neg (by omega)] at h
    have h2:=firstE_zero h i hi
    rw [spE_at (List.getElem?_eq_getElem hi)] at h2
    split at h2
    · simp at h2
    · rename_i h3; exact Decidable.not_not.1 h3
theorem chkI_of {l:Iv} (h1:l.length ≤ 1000) (h2:NormI l) (h3:∀ x ∈ l,okSp x):chkI l = 0:=by
  unfold chkI
  rw [if_neg (by omega)]
  refine firstE_all (fun k hk=>?_)
  rw [spE_at (List.getElem?_eq_getElem hk),if_neg (fun h=>h (h3 _ (List.getElem_mem hk)))]
  by_cases h0:0 < k
  · have h4:=List.pairwise_iff_getElem.1 h2.2 (k - 1) k (by omega) hk (by omega)
    rw [if_neg]
    rw [List.getD_eq_getElem?_getD,List.getElem?_eq_getElem (by omega),Option.getD_some]
    omega
  · rw [if_neg (fun h=>h0 h.1)]
/-! one more span -/
def absI:Iv → Int × Int → Iv
  | [],x=>[x]
  | y :: l,x=>if y.1 ≤ x.2 then absI l (min x.1 y.1,max x.2 y.2) else x :: y :: l
def insI:Iv → Int × Int → Iv
  | [],x=>[x]
  | y :: l,x=>if y.2 < x.1 then y :: insI l x else absI (y :: l) x
theorem absI_ok:∀ {l:Iv} {x:Int × Int} {lo:Int},NormI l → x.1 < x.2 → (∀ y ∈ l,x.1 ≤ y.2) → lo < x.1 → (∀ y ∈ l,lo < y.1) → NormI (absI l x) ∧ (∀ t,memI (absI l x) t = (memI l t || inSp t x)) ∧ (∀ z ∈ absI l x,lo < z.1) ∧ (absI l x).length ≤ l.length + 1
  | [],x,lo,_,h,_,hlo,_=>⟨NormI.nil.cons h (by simp),fun t=>by simp [absI,memI],by simpa [absI] using hlo,by simp [absI]⟩
  | y :: l,x,lo,hn,h,hy,hlo,hl=>by
    unfold absI
    have hy1:=hn.hd.1
    have hy2:=hy y (by simp)
    have hl1:=hl y (by simp)
    split
    · rename_i hc
      obtain ⟨a,b,c,d⟩:=absI_ok (l:=l) (x:=(min x.1 y.1,max x.2 y.2)) (lo:=lo) hn.tail (by dsimp only; omega) (fun z hz=>by have:=hn.hd.2 z hz; have:=hn.1 z (by simp [hz]); dsimp only; omega) (by dsimp only; omega) (fun z hz=>hl z (by simp [hz]))
      refine ⟨a,fun t=>?_,c,by simp only [List.length_cons]; omega⟩
      rw [b,memI_cons]
      have e:inSp t (min x.1 y.1,max x.2 y.2) = (inSp t x || inSp t y):=by
        rw [Bool.eq_iff_iff,Bool.or_eq_true,inSp_iff,inSp_iff,inSp_iff]
        dsimp only
        omega
      rw [e]
      cases inSp t x <;> cases inSp t y <;> cases memI l t <;> rfl
    · rename_i hc
      refine ⟨hn.cons h (fun z hz=>?_),fun t=>?_,fun z hz=>?_,by simp⟩
      · rcases List.mem_cons.1 hz with rfl | hz
        · omega
        · have:=hn.hd.2 z hz; omega
      · rw [memI_cons,Bool.or_comm]
      · rcases List.mem_cons.1 hz with rfl | hz
        · exact hlo
        · exact hl z hz
theorem insI_ok:∀ {l:Iv} {x:Int × Int} {lo:Int},NormI l → x.1 < x.2 → lo < x.1 → (∀ y ∈ l,lo < y.1) → NormI (insI l x) ∧ (∀ t,memI (insI l x) t = (memI l t || inSp t x)) ∧ (∀ z ∈ insI l x,lo < z.1) ∧ (insI l x).length ≤ l.length + 1
  | [],x,lo,_,h,hlo,_=>⟨NormI.nil.cons h (by simp),fun t=>by simp [insI,memI],by simpa [insI] using hlo,by simp [insI]⟩
  | y :: l,x,lo,hn,h,hlo,hl=>by
    unfold insI
    have hy1:=hn.hd.1
    have hl1:=hl y (by simp)
    split
    · rename_i hc
      obtain ⟨a,b,c,d⟩:=insI_ok (l:=l) (x:=x) (lo:=y.2) hn.tail h hc hn.hd.2
      refine ⟨a.cons hy1 c,fun t=>?_,fun z hz=>?_,by simp only [List.length_cons]; omega⟩
      · rw [memI_cons,b,memI_cons,Bool.or_assoc]
      · rcases List.mem_cons.1 hz with rfl | hz
        · exact hl1
        · have:=c z hz; omega
    · rename_i hc
      refine absI_ok hn h (fun z hz=>?_) hlo hl
      rcases List.mem_cons.1 hz with rfl | hz
      · omega
      · have:=hn.hd.2 z hz
        have:=hn.1 z (by simp [hz])
        omega
theorem lo_ex (l:Iv) (x:Int):∃ lo,lo < x ∧ ∀ y ∈ l,lo < y.1:=by
  induction l with
  | nil=>exact ⟨x - 1,by omega,by simp⟩
  | cons y l ih =>
    obtain ⟨lo,h1,h2⟩:=ih
    refine ⟨min lo (y.1 - 1),by omega,fun z hz=>?_⟩
    rcases List.mem_cons.1 hz with rfl | hz
    · omega
    · have:=h2 z hz; omega
theorem insI_norm {l:Iv} {x:Int × Int} (h:NormI l) (hx:x.1 < x.2):NormI (insI l x) ∧ (∀ t,memI (insI l x) t = (memI l t || inSp t x)) ∧ (insI l x).length ≤ l.length + 1:=by
  obtain ⟨lo,h1,h2⟩:=lo_ex l x.1
  obtain ⟨a,b,_,d⟩:=insI_ok h hx h1 h2
  exact ⟨a,b,d⟩
def insAll (a:Iv) (b:Iv):Iv:=b.foldl insI a
theorem insAll_ok:∀ {b a:Iv},NormI a → (∀ x ∈ b,x.1 < x.2) → NormI (insAll a b) ∧ (∀ t,memI (insAll a b) t = (memI a t || memI b t)) ∧ (insAll a b).length ≤ a.length + b.length
  | [],a,h,_=>⟨h,fun t=>by simp [insAll,memI],by simp [insAll]⟩
  | x :: b,a,h,hb=>by
    obtain ⟨a1,a2,a3⟩:=insI_norm h (hb x (by simp))
    obtain ⟨b1,b2,b3⟩:=insAll_ok (b:=b) a1 (fun y hy=>hb y (by simp [hy]))
    refine ⟨b1,fun t=>?_,?_⟩
    · show memI (insAll (insI a x) b) t = _
      rw [b2,a2,memI_cons,Bool.or_assoc]
    · show (insAll (insI a x) b).length ≤ _
      simp only [List.length_cons];omega
/-! intersection,span by span -/
/-! ends of spans -/
def tog (l:Iv):List Int:=l.flatMap (fun x=>[x.1,x.2])
theorem tog_len:∀ l:Iv,(tog l).length = 2 * l.length
  | []=>rfl
  | x :: l=>by
    have:=tog_len l
    show (x.1 :: x.2 :: tog l).length = _
    simp only [List.length_cons];omega
theorem tog_get:∀ (l:Iv) (i:Nat) (x:Int × Int),l[i]? = some x → (tog l)[2 * i]? = some x.1 ∧ (tog l)[2 * i + 1]? = some x.2
  | [],i,x,h=>by simp at h
  | y :: l,0,x,h=>by
    simp only [List.getElem?_cons_zero,Option.some.injEq] at h;subst h;exact ⟨rfl,rfl⟩
  | y :: l,i + 1,x,h=>by
    have:=tog_get l i x (by simpa using h)
    show (y.1 :: y.2 :: tog l)[2 * (i + 1)]? = _ ∧ (y.1 :: y.2 :: tog l)[2 * (i + 1) + 1]? = _
    rw [show 2 * (i + 1) = 2 * i + 1 + 1 by omega]
    exact this
def parT:List Int → Int → Bool
  | [],_=>false
  | e :: E,t=>if e ≤ t then !(parT E t) else parT E t
theorem parT_tog:∀ {l:Iv},NormI l → ∀ t,parT (tog l) t = memI l t
  | [],_,t=>rfl
  | x :: l,h,t=>by
    have ih:=parT_tog h.tail t
    have hx:=h.hd.1
    show (if x.1 ≤ t then !(if x.2 ≤ t then !(parT (tog l) t) else parT (tog l) t) else (if x.2 ≤ t then !(parT (tog l) t) else parT (tog l) t)) = (inSp t x || memI l t)
    rw [ih]
    have h1:t ≤ x.2 → memI l t = false:=fun hle=>by
      cases e:memI l t with
      | false=>rfl
      | true=>have:=memI_lo2 h e; omega
    have h2:inSp t x = decide (x.1 ≤ t ∧ t < x.2):=by rw [Bool.eq_iff_iff,inSp_iff,decide_eq_true_eq]
    rw [h2]
    by_cases c1:x.1 ≤ t
    · by_cases c2:x.2 ≤ t
      · rw [if_pos c1,if_pos c2,decide_eq_false (by omega),Bool.not_not,Bool.false_or]
      · rw [if_pos c1,if_neg c2,decide_eq_true (by omega),h1 (by omega)]; rfl
    · rw [if_neg c1,if_neg (by omega),decide_eq_false (by omega),Bool.false_or]
def oddB (n:Nat):Bool:=decide (n % 2 = 1)
theorem oddB_succ (n:Nat):oddB (n + 1) = !(oddB n):=by
  unfold oddB
  by_cases h:n % 2 = 1
  · rw [decide_eq_true h,decide_eq_false (by omega)]; rfl
  · rw [decide_eq_false h,decide_eq_true (by omega)]; rfl
theorem parT_snoc (t x:Int):∀ O:List Int,parT (O ++ [t]) x = if t ≤ x then !(parT O x) else parT O x
  | []=>by simp [parT]
  | o :: O=>by
    have ih:=parT_snoc t x O
    show (if o ≤ x then !(parT (O ++ [t]) x) else parT (O ++ [t]) x) = if t ≤ x then !(if o ≤ x then !(parT O x) else parT O x) else (if o ≤ x then !(parT O x) else parT O x)
    rw [ih]
    split <;> split <;> rfl
theorem parT_all {x:Int}:∀ {O:List Int},(∀ o ∈ O,o ≤ x) → parT O x = oddB O.length
  | [],_=>rfl
  | o :: O,h=>by
    show (if o ≤ x then !(parT O x) else parT O x) = oddB (O.length + 1)
    rw [if_pos (h o (by simp)),parT_all (fun p hp=>h p (by simp [hp])),oddB_succ]
theorem parT_none {x:Int}:∀ {O:List Int},(∀ o ∈ O,x < o) → parT O x = false
  | [],_=>rfl
  | o :: O,h=>by
    show (if o ≤ x then !(parT O x) else parT O x) = false
    have:=h o (by simp)
    rw [if_neg (by omega),parT_none (fun p hp=>h p (by simp [hp]))]
def mrg:List Int → Bool → List Int → Bool → List (Int × Bool × Bool)
  | [],_,[],_=>[]
  | a :: A,p,[],q=>(a,!p,q) :: mrg A (!p) [] q
  | [],p,b :: B,q=>(b,p,!q) :: mrg [] p B (!q)
  | a :: A,p,b :: B,q=>if a < b then (a,!p,q) :: mrg A (!p) (b :: B) q else if b < a then (b,p,!q) :: mrg (a :: A) p B (!q) else (a,!p,!q) :: mrg A (!p) B (!q)
termination_by A _ B _=>A.length + B.length
def mcomb1 (f:Bool → Bool → Bool) (O:List Int) (e:Int × Bool × Bool):List Int:=if f e.2.1 e.2.2 = oddB O.length then O else O ++ [e.1]
def mcomb (f:Bool → Bool → Bool) (S:List (Int × Bool × Bool)) (O:List Int):List Int:=S.foldl (mcomb1 f) O
theorem comb1_odd (f:Bool → Bool → Bool) (O:List Int) (e:Int × Bool × Bool):oddB (mcomb1 f O e).length = f e.2.1 e.2.2:=by
  unfold mcomb1
  split
  · rename_i h; exact h.symm
  · rename_i h
    rw [List.length_append,List.length_singleton,oddB_succ]
    cases h1:oddB O.length <;> cases h2:f e.2.1 e.2.2 <;> simp_all
structure Cm (f:Bool → Bool → Bool) (A:List Int) (p:Bool) (B:List Int) (q:Bool) (O O':List Int):Prop where
  asc:O'.Pairwise (· < ·)
  hi:∀ x,(∀ o ∈ O,o ≤ x) → parT O' x = f (p ^^ parT A x) (q ^^ parT B x)
  lo:∀ x,(∀ a ∈ A,x < a) → (∀ b ∈ B,x < b) → parT O' x = parT O x
  len:O'.length ≤ O.length + A.length + B.length
theorem Cm.step {f:Bool → Bool → Bool} {A A1:List Int} {p p1:Bool} {B B1:List Int} {q q1:Bool} {O O':List Int} {t:Int}
    (h:Cm f A1 p1 B1 q1 (mcomb1 f O (t,p1,q1)) O') (ho:oddB O.length = f p q) (hA:∀ a ∈ A,t ≤ a) (hB:∀ b ∈ B,t ≤ b) (hOt:∀ o ∈ O,o < t)
    (eA:∀ x,t ≤ x → (p1 ^^ parT A1 x) = (p ^^ parT A x)) (eB:∀ x,t ≤ x → (q1 ^^ parT B1 x) = (q ^^ parT B x)) (sA:∀ a ∈ A1,t < a) (sB:∀ b ∈ B1,t < b) (hl:A1.length + B1.length + 1 ≤ A.length + B.length) (hin:t ∈ A ∨ t ∈ B):Cm f A p B q O O':=by
  have hmem:∀ o ∈ mcomb1 f O (t,p1,q1),o ≤ t:=fun o ho=>by
    unfold mcomb1 at ho
    split at ho
    · have:=hOt o ho; omega
    · rcases List.mem_append.1 ho with h | h
      · have:=hOt o h; omega
      · have:=List.mem_singleton.1 h; omega
  have hpre:∀ x,x < t → parT (mcomb1 f O (t,p1,q1)) x = parT O x:=fun x hx=>by
    unfold mcomb1
    split
    · rfl
    · rw [parT_snoc,if_neg (by dsimp only; omega)]
  have hcl:(mcomb1 f O (t,p1,q1)).length ≤ O.length + 1:=by
    unfold mcomb1
    split
    · omega
    · simp
  refine ⟨h.asc,fun x hx=>?_,fun x hx hy=>?_,by have:=h.len; omega⟩
  · by_cases ht:t ≤ x
    · rw [h.hi x (fun o ho=>Int.le_trans (hmem o ho) ht),eA x ht,eB x ht]
    · rw [h.lo x (fun a ha=>by have:=sA a ha; omega) (fun b hb=>by have:=sB b hb; omega),hpre x (by omega),parT_all hx,parT_none (fun a ha=>by have:=hA a ha; omega),parT_none (fun b hb=>by have:=hB b hb; omega),Bool.xor_false,Bool.xor_false,ho]
  · have ht:x < t:=by
      rcases hin with h | h
      · exact hx t h
      · exact hy t h
    rw [h.lo x (fun a ha=>by have:=sA a ha; omega) (fun b hb=>by have:=sB b hb; omega),hpre x ht]
theorem comb1_asc {f:Bool → Bool → Bool} {O:List Int} {e:Int × Bool × Bool} (h:O.Pairwise (· < ·)) (ho:∀ o ∈ O,o < e.1):(mcomb1 f O e).Pairwise (· < ·):=by
  unfold mcomb1
  split
  · exact h
  · rw [List.pairwise_append]
    exact ⟨h,List.pairwise_singleton _ _,fun a ha b hb=>by rw [List.mem_singleton.1 hb]; exact ho a ha⟩
theorem comb1_lt {f:Bool → Bool → Bool} {O:List Int} {e:Int × Bool × Bool} {S:List Int} (ho:∀ o ∈ O,∀ a ∈ S,o < a) (he:∀ a ∈ S,e.1 < a):∀ o ∈ mcomb1 f O e,∀ a ∈ S,o < a:=fun o h a ha=>by
  unfold mcomb1 at h
  split at h
  · exact ho o h a ha
  · rcases List.mem_append.1 h with h | h
    · exact ho o h a ha
    · rw [List.mem_singleton.1 h]; exact he a ha
theorem comb_ok (f:Bool → Bool → Bool):∀ (n:Nat) (A:List Int) (p:Bool) (B:List Int) (q:Bool) (O:List Int),A.length + B.length ≤ n → A.Pairwise (· < ·) → B.Pairwise (· < ·) → O.Pairwise (· < ·) → (∀ o ∈ O,∀ a ∈ A,o < a) → (∀ o ∈ O,∀ b ∈ B,o < b) → oddB O.length = f p q → Cm f A p B q O (mcomb f (mrg A p B q) O):=by
  have flip:∀ (p z:Bool),(!p ^^ z) = (p ^^ !z):=by decide
  intro n
  induction n with
  | zero =>
    intro A p B q O hn _ _ hO _ _ ho
    obtain rfl:A = []:=List.eq_nil_of_length_eq_zero (by omega)
    obtain rfl:B = []:=List.eq_nil_of_length_eq_zero (by omega)
    unfold mrg
    exact ⟨hO,fun x hx=>by rw [show mcomb f [] O = O from rfl,parT_all hx,ho]; simp [parT],fun _ _ _=>rfl,by show O.length ≤ _; omega⟩
  | succ n ih =>
    intro A p B q O hn hA hB hO hOA hOB ho
    match A,B,hn,hA,hB,hOA,hOB with
    | [],[],_,_,_,_,_ =>
      unfold mrg
      exact ⟨hO,fun x hx=>by rw [show mcomb f [] O = O from rfl,parT_all hx,ho]; simp [parT],fun _ _ _=>rfl,by show O.length ≤ _; omega⟩
    | a :: A,[],hn,hA,hB,hOA,hOB =>
      unfold mrg
      obtain ⟨a1,a2⟩:=List.pairwise_cons.1 hA
      refine Cm.step (t:=a) (ih A (!p) [] q (mcomb1 f O (a,!p,q)) (by simp at hn ⊢; omega) a2 hB (comb1_asc hO (fun o h=>hOA o h a (by simp))) (comb1_lt (fun o h x hx=>hOA o h x (by simp [hx])) a1) (fun _ _ _ h=>by simp at h) (comb1_odd f O _)) ho (fun x hx=>?_) (fun _ h=>by simp at h) (fun o h=>hOA o h a (by simp)) (fun x hx=>?_) (fun _ _=>rfl) a1 (fun _ h=>by simp at h) (by simp) (.inl (by simp))
      · rcases List.mem_cons.1 hx with rfl | hx
        · exact Int.le_refl _
        · exact Int.le_of_lt (a1 x hx)
      · show (!p ^^ parT A x) = (p ^^ if a ≤ x then !(parT A x) else parT A x)
        rw [if_pos hx,flip]
    | [],b :: B,hn,hA,hB,hOA,hOB =>
      unfold mrg
      obtain ⟨b1,b2⟩:=List.pairwise_cons.1 hB
      refine Cm.step (t:=b) (ih [] p B (!q) (mcomb1 f O (b,p,!q)) (by simp at hn ⊢; omega) hA b2 (comb1_asc hO (fun o h=>hOB o h b (by simp))) (fun _ _ _ h=>by simp at h) (comb1_lt (fun o h x hx=>hOB o h x (by simp [hx])) b1) (comb1_odd f O _)) ho (fun _ h=>by simp at h) (fun x hx=>?_) (fun o h=>hOB o h b (by simp)) (fun _ _=>rfl) (fun x hx=>?_) (fun _ h=>by simp at h) b1 (by simp) (.inr (by simp))
      · rcases List.mem_cons.1 hx with rfl | hx
        · exact Int.le_refl _
        · exact Int.le_of_lt (b1 x hx)
      · show (!q ^^ parT B x) = (q ^^ if b ≤ x then !(parT B x) else parT B x)
        rw [if_pos hx,flip]
    | a :: A,b :: B,hn,hA,hB,hOA,hOB =>
      obtain ⟨a1,a2⟩:=List.pairwise_cons.1 hA
      obtain ⟨b1,b2⟩:=List.pairwise_cons.1 hB
      have la:∀ x ∈ a :: A,a ≤ x:=fun x hx=>by
        rcases List.mem_cons.1 hx with rfl | hx
        · exact Int.le_refl _
        · exact Int.le_of_lt (a1 x hx)
      have lb:∀ x ∈ b :: B,b ≤ x:=fun x hx=>by
        rcases List.mem_cons.1 hx with rfl | hx
        · exact Int.le_refl _
        · exact Int.le_of_lt (b1 x hx)
      unfold mrg
      split
      · rename_i hc
        refine Cm.step (t:=a) (ih A (!p) (b :: B) q (mcomb1 f O (a,!p,q)) (by simp at hn ⊢; omega) a2 hB (comb1_asc hO (fun o h=>hOA o h a (by simp))) (comb1_lt (fun o h x hx=>hOA o h x (by simp [hx])) a1) (comb1_lt hOB (fun x hx=>by have:=lb x hx; dsimp only; omega)) (comb1_odd f O _)) ho la (fun x hx=>by have:=lb x hx; omega) (fun o h=>hOA o h a (by simp)) (fun x hx=>?_) (fun _ _=>rfl) a1 (fun x hx=>by have:=lb x hx; omega) (by simp only [List.length_cons]; omega) (.inl (by simp))
        show (!p ^^ parT A x) = (p ^^ if a ≤ x then !(parT A x) else parT A x)
        rw [if_pos hx,flip]
      · rename_i hc
        split
        · rename_i hc2
          refine Cm.step (t:=b) (ih (a :: A) p B (!q) (mcomb1 f O (b,p,!q)) (by simp at hn ⊢; omega) hA b2 (comb1_asc hO (fun o h=>hOB o h b (by simp))) (comb1_lt hOA (fun x hx=>by have:=la x hx; dsimp only; omega)) (comb1_lt (fun o h x hx=>hOB o h x (by simp [hx])) b1) (comb1_odd f O _)) ho (fun x hx=>by have:=la x hx; omega) lb (fun o h=>hOB o h b (by simp)) (fun _ _=>rfl) (fun x hx=>?_) (fun x hx=>by have:=la x hx; omega) b1 (by simp only [List.length_cons]; omega) (.inr (by simp))
          show (!q ^^ parT B x) = (q ^^ if b ≤ x then !(parT B x) else parT B x)
          rw [if_pos hx,flip]
        · rename_i hc2
          have hab:a = b:=by omega
          subst hab
          refine Cm.step (t:=a) (ih A (!p) B (!q) (mcomb1 f O (a,!p,!q)) (by simp at hn ⊢; omega) a2 b2 (comb1_asc hO (fun o h=>hOA o h a (by simp))) (comb1_lt (fun o h x hx=>hOA o h x (by simp [hx])) a1) (comb1_lt (fun o h x hx=>hOB o h x (by simp [hx])) b1) (comb1_odd f O _)) ho la lb (fun o h=>hOA o h a (by simp)) (fun x hx=>?_) (fun x hx=>?_) a1 b1 (by simp only [List.length_cons]; omega) (.inl (by simp))
          · show (!p ^^ parT A x) = (p ^^ if a ≤ x then !(parT A x) else parT A x)
            rw [if_pos hx,flip]
          · show (!q ^^ parT B x) = (q ^^ if a ≤ x then !(parT B x) else parT B x)
            rw [if_pos hx,flip]
theorem tog_asc:∀ {l:Iv},NormI l → (tog l).Pairwise (· < ·) ∧ ∀ lo,(∀ x ∈ l,lo < x.1) → ∀ e ∈ tog l,lo < e
  | [],_=>⟨.nil,fun _ _ _ h=>by simp [tog] at h⟩
  | x :: l,h=>by
    obtain ⟨h1,h2⟩:=tog_asc h.tail
    have e:tog (x :: l) = x.1 :: x.2 :: tog l:=rfl
    have hx:=h.hd.1
    have h3:=h2 x.2 h.hd.2
    rw [e]
    refine ⟨List.pairwise_cons.2 ⟨fun a ha=>?_,List.pairwise_cons.2 ⟨h3,h1⟩⟩,fun lo hlo a ha=>?_⟩
    · rcases List.mem_cons.1 ha with rfl | ha
      · exact hx
      · have:=h3 a ha; omega
    · have:=hlo x (by simp)
      rcases List.mem_cons.1 ha with rfl | ha
      · exact this
      · rcases List.mem_cons.1 ha with rfl | ha
        · omega
        · have:=h3 a ha; omega
def spans:List Int → Iv
  | []=>[]
  | [a]=>[(a,0)]
  | a :: b :: E=>(a,b) :: spans E
theorem spans_len:∀ E:List Int,(spans E).length = (E.length + 1) / 2
  | []=>rfl
  | [_]=>by simp [spans]
  | a :: b :: E=>by
    have:=spans_len E
    simp only [spans,List.length_cons];omega
theorem spans_even (t:Int):∀ {E:List Int},oddB E.length = false → spans (E ++ [t]) = spans E ++ [(t,0)]
  | [],_=>rfl
  | [_],h=>by simp [oddB] at h
  | a :: b :: E,h=>by
    have h':oddB E.length = false:=by
      simp only [List.length_cons,oddB_succ,Bool.not_not] at h;exact h
    show (a,b) :: spans (E ++ [t]) = _
    rw [spans_even t h']
    rfl
theorem spans_odd (t:Int):∀ {E:List Int},oddB E.length = true → ∃ l a,spans E = l ++ [(a,0)] ∧ spans (E ++ [t]) = l ++ [(a,t)]
  | [],h=>by simp [oddB] at h
  | [a],_=>⟨[],a,rfl,rfl⟩
  | a :: b :: E,h=>by
    have h':oddB E.length = true:=by
      simp only [List.length_cons,oddB_succ,Bool.not_not] at h;exact h
    obtain ⟨l,c,h1,h2⟩:=spans_odd t h'
    refine ⟨(a,b) :: l,c,?_,?_⟩
    · show (a,b) :: spans E = _
      rw [h1]; rfl
    · show (a,b) :: spans (E ++ [t]) = _
      rw [h2]; rfl
theorem spans_norm:∀ {E:List Int},oddB E.length = false → E.Pairwise (· < ·) → NormI (spans E) ∧ tog (spans E) = E
  | [],_,_=>⟨NormI.nil,rfl⟩
  | [_],h,_=>by simp [oddB] at h
  | a :: b :: E,h,hp=>by
    have h':oddB E.length = false:=by
      simp only [List.length_cons,oddB_succ,Bool.not_not] at h;exact h
    obtain ⟨p1,p2⟩:=List.pairwise_cons.1 hp
    obtain ⟨p3,p4⟩:=List.pairwise_cons.1 p2
    obtain ⟨h1,h2⟩:=spans_norm h' p4
    refine ⟨h1.cons (p1 b (by simp)) (fun y hy=>?_),?_⟩
    · have:y.1 ∈ tog (spans E):=by
        unfold tog;rw [List.mem_flatMap]
        exact ⟨y,hy,by simp⟩
      rw [h2] at this;exact p3 _ this
    · show a :: b :: tog (spans E) = _
      rw [h2]
def combI (f:Bool → Bool → Bool) (a b:Iv):Iv:=spans (mcomb f (mrg (tog a) false (tog b) false) [])
theorem combI_ok {f:Bool → Bool → Bool} (hf:f false false = false) {a b:Iv} (ha:NormI a) (hb:NormI b):NormI (combI f a b) ∧ (∀ t,memI (combI f a b) t = f (memI a t) (memI b t)) ∧ (combI f a b).length ≤ a.length + b.length:=by
  have h:=comb_ok f _ (tog a) false (tog b) false [] (Nat.le_refl _) (tog_asc ha).1 (tog_asc hb).1 .nil (fun _ h=>by simp at h) (fun _ h=>by simp at h) hf.symm
  have hx:∀ x,parT (mcomb f (mrg (tog a) false (tog b) false) []) x = f (memI a x) (memI b x):=fun x=>by
    rw [h.hi x (fun _ h=>by simp at h),parT_tog ha,parT_tog hb,Bool.false_xor,Bool.false_xor]
  have hlen:=h.len
  rw [tog_len,tog_len] at hlen
  have hodd:oddB (mcomb f (mrg (tog a) false (tog b) false) []).length = false:=by
    obtain ⟨B,hB⟩:∃ B:Int,(∀ e ∈ mcomb f (mrg (tog a) false (tog b) false) [],e ≤ B) ∧ (∀ x ∈ a,x.2 ≤ B) ∧ (∀ x ∈ b,x.2 ≤ B):=by
      have hi:∀ E:List Int,∃ B,∀ e ∈ E,e ≤ B:=fun E=>by
        induction E with
        | nil=>exact ⟨0,by simp⟩
        | cons e E ih =>
          obtain ⟨B,h⟩:=ih
          exact ⟨max B e, fun x hx => by rcases List.mem_cons.1 hx with rfl | hx; · omega
                                         · have:=h x hx; omega⟩
      obtain ⟨B1,h1⟩:=hi (mcomb f (mrg (tog a) false (tog b) false) [])
      obtain ⟨B2,h2⟩:=hi (a.map Prod.snd)
      obtain ⟨B3,h3⟩:=hi (b.map Prod.snd)
      refine ⟨max B1 (max B2 B3),fun e he=>?_,fun x hx=>?_,fun x hx=>?_⟩
      · have:=h1 e he; omega
      · have:=h2 x.2 (List.mem_map.2 ⟨x,hx,rfl⟩); omega
      · have:=h3 x.2 (List.mem_map.2 ⟨x,hx,rfl⟩); omega
    obtain ⟨h1,h2,h3⟩:=hB
    rw [← parT_all h1,hx]
    have n1:memI a B = false:=by
      cases e:memI a B with
      | false=>rfl
      | true=>obtain ⟨x,hx,_,h5⟩:=memI_iff.1 e; have:=h2 x hx; omega
    have n2:memI b B = false:=by
      cases e:memI b B with
      | false=>rfl
      | true=>obtain ⟨x,hx,_,h5⟩:=memI_iff.1 e; have:=h3 x hx; omega
    rw [n1,n2,hf]
  obtain ⟨h1,h2⟩:=spans_norm hodd h.asc
  refine ⟨h1,fun t=>?_,?_⟩
  · show memI (spans (mcomb f (mrg (tog a) false (tog b) false) [])) t = _
    rw [← parT_tog h1,h2,hx]
  · unfold combI
    rw [spans_len];simp only [List.length_nil] at hlen;omega
def unionI (a b:Iv):Iv:=combI (fun x y=>x || y) a b
theorem unionI_eq {a b:Iv} (ha:NormI a) (hb:NormI b):insAll a b = unionI a b:=by
  obtain ⟨h1,h2,_⟩:=insAll_ok (b:=b) ha hb.1
  obtain ⟨h3,h4,_⟩:=combI_ok (f:=fun x y=>x || y) rfl ha hb
  exact normI_ext h1 h3 (fun t=>by rw [h2]; exact (h4 t).symm)
end Go.Step
/- The ends of two sets, one after the other. No program in sight. No conditions. -/
namespace Go.Step
theorem oddB_cases (p:Nat):(oddB p = true ∧ p = 2 * (p / 2) + 1) ∨ (oddB p = false ∧ p = 2 * (p / 2)):=by
  unfold oddB
  by_cases h:p % 2 = 1
  · exact .inl ⟨decide_eq_true h,by omega⟩
  · exact .inr ⟨decide_eq_false h,by omega⟩
def nxtT (A B:List Int) (p q:Nat):Int:=if p < A.length then (if q < B.length ∧ B.getD q 0 < A.getD p 0 then B.getD q 0 else A.getD p 0) else B.getD q 0
def stp (A:List Int) (t:Int) (p:Nat):Nat:=if p < A.length ∧ A.getD p 0 = t then p + 1 else p
theorem stp_le {A:List Int} {t:Int} {p:Nat} (h:p ≤ A.length):p ≤ stp A t p ∧ stp A t p ≤ A.length:=by
  unfold stp
  split <;> omega
theorem drop_at {A:List Int} {p:Nat} (h:p < A.length):A.drop p = A.getD p 0 :: A.drop (p + 1):=by
  rw [List.drop_eq_getElem_cons h,List.getD_eq_getElem?_getD,List.getElem?_eq_getElem h]; rfl
theorem mrg_cc (a:Int) (A:List Int) (p:Bool) (b:Int) (B:List Int) (q:Bool):mrg (a :: A) p (b :: B) q = if a < b then (a,!p,q) :: mrg A (!p) (b :: B) q else if b < a then (b,p,!q) :: mrg (a :: A) p B (!q) else (a,!p,!q) :: mrg A (!p) B (!q):=by
  conv=>lhs; unfold mrg
theorem mrg_cn (a:Int) (A:List Int) (p q:Bool):mrg (a :: A) p [] q = (a,!p,q) :: mrg A (!p) [] q:=by
  conv=>lhs; unfold mrg
theorem mrg_nc (b:Int) (B:List Int) (p q:Bool):mrg [] p (b :: B) q = (b,p,!q) :: mrg [] p B (!q):=by
  conv=>lhs; unfold mrg
theorem mrg_at {A B:List Int} {p q:Nat} (hp:p ≤ A.length) (hq:q ≤ B.length) (h:p < A.length ∨ q < B.length) :
    mrg (A.drop p) (oddB p) (B.drop q) (oddB q) = (nxtT A B p q,oddB (stp A (nxtT A B p q) p),oddB (stp B (nxtT A B p q) q)) :: mrg (A.drop (stp A (nxtT A B p q) p)) (oddB (stp A (nxtT A B p q) p)) (B.drop (stp B (nxtT A B p q) q)) (oddB (stp B (nxtT A B p q) q)):=by
  by_cases h1:p < A.length
  · by_cases h2:q < B.length
    · rw [drop_at h1,drop_at h2,mrg_cc]
      by_cases c1:A.getD p 0 < B.getD q 0
      · have e:nxtT A B p q = A.getD p 0:=by unfold nxtT; rw [if_pos h1,if_neg (by omega)]
        have e1:stp A (A.getD p 0) p = p + 1:=by unfold stp; rw [if_pos ⟨h1,rfl⟩]
        have e2:stp B (A.getD p 0) q = q:=by unfold stp; rw [if_neg (by omega)]
        rw [if_pos c1,e,e1,e2,oddB_succ,drop_at h2]
      · by_cases c2:B.getD q 0 < A.getD p 0
        · have e:nxtT A B p q = B.getD q 0:=by unfold nxtT; rw [if_pos h1,if_pos ⟨h2,c2⟩]
          have e1:stp A (B.getD q 0) p = p:=by unfold stp; rw [if_neg (by omega)]
          have e2:stp B (B.getD q 0) q = q + 1:=by unfold stp; rw [if_pos ⟨h2,rfl⟩]
          rw [if_neg c1,if_pos c2,e,e1,e2,oddB_succ,drop_at h1]
        · have e:nxtT A B p q = A.getD p 0:=by unfold nxtT; rw [if_pos h1,if_neg (by omega)]
          have e1:stp A (A.getD p 0) p = p + 1:=by unfold stp; rw [if_pos ⟨h1,rfl⟩]
          have e2:stp B (A.getD p 0) q = q + 1:=by unfold stp; rw [if_pos ⟨h2,by omega⟩]
          rw [if_neg c1,if_neg c2,e,e1,e2,oddB_succ,oddB_succ]
    · have hq2:q = B.length:=by omega
      subst hq2
      have e:nxtT A B p B.length = A.getD p 0:=by unfold nxtT; rw [if_pos h1,if_neg (by omega)]
      have e1:stp A (A.getD p 0) p = p + 1:=by unfold stp; rw [if_pos ⟨h1,rfl⟩]
      have e2:stp B (A.getD p 0) B.length = B.length:=by unfold stp; rw [if_neg (by omega)]
      rw [drop_at h1,List.drop_length,e,e1,e2,oddB_succ,List.drop_length,mrg_cn]
  · have hp2:p = A.length:=by omega
    subst hp2
    have h2:q < B.length:=by omega
    have e:nxtT A B A.length q = B.getD q 0:=by unfold nxtT; rw [if_neg h1]
    have e1:stp A (B.getD q 0) A.length = A.length:=by unfold stp; rw [if_neg (by omega)]
    have e2:stp B (B.getD q 0) q = q + 1:=by unfold stp; rw [if_pos ⟨h2,rfl⟩]
    rw [drop_at h2,List.drop_length,e,e1,e2,oddB_succ,List.drop_length,mrg_nc]
theorem stp_go {A B:List Int} {p q:Nat} (h:p < A.length ∨ q < B.length):p < stp A (nxtT A B p q) p ∨ q < stp B (nxtT A B p q) q:=by
  by_cases h1:p < A.length
  · by_cases h2:q < B.length ∧ B.getD q 0 < A.getD p 0
    · have e:nxtT A B p q = B.getD q 0:=by unfold nxtT; rw [if_pos h1,if_pos h2]
      right; rw [e]; unfold stp; rw [if_pos ⟨h2.1,rfl⟩]; omega
    · have e:nxtT A B p q = A.getD p 0:=by unfold nxtT; rw [if_pos h1,if_neg h2]
      left; rw [e]; unfold stp; rw [if_pos ⟨h1,rfl⟩]; omega
  · have e:nxtT A B p q = B.getD q 0:=by unfold nxtT; rw [if_neg h1]
    right; rw [e]; unfold stp; rw [if_pos ⟨by omega,rfl⟩]; omega
theorem mrg_len:∀ (n:Nat) (A:List Int) (p:Bool) (B:List Int) (q:Bool),A.length + B.length ≤ n → (mrg A p B q).length ≤ A.length + B.length
  | n,[],p,[],q,_=>by unfold mrg; simp
  | 0,a :: A,p,B,q,h=>by simp at h
  | 0,[],p,b :: B,q,h=>by simp at h
  | n + 1,a :: A,p,[],q,h=>by
    rw [mrg_cn]
    have:=mrg_len n A (!p) [] q (by simp at h ⊢; omega)
    simp at this ⊢
    omega
  | n + 1,[],p,b :: B,q,h=>by
    rw [mrg_nc]
    have:=mrg_len n [] p B (!q) (by simp at h ⊢; omega)
    simp at this ⊢
    omega
  | n + 1,a :: A,p,b :: B,q,h=>by
    rw [mrg_cc]
    have h1:=mrg_len n A (!p) (b :: B) q (by simp at h ⊢; omega)
    have h2:=mrg_len n (a :: A) p B (!q) (by simp at h ⊢; omega)
    have h3:=mrg_len n A (!p) B (!q) (by simp at h ⊢; omega)
    simp at h1 h2 h3
    split
    · simp; omega
    · split <;> simp <;> omega
theorem mcomb1_len (f:Bool → Bool → Bool) (O:List Int) (e:Int × Bool × Bool):(mcomb1 f O e).length ≤ O.length + 1:=by
  unfold mcomb1
  split
  · omega
  · simp
theorem mcomb_len (f:Bool → Bool → Bool):∀ (S:List (Int × Bool × Bool)) (O:List Int),(mcomb f S O).length ≤ O.length + S.length
  | [],O=>by simp [mcomb]
  | e :: S,O=>by
    have h1:=mcomb_len f S (mcomb1 f O e)
    have h2:=mcomb1_len f O e
    show (mcomb f S (mcomb1 f O e)).length ≤ _
    simp
    omega
theorem mcomb_next (f:Bool → Bool → Bool) {S:List (Int × Bool × Bool)} {i:Nat} {e:Int × Bool × Bool} (h:S[i]? = some e) (O:List Int):mcomb f (S.take (i + 1)) O = mcomb1 f (mcomb f (S.take i) O) e:=by
  obtain ⟨hi,rfl⟩:=List.getElem?_eq_some_iff.1 h
  rw [List.take_succ_eq_append_getElem hi];unfold mcomb;rw [List.foldl_append]
  rfl
theorem mrg_end {A B:List Int} {p q:Bool}:mrg (A.drop A.length) p (B.drop B.length) q = []:=by
  rw [List.drop_length,List.drop_length];unfold mrg
  rfl
theorem drop_head {α:Type} {S:List α} {k:Nat} {x:α} {r:List α} (h:S.drop k = x :: r):S[k]? = some x ∧ S.drop (k + 1) = r ∧ k < S.length:=by
  have hk:k < S.length:=by
    apply Nat.lt_of_not_le
    intro hc
    rw [List.drop_eq_nil_of_le hc] at h
    simp at h
  rw [List.drop_eq_getElem_cons hk,List.cons.injEq] at h
  exact ⟨by rw [List.getElem?_eq_getElem hk,h.1],h.2,hk⟩
end Go.Step
/- Free spans of contacts, and their ticks. No program in sight. No conditions. -/
namespace Go.Step
theorem bks_apart {cs:List Ct} {l:List Bk} (h:firstE (bkE cs l) l.length = 0):l.Pairwise (fun x y=>x.c < y.c ∨ (x.c = y.c ∧ x.b ≤ y.a)):=by
  have hok:=bkE_ok h
  have hlt:∀ x ∈ l,x.a < x.b:=fun x hx=>by
    obtain ⟨_,c,_,_,h2,_⟩:=hok x hx
    exact h2
  have hstep:∀ i,(hi:i + 1 < l.length) → l[i].c < l[i + 1].c ∨ (l[i].c = l[i + 1].c ∧ l[i].b ≤ l[i + 1].a):=fun i hi=>by
    have h2:=firstE_zero h (i + 1) hi
    rw [bkE_at (List.getElem?_eq_getElem hi)] at h2
    split at h2
    · omega
    rw [if_neg (by omega)] at h2
    rw [Nat.add_sub_cancel,List.getD_eq_getElem?_getD,List.getElem?_eq_getElem (by omega),Option.getD_some] at h2
    unfold bk2E at h2
    split at h2
    · omega
    rename_i h3
    split at h2
    · omega
    rename_i h4
    have h5:=(cmpBk_lt _ _).1 (Decidable.not_not.1 h3)
    omega
  rw [List.pairwise_iff_getElem]
  intro i j hi hj hij
  obtain ⟨k,rfl⟩:∃ k,j = i + 1 + k:=⟨j - i - 1,by omega⟩
  induction k with
  | zero=>exact hstep i hj
  | succ k ih =>
    have h1:=ih (by omega) (by omega)
    have h2:=hstep (i + 1 + k) (by omega)
    have h3:=hlt _ (List.getElem_mem (show i + 1 + k < l.length by omega))
    have e:i + 1 + (k + 1) = i + 1 + k + 1:=by omega
    simp only [e];omega
theorem busy_apart {cs:List Ct} {l:List Bk} (h:firstE (bkE cs l) l.length = 0) (c:Int):(busyL l c).Pairwise (fun x y=>x.2 ≤ y.1):=by
  unfold busyL;rw [List.pairwise_map]
  refine ((bks_apart h).filter _).imp_of_mem (fun {x y} hx hy hxy=>?_)
  have h1:=of_decide_eq_true (List.mem_filter.1 hx).2
  have h2:=of_decide_eq_true (List.mem_filter.1 hy).2
  dsimp only
  omega
theorem busy_in {cs:List Ct} {l:List Bk} (h:firstE (bkE cs l) l.length = 0) {i:Nat} {c:Ct} (hc:cs[i]? = some c):∀ x ∈ busyL l i,c.s ≤ x.1 ∧ x.1 < x.2 ∧ x.2 ≤ c.e:=fun x hx=>by
  unfold busyL at hx
  obtain ⟨y,hy,rfl⟩:=List.mem_map.1 hx
  obtain ⟨hy1,hy2⟩:=List.mem_filter.1 hy
  have h2:=of_decide_eq_true hy2
  obtain ⟨_,c',e,h3⟩:=bkE_ok h y hy1
  rw [h2,Int.toNat_natCast,hc] at e
  obtain rfl:=Option.some.inj e
  exact h3
def gapsP (e:Int):Int → List (Int × Int) → List (Int × Int)
  | a,[]=>if a < e then [(a,e)] else []
  | a,x :: l=>(if a < x.1 then [(a,x.1)] else []) ++ gapsP e x.2 l
theorem gapsP_len (e:Int):∀ (l:List (Int × Int)) (a:Int),(gapsP e a l).length ≤ l.length + 1
  | [],a=>by unfold gapsP; split <;> simp
  | x :: l,a=>by
    have:=gapsP_len e l x.2
    unfold gapsP;rw [List.length_append,List.length_cons]
    split <;> simp <;> omega
theorem gapsP_ok {e:Int}:∀ {l:List (Int × Int)} {a:Int},(∀ x ∈ l,a ≤ x.1 ∧ x.1 < x.2 ∧ x.2 ≤ e) → l.Pairwise (fun x y=>x.2 ≤ y.1) → NormI (gapsP e a l) ∧ (∀ z ∈ gapsP e a l,a ≤ z.1 ∧ z.2 ≤ e) ∧ ∀ t,memI (gapsP e a l) t = (decide (a ≤ t ∧ t < e) && !(memI l t))
  | [],a,_,_=>by
    unfold gapsP
    by_cases h:a < e
    · rw [if_pos h]
      refine ⟨NormI.nil.cons h (by simp),fun z hz=>?_,fun t=>?_⟩
      · rw [List.mem_singleton.1 hz]
        exact ⟨Int.le_refl _,Int.le_refl _⟩
      · simp [memI,inSp]
    · rw [if_neg h]
      refine ⟨NormI.nil,by simp,fun t=>?_⟩
      rw [decide_eq_false (by omega)]
      simp [memI]
  | x :: l,a,hb,hp=>by
    obtain ⟨p1,p2⟩:=List.pairwise_cons.1 hp
    obtain ⟨h1,h2,h3⟩:=hb x (by simp)
    obtain ⟨k1,k2,k3⟩:=gapsP_ok (e:=e) (l:=l) (a:=x.2) (fun y hy=>⟨p1 y hy,(hb y (by simp [hy])).2⟩) p2
    unfold gapsP
    have hm:∀ t,memI l t = true → x.2 ≤ t:=fun t ht=>by
      obtain ⟨y,hy,h4,_⟩:=memI_iff.1 ht
      have:=p1 y hy
      omega
    have hx:∀ t,inSp t x = decide (x.1 ≤ t ∧ t < x.2):=fun t=>by rw [Bool.eq_iff_iff,inSp_iff,decide_eq_true_eq]
    by_cases h:a < x.1
    · rw [if_pos h,List.singleton_append]
      refine ⟨k1.cons h (fun z hz=>?_),fun z hz=>?_,fun t=>?_⟩
      · have:=k2 z hz
        dsimp only
        omega
      · rcases List.mem_cons.1 hz with rfl | hz
        · dsimp only; omega
        · have:=k2 z hz; omega
      · rw [memI_cons,memI_cons,k3,hx]
        have e1:inSp t (a,x.1) = decide (a ≤ t ∧ t < x.1):=by rw [Bool.eq_iff_iff,inSp_iff,decide_eq_true_eq]
        rw [e1]
        have hmt:=hm t
        cases hml:memI l t with
        | true =>
          have:=hmt hml
          rw [decide_eq_false (show ¬ (a ≤ t ∧ t < x.1) by omega)]
          simp
        | false =>
          simp only [Bool.not_false,Bool.and_true,Bool.or_false];rw [Bool.eq_iff_iff];simp only [Bool.or_eq_true,Bool.and_eq_true,decide_eq_true_eq,Bool.not_eq_true',decide_eq_false_iff_not];omega
    · rw [if_neg h,List.nil_append]
      refine ⟨k1,fun z hz=>by have:=k2 z hz; omega,fun t=>?_⟩
      rw [memI_cons,k3,hx]
      have hmt:=hm t
      cases hml:memI l t with
      | true =>
        have:=hmt hml
        simp
      | false =>
        simp only [Bool.not_false,Bool.and_true,Bool.or_false];rw [Bool.eq_iff_iff];simp only [Bool.and_eq_true,decide_eq_true_eq,Bool.not_eq_true',decide_eq_false_iff_not];omega
def freeC (cs:List Ct) (bs:List Bk) (i:Nat):List (Int × Int):=match cs[i]? with
  | some c=>gapsP c.e c.s (busyL bs i)
  | none=>[]
theorem freeC_ok {cs:List Ct} {bs:List Bk} (h:firstE (bkE cs bs) bs.length = 0) {i:Nat} {c:Ct} (hc:cs[i]? = some c):NormI (freeC cs bs i) ∧ (∀ z ∈ freeC cs bs i,c.s ≤ z.1 ∧ z.2 ≤ c.e) ∧ ∀ t,memI (freeC cs bs i) t = (decide (c.s ≤ t ∧ t < c.e) && !(bookedB bs i t)):=by
  have hf:freeC cs bs i = gapsP c.e c.s (busyL bs i):=by unfold freeC; rw [hc]
  rw [hf];exact gapsP_ok (busy_in h hc) (busy_apart h i)
def rngI (a b:Int):List Int:=(List.range (b - a).toNat).map (fun k:Nat=>a + k)
theorem mem_rngI {a b t:Int}:t ∈ rngI a b ↔ a ≤ t ∧ t < b:=by
  unfold rngI;rw [List.mem_map]
  constructor
  · rintro ⟨k,hk,rfl⟩
    rw [List.mem_range] at hk;omega
  · rintro ⟨h1,h2⟩
    exact ⟨(t - a).toNat,by rw [List.mem_range]; omega,by omega⟩
theorem rngI_asc (a b:Int):(rngI a b).Pairwise (· < ·):=by
  unfold rngI;rw [List.pairwise_map]
  exact List.pairwise_lt_range.imp (fun {x y} h=>by omega)
theorem rngI_len (a b:Int):(rngI a b).length = (b - a).toNat:=by simp [rngI]
theorem rngI_nil {a b:Int} (h:b ≤ a):rngI a b = []:=by
  unfold rngI
  rw [show (b - a).toNat = 0 by omega]
  rfl
theorem rngI_get {a b:Int} {k:Nat} (h:(k:Int) < b - a):(rngI a b)[k]? = some (a + k):=by
  unfold rngI
  rw [List.getElem?_map,List.getElem?_range (by omega)]
  rfl
theorem rngI_snoc {a b:Int} (h:a ≤ b):rngI a (b + 1) = rngI a b ++ [b]:=by
  unfold rngI
  rw [show (b + 1 - a).toNat = (b - a).toNat + 1 by omega,List.range_succ,List.map_append]
  congr 1
  simp
  omega
theorem asc_ext:∀ {a b:List Int},a.Pairwise (· < ·) → b.Pairwise (· < ·) → (∀ t,t ∈ a ↔ t ∈ b) → a = b
  | [],[],_,_,_=>rfl
  | [],y :: b,_,_,h=>by have:=(h y).2 (by simp); simp at this
  | x :: a,[],_,_,h=>by have:=(h x).1 (by simp); simp at this
  | x :: a,y :: b,ha,hb,h=>by
    obtain ⟨a1,a2⟩:=List.pairwise_cons.1 ha
    obtain ⟨b1,b2⟩:=List.pairwise_cons.1 hb
    have e:x = y:=by
      have h1:=(h x).1 (by simp)
      have h2:=(h y).2 (by simp)
      rcases List.mem_cons.1 h1 with h1 | h1
      · exact h1
      · rcases List.mem_cons.1 h2 with h2 | h2
        · exact h2.symm
        · have:=b1 x h1
          have:=a1 y h2
          omega
    subst e
    congr 1
    refine asc_ext a2 b2 (fun t=>⟨fun ht=>?_,fun ht=>?_⟩)
    · have h1:=(h t).1 (by simp [ht])
      rcases List.mem_cons.1 h1 with rfl | h1
      · have:=a1 t ht; omega
      · exact h1
    · have h1:=(h t).2 (by simp [ht])
      rcases List.mem_cons.1 h1 with rfl | h1
      · have:=b1 t ht; omega
      · exact h1
def tickS (r e g:Int) (x:Int × Int):List Int:=rngI (max x.1 r) (min x.2 (e - g))
def tickL (r e g:Int) (l:List (Int × Int)):List Int:=l.flatMap (tickS r e g)
theorem mem_tickL {r e g t:Int} {l:List (Int × Int)}:t ∈ tickL r e g l ↔ memI l t = true ∧ r ≤ t ∧ t + g < e:=by
  unfold tickL tickS;rw [List.mem_flatMap,memI_iff]
  constructor
  · rintro ⟨x,hx,h⟩
    rw [mem_rngI] at h
    exact ⟨⟨x,hx,by omega,by omega⟩,by omega,by omega⟩
  · rintro ⟨⟨x,hx,h1,h2⟩,h3,h4⟩
    exact ⟨x,hx,by rw [mem_rngI]; omega⟩
theorem tickL_asc {r e g:Int}:∀ {l:List (Int × Int)},NormI l → (tickL r e g l).Pairwise (· < ·)
  | [],_=>.nil
  | x :: l,h=>by
    have ih:=tickL_asc (r:=r) (e:=e) (g:=g) h.tail
    show (tickS r e g x ++ tickL r e g l).Pairwise (· < ·)
    rw [List.pairwise_append]
    refine ⟨rngI_asc _ _,ih,fun a ha b hb=>?_⟩
    have h1:=(mem_tickL.1 hb).1
    have h2:=memI_lo2 h h1
    unfold tickS at ha;rw [mem_rngI] at ha;omega
end Go.Step
/- Joins and meets of cuts: submodular. No program in sight. No conditions. -/
namespace Go.Step
theorem stored_none {n t:Int}:∀ {l:List Hd},(∀ g ∈ l,g.n = n → ¬ (g.a ≤ t ∧ t < g.b)) → stored l n t = 0
  | [],_=>rfl
  | h :: l,hh=>by
    unfold stored
    rw [stored_none (fun g hg=>hh g (by simp [hg])),if_neg (fun hc=>hh h (by simp) hc.1 hc.2)]
    rfl
theorem fits_all {l:List Hd} {nq:Nat} (hok:∀ h ∈ l,okHd nq h) {n Q t:Int} (hQ:0 ≤ Q) (hf:∀ h ∈ l,h.n = n → stored l n h.a ≤ Q):stored l n t ≤ Q:=by
  rcases last_active (n:=n) (t:=t) l with h | ⟨h,hm,hn,ha,hlast⟩
  · rw [stored_none h]; exact hQ
  · refine Int.le_trans (stored_mono (s:=h.a) (fun g hg=>⟨?_,fun h1 h2 h3=>⟨hlast g hg h1 h2 h3,by omega⟩⟩)) (hf h hm hn)
    have:=(hok g hg).2.2.1
    omega
theorem fit_of {qs:List Int} {cs:List Ct} {hs:List Hd} (h:chkH qs cs hs = 0):fitB qs hs = true:=by
  unfold chkH at h
  split at h
  · omega
  split at h
  · omega
  split at h
  · rename_i h1; exact absurd h h1
  split at h
  · assumption
  · omega
theorem room_nonneg {qs:List Int} {hs:List Hd} (hquo:∀ (j:Nat) (q:Int),qs[j]? = some q → 0 ≤ q ∧ q ≤ 1073741824) (hok:∀ h ∈ hs,okHd qs.length h) (hfit:fitB qs hs = true) (d:Dm) (n:Nat) (hn:n < qs.length) (t:Int):0 ≤ roomT qs hs d n t:=by
  unfold roomT
  split
  · omega
  have hx:=List.getElem?_eq_getElem hn
  have hq:=hquo n _ hx
  rw [Int.toNat_natCast,List.getD_eq_getElem?_getD,hx,Option.getD_some]
  have hf:=List.all_eq_true.1 hfit
  have:=fits_all (n:=(n:Int)) (t:=t) hok hq.1 (fun h hh hn'=>by
    have h2:=of_decide_eq_true (hf h hh)
    rw [hn',Int.toNat_natCast,List.getD_eq_getElem?_getD,hx,Option.getD_some] at h2
    exact h2)
  omega
def SetsC (c:Cu):Prop:=∀ l ∈ c,chkI l = 0 ∧ l.length ≤ 500
theorem SetsC.at {c:Cu} (h:SetsC c) (n:Int):chkI (cuAt c n) = 0 ∧ (cuAt c n).length ≤ 500:=by
  unfold cuAt;rw [List.getD_eq_getElem?_getD]
  cases e:c[n.toNat]? with
  | none=>exact ⟨by decide,by simp⟩
  | some l=>exact h l (List.mem_of_getElem? e)
theorem norm_in {l:Iv} (h:NormI l) {lo hi:Int}:(∀ t,memI l t = true → lo ≤ t ∧ t < hi) → ∀ x ∈ l,lo ≤ x.1 ∧ x.2 ≤ hi:=fun hm x hx=>by
  have h1:=h.1 x hx
  have a:=hm x.1 (memI_iff.2 ⟨x,hx,by omega,h1⟩)
  have b:=hm (x.2 - 1) (memI_iff.2 ⟨x,hx,by omega,by omega⟩)
  omega
end Go.Step
/- The plain words on flow networks: arcs, checks, values. No program in sight. No conditions. -/
namespace Go.Flow
structure Arc where
  f:Int
  t:Int
  c:Int
  deriving DecidableEq,Inhabited
def okArc (n:Int) (a:Arc):Bool:=decide (0 ≤ a.f ∧ a.f < n ∧ 0 ≤ a.t ∧ a.t < n ∧ a.f ≠ a.t ∧ 0 ≤ a.c ∧ a.c ≤ 1099511627776)
def chk (n:Int) (l:List Arc):Int:=if n < 0 then 2 else if 2000 < n ∨ 20000 < l.length then 4 else if l.all (okArc n) then 0 else 2
def okEnds (n s t:Int):Bool:=decide (0 ≤ s ∧ s < n ∧ 0 ≤ t ∧ t < n ∧ s ≠ t)
theorem okArc_iff {n:Int} {a:Arc}:okArc n a = true ↔ (0 ≤ a.f ∧ a.f < n ∧ 0 ≤ a.t ∧ a.t < n ∧ a.f ≠ a.t ∧ 0 ≤ a.c ∧ a.c ≤ 1099511627776):=by unfold okArc; rw [decide_eq_true_eq]
theorem okEnds_iff {n s t:Int}:okEnds n s t = true ↔ (0 ≤ s ∧ s < n ∧ 0 ≤ t ∧ t < n ∧ s ≠ t):=by unfold okEnds; rw [decide_eq_true_eq]
theorem chk_ok {n:Int} {l:List Arc} (h:chk n l = 0):0 ≤ n ∧ n ≤ 2000 ∧ l.length ≤ 20000 ∧ ∀ a ∈ l,okArc n a = true:=by
  unfold chk at h
  split at h
  · simp at h
  · split at h
    · simp at h
    · split at h
      · rename_i h3
        rw [List.all_eq_true] at h3
        exact ⟨by omega,by omega,by omega,h3⟩
      · simp at h
def fval (v:Int):List Arc → List Int → Int
  | a :: l,x :: fl=>((if a.f = v then x else 0) - (if a.t = v then x else 0)) + fval v l fl
  | _,_=>0
theorem fval_snoc (v:Int) (a:Arc) (x:Int):∀ (l:List Arc) (fl:List Int),l.length = fl.length → fval v (l ++ [a]) (fl ++ [x]) = fval v l fl + ((if a.f = v then x else 0) - (if a.t = v then x else 0))
  | [],[],_=>by simp [fval]
  | b :: l,y :: fl,h=>by
    simp only [List.cons_append,fval]
    rw [fval_snoc v a x l fl (by simpa using h)]
    omega
def small (fl:List Int):Prop:=∀ x ∈ fl,-1099511627776 ≤ x ∧ x ≤ 1099511627776
theorem fval_bd (v:Int):∀ (l:List Arc) (fl:List Int),small fl → -(1099511627776 * (2 * fl.length)) ≤ fval v l fl ∧ fval v l fl ≤ 1099511627776 * (2 * fl.length)
  | [],[],_=>by simp [fval]
  | [],_ :: _,_=>by simp [fval]; omega
  | _ :: _,[],_=>by simp [fval]
  | a :: l,x :: fl,h=>by
    have ih:=fval_bd v l fl (fun y hy=>h y (by simp [hy]))
    have hx:=h x (by simp)
    simp only [fval,List.length_cons]
    split <;> split <;> omega
theorem small_take {fl:List Int} (h:small fl) (k:Nat):small (fl.take k):=fun x hx=>h x (List.mem_of_mem_take hx)
theorem take_snoc' {α:Type} {l:List α} {k:Nat} (h:k < l.length):l.take (k + 1) = l.take k ++ [l[k]]:=List.take_succ_eq_append_getElem h
def netL (n:Nat) (l:List Arc) (fl:List Int):List Int:=(List.range n).map (fun (v:Nat)=>fval (v:Int) l fl)
theorem netL_len (n:Nat) (l:List Arc) (fl:List Int):(netL n l fl).length = n:=by simp [netL]
theorem netL_get {n:Nat} {l:List Arc} {fl:List Int} {v:Nat} (h:v < n):(netL n l fl).getD v 0 = fval (v:Int) l fl:=by simp [netL,h]
theorem netL_nil (n:Nat):netL n [] [] = List.replicate n 0:=by
  apply List.ext_getElem
  · simp [netL]
  · intro i h1 h2; simp [netL,fval]
def negL (l:List Int):List Int:=l.map (fun x=>-x)
theorem negL_len (l:List Int):(negL l).length = l.length:=by simp [negL]
theorem negL_get {l:List Int} {v:Nat} (h:v < l.length):(negL l).getD v 0 = -(l.getD v 0):=by simp [negL,h]
theorem netL_snoc {n:Nat} {l:List Arc} {fl:List Int} {a:Arc} {x:Int} {f t:Nat} (hl:l.length = fl.length) (hf:a.f = f) (ht:a.t = t) (hne:f ≠ t) :
    netL n (l ++ [a]) (fl ++ [x]) = ((netL n l fl).set f (fval f l fl + x)).set t (fval t l fl - x):=by
  apply List.ext_getElem
  · simp [netL]
  · intro i h1 h2
    simp only [netL,List.length_map,List.length_range] at h1
    have e:(netL n (l ++ [a]) (fl ++ [x]))[i]'(by simp [netL]; exact h1) = fval (i:Int) l fl + ((if a.f = (i:Int) then x else 0) - (if a.t = (i:Int) then x else 0)):=by
      simp only [netL,List.getElem_map,List.getElem_range]; exact fval_snoc _ a x l fl hl
    rw [e,hf,ht];simp only [List.getElem_set]
    by_cases c1:t = i
    · subst c1
      rw [if_pos rfl,if_neg (by omega),if_pos rfl]; omega
    · rw [if_neg c1]
      by_cases c2:f = i
      · subst c2
        rw [if_pos rfl,if_pos rfl,if_neg (by omega)]; omega
      · rw [if_neg c2,if_neg (by omega),if_neg (by omega)]
        simp [netL]
theorem negL_set (l:List Int) (i:Nat) (x:Int):negL (l.set i x) = (negL l).set i (-x):=by simp [negL,List.map_set]
def inCap:List Arc → List Int → Bool
  | a :: l,x :: fl=>decide (0 ≤ x ∧ x ≤ a.c) && inCap l fl
  | _,_=>true
theorem inCap_snoc (a:Arc) (x:Int):∀ (l:List Arc) (fl:List Int),l.length = fl.length → inCap (l ++ [a]) (fl ++ [x]) = (inCap l fl && decide (0 ≤ x ∧ x ≤ a.c))
  | [],[],_=>by simp [inCap]
  | b :: l,y :: fl,h=>by
    simp only [List.cons_append,inCap]
    rw [inCap_snoc a x l fl (by simpa using h),Bool.and_assoc]
theorem inCap_get:∀ (l:List Arc) (fl:List Int),inCap l fl = true → ∀ (i:Nat) (a:Arc) (x:Int),l[i]? = some a → fl[i]? = some x → 0 ≤ x ∧ x ≤ a.c
  | [],_,_,i,a,x,h1,_=>by simp at h1
  | _ :: _,[],_,i,a,x,_,h2=>by simp at h2
  | b :: l,y :: fl,h,i,a,x,h1,h2=>by
    simp only [inCap,Bool.and_eq_true,decide_eq_true_eq] at h
    cases i with
    | zero=>simp at h1 h2; subst h1; subst h2; exact h.1
    | succ i=>simp at h1 h2; exact inCap_get l fl h.2 i a x h1 h2
theorem inCap_small {n:Int}:∀ (l:List Arc) (fl:List Int),l.length = fl.length → inCap l fl = true → (∀ a ∈ l,okArc n a = true) → small fl
  | [],[],_,_,_=>fun x hx=>by simp at hx
  | a :: l,y :: fl,hl,h,hok=>fun x hx=>by
    simp only [inCap,Bool.and_eq_true,decide_eq_true_eq] at h
    have ha:=okArc_iff.1 (hok a (by simp))
    simp at hx
    rcases hx with rfl | hx
    · omega
    · exact inCap_small l fl (by simpa using hl) h.2 (fun b hb=>hok b (by simp [hb])) x hx
def balanced (n:Nat) (l:List Arc) (fl:List Int) (s t:Int):Bool:=(List.range n).all (fun (v:Nat)=>decide ((v:Int) = s ∨ (v:Int) = t ∨ fval (v:Int) l fl = 0))
def valueSpec (n:Int) (l:List Arc) (fl:List Int) (s t:Int):Int × Int:=
  if chk n l ≠ 0 then (0,chk n l) else if okEnds n s t = false then (0,2) else if fl.length ≠ l.length then (0,10) else if inCap l fl = false then (0,2)
  else if balanced n.toNat l fl s t = false then (0,24) else (fval s l fl,0)
def capOf (p:Nat → Bool):List Arc → Int
  | []=>0
  | a :: l=>(if p a.f.toNat = true ∧ p a.t.toNat = false then a.c else 0) + capOf p l
theorem capOf_snoc (p:Nat → Bool) (a:Arc):∀ l:List Arc,capOf p (l ++ [a]) = capOf p l + (if p a.f.toNat = true ∧ p a.t.toNat = false then a.c else 0)
  | []=>by simp [capOf]
  | b :: l=>by simp only [List.cons_append,capOf]; rw [capOf_snoc p a l]; omega
theorem capOf_bd (n:Int) (p:Nat → Bool):∀ l:List Arc,(∀ a ∈ l,okArc n a = true) → 0 ≤ capOf p l ∧ capOf p l ≤ 1099511627776 * l.length
  | [],_=>by simp [capOf]
  | a :: l,h=>by
    have ih:=capOf_bd n p l (fun b hb=>h b (by simp [hb]))
    have ha:=okArc_iff.1 (h a (by simp))
    simp only [capOf,List.length_cons]
    split <;> omega
def sideChk (n:Int):Option Int → List Int → Int
  | _,[]=>0
  | prev,v :: r=>if v < 0 ∨ n ≤ v then 2 else if (match prev with | some p=>decide (v ≤ p) | none=>false) = true then 9 else sideChk n (some v) r
def prevAt (l:List Int) (k:Nat):Option Int:=match k with
  | 0=>none
  | k + 1=>l[k]?
def capacitySpec (n:Int) (l:List Arc) (side:List Int):Int × Int:=
  if chk n l ≠ 0 then (0,chk n l) else if sideChk n none side ≠ 0 then (0,sideChk n none side) else (capOf (fun j=>decide ((j:Int) ∈ side)) l,0)
theorem sideChk_step {n:Int} {side:List Int} {k:Nat} (h:k < side.length) (h1:0 ≤ side[k]) (h2:side[k] < n) (h3:∀ p,prevAt side k = some p → p < side[k]) :
    sideChk n (prevAt side k) (side.drop k) = sideChk n (prevAt side (k + 1)) (side.drop (k + 1)):=by
  rw [List.drop_eq_getElem_cons h];simp only [sideChk]
  rw [if_neg (by omega),if_neg]
  · simp [prevAt,h]
  · cases hp:prevAt side k with
    | none=>simp
    | some p=>have:=h3 p hp; simp; omega
theorem sideChk_two {n:Int} {side:List Int} {k:Nat} (p:Option Int) (h:k < side.length) (h1:side[k] < 0 ∨ n ≤ side[k]):sideChk n p (side.drop k) = 2:=by
  rw [List.drop_eq_getElem_cons h];simp only [sideChk];rw [if_pos h1]
theorem sideChk_nine {n:Int} {side:List Int} {k:Nat} {p:Int} (h:k < side.length) (h1:0 ≤ side[k]) (h2:side[k] < n) (hp:prevAt side k = some p) (h3:side[k] ≤ p):sideChk n (prevAt side k) (side.drop k) = 9:=by
  rw [List.drop_eq_getElem_cons h];simp only [sideChk]
  rw [if_neg (by omega),if_pos (by rw [hp]; simp [h3])]
def marksOf (n:Nat) (side:List Int):List Bool:=(List.range n).map (fun (j:Nat)=>decide ((j:Int) ∈ side))
theorem marksOf_len (n:Nat) (side:List Int):(marksOf n side).length = n:=by simp [marksOf]
theorem marksOf_get {n:Nat} {side:List Int} {j:Nat} (h:j < n):(marksOf n side)[j]? = some (decide ((j:Int) ∈ side)):=by simp [marksOf,h]
theorem marksOf_nil (n:Nat):marksOf n [] = List.replicate n false:=by
  apply List.ext_getElem
  · simp [marksOf]
  · intro i h1 h2; simp [marksOf]
theorem marksOf_snoc {n:Nat} {side:List Int} {v:Nat}:marksOf n (side ++ [(v:Int)]) = (marksOf n side).set v true:=by
  apply List.ext_getElem
  · simp [marksOf]
  · intro i h1 h2
    simp only [List.getElem_set]
    by_cases e:v = i
    · subst e; simp [marksOf]
    · rw [if_neg e]
      have:¬ (i:Int) = (v:Int):=by omega
      simp [marksOf,this]
end Go.Flow
/- Residual arcs, their rooms, paths in them. No program in sight. No conditions. -/
namespace Go.Flow
def leastR (rm:Nat → Int) (p:List Lk):Int:=p.foldl (fun m x=>min m (rm x.k)) 1099511627776
theorem leastR_snoc (rm:Nat → Int) (p:List Lk) (x:Lk):leastR rm (p ++ [x]) = min (leastR rm p) (rm x.k):=by simp [leastR]
def rmR (l:List Arc) (fl:List Int) (k:Nat):Int:=if k % 2 = 0 then (l.getD (k / 2) default).c - fl.getD (k / 2) 0 else fl.getD (k / 2) 0
def outsOf (ls:List Lk) (v:Nat):List Lk:=ls.filter (fun x=>decide (x.f = v))
def insOf (ls:List Lk) (v:Nat):List Lk:=ls.filter (fun x=>decide (x.t = v))
theorem outsOf_snoc (ls:List Lk) (x:Lk) (v:Nat):outsOf (ls ++ [x]) v = outsOf ls v ++ (if x.f = v then [x] else []):=by
  unfold outsOf; rw [List.filter_append]; by_cases h:x.f = v <;> simp [h]
theorem insOf_snoc (ls:List Lk) (x:Lk) (v:Nat):insOf (ls ++ [x]) v = insOf ls v ++ (if x.t = v then [x] else []):=by
  unfold insOf; rw [List.filter_append]; by_cases h:x.t = v <;> simp [h]
theorem filter_le {α:Type} (p:α → Bool) (l:List α) {m:Nat} (h:l.length ≤ m):(l.filter p).length ≤ m:=Nat.le_trans (List.length_filter_le p l) h
def rlFrom:Nat → List Arc → List Lk
  | _,[]=>[]
  | i,a :: l=>⟨2 * i,a.f.toNat,a.t.toNat⟩ :: ⟨2 * i + 1,a.t.toNat,a.f.toNat⟩ :: rlFrom (i + 1) l
def rlinks (l:List Arc):List Lk:=rlFrom 0 l
theorem rlFrom_snoc (a:Arc):∀ (l:List Arc) (i:Nat),rlFrom i (l ++ [a]) = rlFrom i l ++ [(⟨2 * (i + l.length),a.f.toNat,a.t.toNat⟩:Lk),⟨2 * (i + l.length) + 1,a.t.toNat,a.f.toNat⟩]
  | [],i=>by simp [rlFrom]
  | b :: l,i=>by
    simp only [List.cons_append,rlFrom];rw [rlFrom_snoc a l (i + 1)];simp only [List.length_cons,List.cons_append]
    rw [show i + 1 + l.length = i + (l.length + 1) from by omega]
theorem rlinks_snoc (l:List Arc) (a:Arc):rlinks (l ++ [a]) = rlinks l ++ [(⟨2 * l.length,a.f.toNat,a.t.toNat⟩:Lk),⟨2 * l.length + 1,a.t.toNat,a.f.toNat⟩]:=by
  unfold rlinks; rw [rlFrom_snoc]; simp
theorem rlFrom_len:∀ (l:List Arc) (i:Nat),(rlFrom i l).length = 2 * l.length
  | [],_=>rfl
  | a :: l,i=>by simp [rlFrom,rlFrom_len l (i + 1)]; omega
theorem rlinks_len (l:List Arc):(rlinks l).length = 2 * l.length:=rlFrom_len l 0
theorem rlFrom_mem {n:Nat}:∀ (l:List Arc) (i:Nat),(∀ a ∈ l,okArc n a = true) → ∀ x ∈ rlFrom i l,x.f < n ∧ x.t < n ∧ x.k < 2 * (i + l.length)
  | [],_,_,x,hx=>by simp [rlFrom] at hx
  | a :: l,i,hok,x,hx=>by
    have ha:=okArc_iff.1 (hok a (by simp))
    simp only [rlFrom,List.mem_cons,List.length_cons] at hx ⊢
    rcases hx with rfl | rfl | hx
    · exact ⟨by simp only; omega,by simp only; omega,by simp only; omega⟩
    · exact ⟨by simp only; omega,by simp only; omega,by simp only; omega⟩
    · have:=rlFrom_mem l (i + 1) (fun b hb=>hok b (by simp [hb])) x hx
      exact ⟨this.1,this.2.1,by omega⟩
theorem rlinks_mem {n:Nat} {l:List Arc} (hok:∀ a ∈ l,okArc n a = true) {x:Lk} (hx:x ∈ rlinks l):x.f < n ∧ x.t < n ∧ x.k < 2 * l.length:=by
  have:=rlFrom_mem l 0 hok x hx
  simpa using this
end Go.Flow
/- Augmenting paths: a flow stays a flow, its value grows; the runs of the two searches. No program in sight. No conditions. -/
namespace Go.Flow
def opn (ls:List Lk) (rm:Nat → Int) (x:Lk):Prop:=x ∈ ls ∧ 0 < rm x.k
inductive Chn (E:Lk → Prop):Nat → List Lk → Nat → Prop
  | nil {v:Nat}:Chn E v [] v
  | cons {x:Lk} {v:Nat} {p:List Lk} {u:Nat}:x.f = v → E x → Chn E x.t p u → Chn E v (x :: p) u
theorem Chn.mono {E E':Lk → Prop} (h:∀ x,E x → E' x) {v u:Nat} {p:List Lk} (hc:Chn E v p u):Chn E' v p u:=by
  induction hc with
  | nil=>exact .nil
  | cons h1 h2 _ ih=>exact .cons h1 (h _ h2) ih
theorem Chn.all {E:Lk → Prop} {v u:Nat} {p:List Lk} (hc:Chn E v p u):∀ x ∈ p,E x:=by
  induction hc with
  | nil=>simp
  | cons _ h2 _ ih=>intro y hy; simp at hy; rcases hy with rfl | hy; exact h2; exact ih y hy
section
variable {n t:Nat} {ls:List Lk} {rm:Nat → Int} {D:List Int}
theorem nxt_some (hls:∀ x ∈ ls,x.f < n ∧ x.t < n) (hD:IsDist n t (opn ls rm) D) {v:Nat} (hv:v < n) (hd:0 < D.getD v 0) :
    ∃ x,nxt ls rm D v = some x ∧ x.f = v ∧ opn ls rm x ∧ D.getD x.t 0 = D.getD v 0 - 1:=by
  obtain ⟨y,hy,hyf,hyt⟩:=hD.step v hv hd
  cases e:nxt ls rm D v with
  | none =>
    unfold nxt at e;rw [List.find?_eq_none] at e
    have:=e y hy.1
    exact absurd (by rw [Bool.and_eq_true,Bool.and_eq_true,decide_eq_true_eq,decide_eq_true_eq,near,decide_eq_true_eq]; exact ⟨⟨hy.2,hyf⟩,hyt⟩) this
  | some x =>
    have hm:=List.mem_of_find?_eq_some e
    have hp:=List.find?_some e
    simp only [Bool.and_eq_true,decide_eq_true_eq,near] at hp;exact ⟨x,rfl,hp.1.2,⟨hm,hp.1.1⟩,hp.2⟩
theorem path_chn (hls:∀ x ∈ ls,x.f < n ∧ x.t < n) (hD:IsDist n t (opn ls rm) D):∀ (k:Nat) (v:Nat),v < n → D.getD v 0 = (k:Int) →
    Chn (fun x=>opn ls rm x ∧ D.getD x.t 0 = D.getD x.f 0 - 1 ∧ D.getD x.f 0 ≤ k) v (pathD (nxt ls rm D) D v) t:=by
  intro k
  induction k with
  | zero =>
    intro v hv h
    have:=hD.zero v hv h
    subst this
    rw [pathD_end (by omega)]
    exact .nil
  | succ k ih =>
    intro v hv h
    obtain ⟨x,hx,hf,ho,hn⟩:=nxt_some hls hD hv (by omega)
    rw [pathD_step hx (by omega) hn]
    have h2:=ih x.t (hls x ho.1).2 (by rw [hn,h]; omega)
    exact .cons hf ⟨ho,by rw [hf]; exact hn,by rw [hf]; omega⟩ (h2.mono (fun y hy=>⟨hy.1,hy.2.1,by have:=hy.2.2; omega⟩))
theorem path_sorted (hls:∀ x ∈ ls,x.f < n ∧ x.t < n) (hD:IsDist n t (opn ls rm) D):∀ (k:Nat) (v:Nat),v < n → D.getD v 0 = (k:Int) →
    (pathD (nxt ls rm D) D v).Pairwise (fun x y=>D.getD y.f 0 < D.getD x.f 0):=by
  intro k
  induction k with
  | zero =>
    intro v hv h
    rw [pathD_end (by omega)]
    exact List.Pairwise.nil
  | succ k ih =>
    intro v hv h
    obtain ⟨x,hx,hf,ho,hn⟩:=nxt_some hls hD hv (by omega)
    rw [pathD_step hx (by omega) hn]
    have hxt:=(hls x ho.1).2
    refine List.pairwise_cons.2 ⟨fun y hy=>?_,ih x.t hxt (by rw [hn,h]; omega)⟩
    have:=((path_chn hls hD k x.t hxt (by rw [hn,h]; omega)).all y hy).2.2
    rw [hf]; omega
end

/-! ### links of the residual graph -/
theorem rlFrom_iff {x:Lk}:∀ (l:List Arc) (i:Nat),x ∈ rlFrom i l ↔ ∃ j a,l[j]? = some a ∧ (x = ⟨2 * (i + j),a.f.toNat,a.t.toNat⟩ ∨ x = ⟨2 * (i + j) + 1,a.t.toNat,a.f.toNat⟩)
  | [],i=>by simp [rlFrom]
  | a :: l,i=>by
    simp only [rlFrom,List.mem_cons];rw [rlFrom_iff l (i + 1)]
    constructor
    · rintro (rfl | rfl | ⟨j,b,h1,h2⟩)
      · exact ⟨0,a,rfl,.inl rfl⟩
      · exact ⟨0,a,rfl,.inr rfl⟩
      · refine ⟨j + 1,b,by simpa using h1,?_⟩
        rw [show i + (j + 1) = i + 1 + j from by omega]; exact h2
    · rintro ⟨j,b,h1,h2⟩
      cases j with
      | zero => simp at h1; subst h1; rcases h2 with h2 | h2
                · exact .inl h2
                · exact .inr (.inl h2)
      | succ j =>
        refine .inr (.inr ⟨j,b,by simpa using h1,?_⟩)
        rw [show i + 1 + j = i + (j + 1) from by omega]; exact h2
theorem rlinks_iff {l:List Arc} {x:Lk}:x ∈ rlinks l ↔ ∃ j a,l[j]? = some a ∧ (x = ⟨2 * j,a.f.toNat,a.t.toNat⟩ ∨ x = ⟨2 * j + 1,a.t.toNat,a.f.toNat⟩):=by
  unfold rlinks;rw [rlFrom_iff];simp only [Nat.zero_add]
theorem fval_set (v:Int):∀ (l:List Arc) (fl:List Int) (i:Nat) (a:Arc) (y:Int),l[i]? = some a → l.length = fl.length →
    fval v l (fl.set i y) = fval v l fl + ((if a.f = v then y - fl.getD i 0 else 0) - (if a.t = v then y - fl.getD i 0 else 0))
  | [],_,i,a,y,h,_=>by simp at h
  | b :: l,[],i,a,y,_,h=>by simp at h
  | b :: l,x :: fl,i,a,y,h,hl=>by
    cases i with
    | zero =>
      simp at h; subst h
      simp only [List.set_cons_zero,fval,List.getD_cons_zero]
      split <;> split <;> omega
    | succ i =>
      simp only [List.set_cons_succ,fval,List.getD_cons_succ]
      rw [fval_set v l fl i a y (by simpa using h) (by simpa using hl)]
      omega
theorem inCap_set:∀ (l:List Arc) (fl:List Int) (i:Nat) (a:Arc) (y:Int),l[i]? = some a → inCap l fl = true → 0 ≤ y → y ≤ a.c → inCap l (fl.set i y) = true
  | [],_,i,a,y,h,_,_,_=>by simp at h
  | b :: l,[],i,a,y,_,h,_,_=>by simp [inCap]
  | b :: l,x :: fl,i,a,y,h,hc,h1,h2=>by
    simp only [inCap,Bool.and_eq_true,decide_eq_true_eq] at hc
    cases i with
    | zero =>
      simp at h; subst h
      simp only [List.set_cons_zero,inCap,Bool.and_eq_true,decide_eq_true_eq];exact ⟨⟨h1,h2⟩,hc.2⟩
    | succ i =>
      simp only [List.set_cons_succ,inCap,Bool.and_eq_true,decide_eq_true_eq]
      exact ⟨hc.1,inCap_set l fl i a y (by simpa using h) hc.2 h1 h2⟩
def augR (room:Int) (fl:List Int) (x:Lk):List Int:=fl.set (x.k / 2) (if x.k % 2 = 0 then fl.getD (x.k / 2) 0 + room else fl.getD (x.k / 2) 0 - room)
def augAll (room:Int) (fl:List Int) (p:List Lk):List Int:=p.foldl (augR room) fl
theorem augR_len (room:Int) (fl:List Int) (x:Lk):(augR room fl x).length = fl.length:=by simp [augR]
theorem augAll_len (room:Int):∀ (p:List Lk) (fl:List Int),(augAll room fl p).length = fl.length
  | [],fl=>rfl
  | x :: p,fl=>by
    have:=augAll_len room p (augR room fl x)
    rw [augR_len] at this;exact this
theorem getD_set' {l:List Int} {i j:Nat} {x:Int} (h:i ≠ j):(l.set i x).getD j 0 = l.getD j 0:=by
  rw [List.getD_eq_getElem?_getD,List.getElem?_set_ne h,← List.getD_eq_getElem?_getD]
theorem augR_ok {n:Nat} {l:List Arc} {fl:List Int} {x:Lk} {room:Int} (hok:∀ a ∈ l,okArc n a = true) (hl:l.length = fl.length) (hc:inCap l fl = true) (hx:x ∈ rlinks l) (h0:0 ≤ room) (hr:room ≤ rmR l fl x.k) :
    inCap l (augR room fl x) = true ∧ (∀ v:Nat,fval v l (augR room fl x) = fval v l fl + ((if x.f = v then room else 0) - (if x.t = v then room else 0))) ∧ ∀ k,k / 2 ≠ x.k / 2 → rmR l (augR room fl x) k = rmR l fl k:=by
  obtain ⟨j,a,ha,hxe⟩:=rlinks_iff.1 hx
  have hjl:j < l.length:=(List.getElem?_eq_some_iff.1 ha).1
  have hfj:fl[j]? = some (fl.getD j 0):=by simp [List.getD_eq_getElem?_getD,show j < fl.length by omega]
  have hlj:l.getD j default = a:=by simp [List.getD_eq_getElem?_getD,ha]
  have hin:=inCap_get l fl hc j a _ ha hfj
  obtain ⟨g1,g2,g3,g4,g5,g6,g7⟩:=okArc_iff.1 (hok a (List.mem_of_getElem? ha))
  have hrest:∀ k,k / 2 ≠ x.k / 2 → rmR l (augR room fl x) k = rmR l fl k:=fun k hk=>by
    unfold rmR augR;rw [getD_set' (Ne.symm hk)]
  refine ⟨?_,?_,hrest⟩
  · rcases hxe with rfl | rfl
    · unfold rmR at hr
      unfold augR
      dsimp only at hr ⊢
      rw [show 2 * j / 2 = j from by omega,if_pos (by omega),hlj] at hr
      rw [show 2 * j / 2 = j from by omega,if_pos (by omega)]
      exact inCap_set l fl j a _ ha hc (by omega) (by omega)
    · unfold rmR at hr
      unfold augR
      dsimp only at hr ⊢
      rw [show (2 * j + 1) / 2 = j from by omega,if_neg (by omega)] at hr
      rw [show (2 * j + 1) / 2 = j from by omega,if_neg (by omega)]
      exact inCap_set l fl j a _ ha hc (by omega) (by omega)
  · intro v
    rcases hxe with rfl | rfl
    · unfold augR
      dsimp only
      rw [show 2 * j / 2 = j from by omega,if_pos (by omega),fval_set v l fl j a _ ha hl]
      have e1:(a.f = (v:Int)) ↔ (a.f.toNat = v):=by omega
      have e2:(a.t = (v:Int)) ↔ (a.t.toNat = v):=by omega
      simp only [e1,e2]
      split <;> split <;> omega
    · unfold augR
      dsimp only
      rw [show (2 * j + 1) / 2 = j from by omega,if_neg (by omega),fval_set v l fl j a _ ha hl]
      have e1:(a.f = (v:Int)) ↔ (a.f.toNat = v):=by omega
      have e2:(a.t = (v:Int)) ↔ (a.t.toNat = v):=by omega
      simp only [e1,e2]
      split <;> split <;> omega
theorem augAll_ok {n:Nat} {l:List Arc} {room:Int} (hok:∀ a ∈ l,okArc n a = true) (h0:0 ≤ room) {E:Lk → Prop} (hE:∀ x,E x → x ∈ rlinks l) {u w:Nat} {p:List Lk} (hp:Chn E u p w) :
    ∀ (fl:List Int),l.length = fl.length → inCap l fl = true → p.Pairwise (fun x y=>x.k / 2 ≠ y.k / 2) → (∀ x ∈ p,room ≤ rmR l fl x.k) →
    inCap l (augAll room fl p) = true ∧ ∀ v:Nat,fval v l (augAll room fl p) = fval v l fl + ((if u = v then room else 0) - (if w = v then room else 0)):=by
  induction hp with
  | nil=>intro fl _ hc _ _; exact ⟨hc,fun v=>by simp [augAll]⟩
  | @cons x u p w hf hx _ ih =>
    intro fl hl hc hpw hr
    rw [List.pairwise_cons] at hpw
    obtain ⟨s1,s2,s3⟩:=augR_ok hok hl hc (hE x hx) h0 (hr x (by simp))
    obtain ⟨r1,r2⟩:=ih (augR room fl x) (by rw [augR_len]; exact hl) s1 hpw.2 (fun y hy=>by rw [s3 y.k (Ne.symm (hpw.1 y hy))]; exact hr y (by simp [hy]))
    refine ⟨r1,fun v=>?_⟩
    have:=r2 v
    rw [s2 v] at this
    show fval v l (augAll room (augR room fl x) p) = _
    rw [this,hf]
    split <;> split <;> split <;> omega
theorem leastR_le (rm:Nat → Int):∀ (p:List Lk) (m:Int),p.foldl (fun m x=>min m (rm x.k)) m ≤ m ∧ ∀ x ∈ p,p.foldl (fun m x=>min m (rm x.k)) m ≤ rm x.k
  | [],m=>by simp
  | y :: p,m=>by
    have ih:=leastR_le rm p (min m (rm y.k))
    refine ⟨by simp only [List.foldl_cons]; omega,fun x hx=>?_⟩
    simp only [List.foldl_cons]
    simp at hx
    rcases hx with rfl | hx
    · omega
    · exact ih.2 x hx
theorem leastR_pos (rm:Nat → Int):∀ (p:List Lk) (m:Int),0 < m → (∀ x ∈ p,0 < rm x.k) → 0 < p.foldl (fun m x=>min m (rm x.k)) m
  | [],m,h,_=>by simpa using h
  | y :: p,m,h,hp=>by
    simp only [List.foldl_cons]
    exact leastR_pos rm p _ (by have:=hp y (by simp); omega) (fun x hx=>hp x (by simp [hx]))
structure Flw (n:Nat) (l:List Arc) (s t:Nat) (fl:List Int):Prop where
  len:l.length = fl.length
  cap:inCap l fl = true
  bal:∀ v:Nat,v < n → v ≠ s → v ≠ t → fval v l fl = 0
section
variable {n s t:Nat} {l:List Arc}
theorem rl_lt (hok:∀ a ∈ l,okArc n a = true):∀ x ∈ rlinks l,x.f < n ∧ x.t < n:=fun _ hx=>⟨(rlinks_mem hok hx).1,(rlinks_mem hok hx).2.1⟩
abbrev rE (l:List Arc) (fl:List Int):Lk → Prop:=opn (rlinks l) (rmR l fl)
abbrev rP (l:List Arc) (fl:List Int) (D:List Int) (s:Nat):List Lk:=pathD (nxt (rlinks l) (rmR l fl) D) D s
abbrev rNext (l:List Arc) (fl:List Int) (D:List Int) (s:Nat):List Int:=augAll (leastR (rmR l fl) (rP l fl D s)) fl (rP l fl D s)
theorem rP_arcs (hok:∀ a ∈ l,okArc n a = true) (hs:s < n) {fl D:List Int} (hD:IsDist n t (rE l fl) D) (h0:0 ≤ D.getD s 0):(rP l fl D s).Pairwise (fun x y=>x.k / 2 ≠ y.k / 2):=by
  obtain ⟨k,hk⟩:=Int.eq_ofNat_of_zero_le h0
  have hp:=path_sorted (rl_lt hok) hD k s hs hk
  have hc:=(path_chn (rl_lt hok) hD k s hs hk).all
  refine List.Pairwise.imp_of_mem (fun {x y} hx hy hxy e=>?_) hp
  obtain ⟨i,a,ha,hxe⟩:=rlinks_iff.1 (hc x hx).1.1
  obtain ⟨j,b,hb,hye⟩:=rlinks_iff.1 (hc y hy).1.1
  have dx:=(hc x hx).2.1
  have dy:=(hc y hy).2.1
  have hij:i = j:=by rcases hxe with rfl | rfl <;> rcases hye with rfl | rfl <;> (dsimp only at e; omega)
  subst hij;rw [ha] at hb
  obtain rfl:=Option.some.inj hb
  rcases hxe with rfl | rfl <;> rcases hye with rfl | rfl <;> (dsimp only at hxy dx dy; omega)
theorem rNext_ok (hok:∀ a ∈ l,okArc n a = true) (hs:s < n) (hst:s ≠ t) {fl D:List Int} (hf:Flw n l s t fl) (hD:IsDist n t (rE l fl) D) (h0:0 ≤ D.getD s 0) :
    Flw n l s t (rNext l fl D s) ∧ 0 < leastR (rmR l fl) (rP l fl D s) ∧ fval s l (rNext l fl D s) = fval s l fl + leastR (rmR l fl) (rP l fl D s):=by
  obtain ⟨k,hk⟩:=Int.eq_ofNat_of_zero_le h0
  have hch:=path_chn (rl_lt hok) hD k s hs hk
  have hpos:0 < leastR (rmR l fl) (rP l fl D s):=leastR_pos _ _ _ (by omega) (fun x hx=>(hch.all x hx).1.2)
  obtain ⟨r1,r2⟩:=augAll_ok hok (Int.le_of_lt hpos) (E:=fun x=>rE l fl x ∧ D.getD x.t 0 = D.getD x.f 0 - 1 ∧ D.getD x.f 0 ≤ k) (fun x hx=>hx.1.1) hch fl hf.len hf.cap (rP_arcs hok hs hD h0) (fun x hx=>(leastR_le _ _ _).2 x hx)
  refine ⟨⟨by rw [augAll_len]; exact hf.len,r1,fun v hv h1 h2=>?_⟩,hpos,?_⟩
  · rw [r2 v,if_neg (Ne.symm h1),if_neg (Ne.symm h2),hf.bal v hv h1 h2]; rfl
  · rw [r2 s,if_pos rfl,if_neg (Ne.symm hst)]; omega
end
inductive RunR (n:Nat) (l:List Arc) (s t:Nat):List Int → List Int → Prop
  | done {fl D:List Int}:IsDist n t (rE l fl) D → D.getD s 0 < 0 → RunR n l s t fl fl
  | step {fl D F:List Int}:IsDist n t (rE l fl) D → 0 ≤ D.getD s 0 → RunR n l s t (rNext l fl D s) F → RunR n l s t fl F
theorem RunR.uniq {n s t:Nat} {l:List Arc} (hok:∀ a ∈ l,okArc n a = true) {fl F G:List Int} (h1:RunR n l s t fl F) (h2:RunR n l s t fl G):F = G:=by
  have hE:∀ fl x,rE l fl x → x.f < n ∧ x.t < n:=fun fl x hx=>rl_lt hok x hx.1
  induction h1 generalizing G with
  | done hD hn =>
    cases h2 with
    | done=>rfl
    | step hD2 h0 _=>rw [hD.uniq (hE _) hD2] at hn; omega
  | step hD h0 _ ih =>
    cases h2 with
    | done hD2 hn=>rw [hD.uniq (hE _) hD2] at h0; omega
    | step hD2 _ hr=>rw [hD.uniq (hE _) hD2] at ih; exact ih hr
theorem RunR.flw {n s t:Nat} {l:List Arc} (hok:∀ a ∈ l,okArc n a = true) (hs:s < n) (hst:s ≠ t) {fl F:List Int} (h:RunR n l s t fl F):Flw n l s t fl → Flw n l s t F ∧ ∃ D,IsDist n t (rE l F) D ∧ D.getD s 0 < 0:=by
  induction h with
  | done hD hn=>intro hf; exact ⟨hf,_,hD,hn⟩
  | step hD h0 _ ih=>intro hf; exact ih (rNext_ok hok hs hst hf hD h0).1
theorem fval_zeros (v:Int):∀ (l:List Arc),fval v l (List.replicate l.length 0) = 0
  | []=>rfl
  | a :: l=>by simp only [List.length_cons,List.replicate_succ,fval]; rw [fval_zeros v l]; split <;> split <;> rfl
theorem inCap_zeros {n:Nat}:∀ (l:List Arc),(∀ a ∈ l,okArc n a = true) → inCap l (List.replicate l.length 0) = true
  | [],_=>rfl
  | a :: l,h=>by
    have ha:=okArc_iff.1 (h a (by simp))
    simp only [List.length_cons,List.replicate_succ,inCap,Bool.and_eq_true,decide_eq_true_eq]
    exact ⟨⟨by omega,by omega⟩,inCap_zeros l (fun b hb=>h b (by simp [hb]))⟩
theorem flw_zeros {n s t:Nat} {l:List Arc} (hok:∀ a ∈ l,okArc n a = true):Flw n l s t (List.replicate l.length 0):=⟨by simp,inCap_zeros l hok,fun v _ _ _=>fval_zeros v l⟩
end Go.Flow
namespace Go.Flow
theorem opens_eq {n:Nat} {ls:List Lk} (hls:∀ x ∈ ls,x.f < n ∧ x.t < n) (rm:Nat → Int):(fun x=>x.t < n ∧ x ∈ insOf ls x.t ∧ 0 < rm x.k) = opn ls rm:=by
  funext x
  apply propext
  unfold opn insOf;rw [List.mem_filter]
  constructor
  · rintro ⟨_,⟨h,_⟩,h2⟩; exact ⟨h,h2⟩
  · rintro ⟨h,h2⟩; exact ⟨(hls x h).2,⟨h,by simp⟩,h2⟩
theorem nxt_eq (ls:List Lk) (rm:Nat → Int) (D:List Int):(fun v=>((outsOf ls v).filter (fun x=>decide (0 < rm x.k))).find? (near D v)) = nxt ls rm D:=by
  funext v
  unfold nxt outsOf;rw [find_filter,find_filter]
  congr 1
  funext x
  rw [← Bool.and_assoc,Bool.and_comm (decide (x.f = v))]
theorem Chn.take {E:Lk → Prop} {v u:Nat} {p:List Lk} (hc:Chn E v p u):∀ i,∃ w,Chn E v (p.take i) w:=by
  induction hc with
  | nil=>intro i; exact ⟨_,by simpa using Chn.nil⟩
  | cons h1 h2 _ ih =>
    intro i
    cases i with
    | zero=>exact ⟨_,by simpa using Chn.nil⟩
    | succ i=>obtain ⟨w,hw⟩:=ih i; exact ⟨w,.cons h1 h2 hw⟩
theorem rTake_cap {n s t:Nat} {l:List Arc} (hok:∀ a ∈ l,okArc n a = true) (hs:s < n) {fl D:List Int} (hf:Flw n l s t fl) (hD:IsDist n t (rE l fl) D) (h0:0 ≤ D.getD s 0) (i:Nat) :
    inCap l (augAll (leastR (rmR l fl) (rP l fl D s)) fl ((rP l fl D s).take i)) = true:=by
  obtain ⟨k,hk⟩:=Int.eq_ofNat_of_zero_le h0
  have hch:=path_chn (rl_lt hok) hD k s hs hk
  have hpos:0 < leastR (rmR l fl) (rP l fl D s):=leastR_pos _ _ _ (by omega) (fun x hx=>(hch.all x hx).1.2)
  obtain ⟨w,hw⟩:=hch.take i
  exact (augAll_ok hok (Int.le_of_lt hpos) (E:=fun x=>rE l fl x ∧ D.getD x.t 0 = D.getD x.f 0 - 1 ∧ D.getD x.f 0 ≤ k) (fun x hx=>hx.1.1) hw fl hf.len hf.cap ((rP_arcs hok hs hD h0).sublist (List.take_sublist _ _)) (fun x hx=>(leastR_le _ _ _).2 x (List.mem_of_mem_take hx))).1
theorem augAll_snoc (room:Int) (fl:List Int) (p:List Lk) (x:Lk):augAll room fl (p ++ [x]) = augR room (augAll room fl p) x:=by simp [augAll]
theorem path_len {n t:Nat} {ls:List Lk} {rm:Nat → Int} {D:List Int} (hls:∀ x ∈ ls,x.f < n ∧ x.t < n) (hD:IsDist n t (opn ls rm) D):∀ (k:Nat) (v:Nat),v < n → D.getD v 0 = (k:Int) → (pathD (nxt ls rm D) D v).length = k:=by
  intro k
  induction k with
  | zero=>intro v hv h; rw [pathD_end (by omega)]; rfl
  | succ k ih =>
    intro v hv h
    obtain ⟨x,hx,hf,ho,hn⟩:=nxt_some hls hD hv (by omega)
    rw [pathD_step hx (by omega) hn,List.length_cons,ih x.t (hls x ho.1).2 (by rw [hn,h]; omega)]
end Go.Flow
/- Cuts and flows: the value of a flow is at most the capacity of a cut; where nothing more can be reached, it is the capacity. No program in sight. No conditions. -/
namespace Go.Flow
def sumTo (g:Nat → Int):Nat → Int
  | 0=>0
  | n + 1=>sumTo g n + g n
theorem sumTo_add (g h:Nat → Int):∀ n,sumTo (fun v=>g v + h v) n = sumTo g n + sumTo h n
  | 0=>rfl
  | n + 1=>by simp only [sumTo]; rw [sumTo_add g h n]; omega
theorem sumTo_congr {g h:Nat → Int}:∀ n,(∀ v,v < n → g v = h v) → sumTo g n = sumTo h n
  | 0,_=>rfl
  | n + 1,e=>by simp only [sumTo]; rw [sumTo_congr n (fun v hv=>e v (by omega)),e n (by omega)]
theorem sumTo_zero {g:Nat → Int}:∀ n,(∀ v,v < n → g v = 0) → sumTo g n = 0
  | 0,_=>rfl
  | n + 1,e=>by simp only [sumTo]; rw [sumTo_zero n (fun v hv=>e v (by omega)),e n (by omega)]; rfl
theorem sumTo_one {g:Nat → Int} {k:Nat}:∀ n,k < n → (∀ v,v < n → v ≠ k → g v = 0) → sumTo g n = g k
  | 0,h,_=>by omega
  | n + 1,h,e=>by
    simp only [sumTo]
    by_cases hk:k = n
    · subst hk
      rw [sumTo_zero k (fun v hv=>e v (by omega) (by omega))]; omega
    · rw [sumTo_one n (by omega) (fun v hv hne=>e v (by omega) hne),e n (by omega) (by omega)]; omega
def netB (B:Nat → Bool):List Arc → List Int → Int
  | a :: l,x :: fl=>((if B a.f.toNat = true then x else 0) - (if B a.t.toNat = true then x else 0)) + netB B l fl
  | _,_=>0
theorem netB_eq {n:Nat} (B:Nat → Bool):∀ (l:List Arc) (fl:List Int),(∀ a ∈ l,okArc n a = true) → sumTo (fun v=>if B v = true then fval v l fl else 0) n = netB B l fl
  | [],fl,_=>by
    rw [sumTo_zero n (fun v _=>by simp [fval])]; rfl
  | a :: l,[],_=>by
    rw [sumTo_zero n (fun v _=>by simp [fval])]; rfl
  | a :: l,x :: fl,h=>by
    obtain ⟨g1,g2,g3,g4,_⟩:=okArc_iff.1 (h a (by simp))
    have ih:=netB_eq B l fl (fun b hb=>h b (by simp [hb]))
    simp only [netB];rw [← ih]
    have e1:sumTo (fun v=>if B v = true then (if a.f = (v:Int) then x else 0) else 0) n = if B a.f.toNat = true then x else 0:=by
      rw [sumTo_one (k:=a.f.toNat) n (by omega) (fun v _ hne=>by rw [if_neg (show ¬ a.f = (v:Int) by omega)]; split <;> rfl)]
      rw [if_pos (show a.f = ((a.f.toNat:Nat):Int) by omega)]
    have e2:sumTo (fun v=>if B v = true then (if a.t = (v:Int) then -x else 0) else 0) n = if B a.t.toNat = true then -x else 0:=by
      rw [sumTo_one (k:=a.t.toNat) n (by omega) (fun v _ hne=>by rw [if_neg (show ¬ a.t = (v:Int) by omega)]; split <;> rfl)]
      rw [if_pos (show a.t = ((a.t.toNat:Nat):Int) by omega)]
    have e3:sumTo (fun v=>if B v = true then fval v (a :: l) (x :: fl) else 0) n = sumTo (fun v=>((if B v = true then (if a.f = (v:Int) then x else 0) else 0) + (if B v = true then (if a.t = (v:Int) then -x else 0) else 0)) + (if B v = true then fval v l fl else 0)) n:=by
      apply sumTo_congr
      intro v _
      simp only [fval]
      repeat' split
      all_goals omega
    rw [e3,sumTo_add,sumTo_add,e1,e2]
    repeat' split
    all_goals omega
section
variable {n s t:Nat} {l:List Arc} {fl:List Int} {B:Nat → Bool}
theorem Flw.net (hok:∀ a ∈ l,okArc n a = true) (hf:Flw n l s t fl) (hs:s < n) (h1:B s = true) (h2:B t = false):netB B l fl = fval s l fl:=by
  rw [← netB_eq B l fl hok,sumTo_one (k:=s) n hs (fun v hv hne=>?_)]
  · rw [if_pos h1]
  · split
    · rename_i hb
      exact hf.bal v hv hne (fun e=>by subst e; rw [h2] at hb; simp at hb)
    · rfl
end
def tight (B:Nat → Bool) (l:List Arc) (fl:List Int):Prop:=
  ∀ (i:Nat) (a:Arc) (x:Int),l[i]? = some a → fl[i]? = some x → (B a.f.toNat = true → B a.t.toNat = false → x = a.c) ∧ (B a.f.toNat = false → B a.t.toNat = true → x = 0)
theorem net_le (B:Nat → Bool):∀ (l:List Arc) (fl:List Int),l.length = fl.length → inCap l fl = true → (∀ a ∈ l,0 ≤ a.c) → netB B l fl ≤ capOf B l ∧ (netB B l fl = capOf B l ↔ tight B l fl)
  | [],[],_,_,_=>⟨by simp [netB,capOf],by simp [netB,capOf,tight]⟩
  | a :: l,x :: fl,hl,h,h0=>by
    simp only [inCap,Bool.and_eq_true,decide_eq_true_eq] at h
    obtain ⟨ih1,ih2⟩:=net_le B l fl (by simpa using hl) h.2 (fun b hb=>h0 b (by simp [hb]))
    have ha:=h0 a (by simp)
    simp only [netB,capOf]
    have hstep:tight B (a :: l) (x :: fl) ↔ (((B a.f.toNat = true → B a.t.toNat = false → x = a.c) ∧ (B a.f.toNat = false → B a.t.toNat = true → x = 0)) ∧ tight B l fl):=by
      constructor
      · intro ht
        exact ⟨ht 0 a x rfl rfl,fun i b y hb hy=>ht (i + 1) b y (by simpa using hb) (by simpa using hy)⟩
      · rintro ⟨h1,h2⟩ i b y hb hy
        cases i with
        | zero=>simp at hb hy; subst hb; subst hy; exact h1
        | succ i=>exact h2 i b y (by simpa using hb) (by simpa using hy)
    rw [hstep,← ih2]
    cases hB1:B a.f.toNat <;> cases hB2:B a.t.toNat <;> simp <;> omega
inductive Rch (E:Lk → Prop) (s:Nat):Nat → Prop
  | refl:Rch E s s
  | step {x:Lk}:Rch E s x.f → E x → Rch E s x.t
theorem Rch.far {n s t:Nat} {E:Lk → Prop} {D:List Int} (hD:IsDist n t E D) (hs:D.getD s 0 < 0) {v:Nat} (h:Rch E s v):D.getD v 0 < 0:=by
  induction h with
  | refl=>exact hs
  | @step x _ hx ih =>
    apply Classical.byContradiction
    intro hc
    have:=(hD.link x hx (by omega)).1
    omega
theorem Rch.sub {E:Lk → Prop} {s:Nat} {B:Nat → Bool} (hs:B s = true) (hcl:∀ x,E x → B x.f = true → B x.t = true) {v:Nat} (h:Rch E s v):B v = true:=by
  induction h with
  | refl=>exact hs
  | step _ hx ih=>exact hcl _ hx ih
section
variable {n s t:Nat} {l:List Arc} {fl:List Int} {B:Nat → Bool}
theorem tight_iff (hl:l.length = fl.length) (hc:inCap l fl = true):tight B l fl ↔ ∀ x,rE l fl x → B x.f = true → B x.t = true:=by
  have hgl:∀ (i:Nat) (a:Arc),l[i]? = some a → l.getD i default = a ∧ ∃ x,fl[i]? = some x ∧ fl.getD i 0 = x:=fun i a ha=>by
    have hi:i < l.length:=(List.getElem?_eq_some_iff.1 ha).1
    have hi2:i < fl.length:=by omega
    refine ⟨by simp [List.getD_eq_getElem?_getD,ha],fl[i],List.getElem?_eq_getElem hi2,by simp [List.getD_eq_getElem?_getD,hi2]⟩
  constructor
  · rintro ht x ⟨hx,hr⟩ hB
    obtain ⟨i,a,ha,hxe⟩:=rlinks_iff.1 hx
    obtain ⟨e1,y,hy,e2⟩:=hgl i a ha
    obtain ⟨t1,t2⟩:=ht i a y ha hy
    have hin:=inCap_get l fl hc i a y ha hy
    unfold rmR at hr
    rcases hxe with rfl | rfl
    · dsimp only at hr hB ⊢
      rw [if_pos (by omega),show 2 * i / 2 = i from by omega,e1,e2] at hr
      cases hb:B a.t.toNat with
      | true=>rfl
      | false=>have:=t1 hB hb; omega
    · dsimp only at hr hB ⊢
      rw [if_neg (by omega),show (2 * i + 1) / 2 = i from by omega,e2] at hr
      cases hb:B a.f.toNat with
      | true=>rfl
      | false=>have:=t2 hb hB; omega
  · intro h i a y ha hy
    obtain ⟨e1,y',hy',e2⟩:=hgl i a ha
    rw [hy] at hy'
    obtain rfl:=Option.some.inj hy'
    have hin:=inCap_get l fl hc i a y ha hy
    constructor
    · intro h1 h2
      have:=h ⟨2 * i,a.f.toNat,a.t.toNat⟩
      apply Classical.byContradiction
      intro hne
      have h3:=this ⟨rlinks_iff.2 ⟨i,a,ha,.inl rfl⟩,by unfold rmR; dsimp only; rw [if_pos (by omega),show 2 * i / 2 = i from by omega,e1,e2]; omega⟩ h1
      dsimp only at h3
      rw [h2] at h3; simp at h3
    · intro h1 h2
      have:=h ⟨2 * i + 1,a.t.toNat,a.f.toNat⟩
      apply Classical.byContradiction
      intro hne
      have h3:=this ⟨rlinks_iff.2 ⟨i,a,ha,.inr rfl⟩,by unfold rmR; dsimp only; rw [if_neg (by omega),show (2 * i + 1) / 2 = i from by omega,e2]; omega⟩ h2
      dsimp only at h3
      rw [h1] at h3; simp at h3
theorem ok_cap (hok:∀ a ∈ l,okArc n a = true):∀ a ∈ l,0 ≤ a.c:=fun a ha=>by have:=okArc_iff.1 (hok a ha); omega
theorem Flw.le_cap (hok:∀ a ∈ l,okArc n a = true) (hf:Flw n l s t fl) (hs:s < n) (h1:B s = true) (h2:B t = false):fval s l fl ≤ capOf B l:=by
  rw [← hf.net hok hs h1 h2];exact (net_le B l fl hf.len hf.cap (ok_cap hok)).1
def IsReach (n:Nat) (E:Lk → Prop) (s:Nat) (B:Nat → Bool):Prop:=∀ v,v < n → (B v = true ↔ Rch E s v)
theorem IsReach.closed {E:Lk → Prop} (hE:∀ x,E x → x.f < n ∧ x.t < n) (h:IsReach n E s B):∀ x,E x → B x.f = true → B x.t = true:=
  fun x hx hb=>(h x.t (hE x hx).2).2 (.step ((h x.f (hE x hx).1).1 hb) hx)
theorem run_cut (hok:∀ a ∈ l,okArc n a = true) (hs:s < n) (ht:t < n) (hst:s ≠ t) (hr:RunR n l s t (List.replicate l.length 0) fl) (hB:IsReach n (rE l fl) s B) :
    Flw n l s t fl ∧ B s = true ∧ B t = false ∧ fval s l fl = capOf B l:=by
  obtain ⟨hf,D,hD,hn⟩:=hr.flw hok hs hst (flw_zeros hok)
  have hE:∀ x,rE l fl x → x.f < n ∧ x.t < n:=fun x hx=>rl_lt hok x hx.1
  have b1:B s = true:=(hB s hs).2 .refl
  have b2:B t = false:=by
    cases hb:B t with
    | false=>rfl
    | true =>
      have:=((hB t ht).1 hb).far hD hn
      rw [hD.at0] at this; omega
  refine ⟨hf,b1,b2,?_⟩;rw [← hf.net hok hs b1 b2];exact (net_le B l fl hf.len hf.cap (ok_cap hok)).2.2 ((tight_iff hf.len hf.cap).2 (hB.closed hE))
end
theorem exists_reach (n:Nat) (E:Lk → Prop) (s:Nat):∃ B,IsReach n E s B:=by
  refine ⟨fun v=>open Classical in decide (Rch E s v),fun v _=>?_⟩
  simp
end Go.Flow
/- Time-expanded networks. No program in sight. No conditions. -/
namespace Go.Step
open Go.Flow (capOf chk okArc okArc_iff)
abbrev Arc:=Go.Flow.Arc
structure VOk (qs:List Int) (cs:List Ct) (bs:List Bk) (hs:List Hd) (d:Dm):Prop where
  ct:∀ c ∈ cs,(0 ≤ c.f ∧ c.f < qs.length) ∧ (0 ≤ c.t ∧ c.t < qs.length) ∧ (0 ≤ c.s ∧ c.s < c.e ∧ c.e ≤ 1099511627776) ∧ (1 ≤ c.r ∧ c.r ≤ 1000) ∧ (1 ≤ c.g ∧ c.g ≤ 1048576)
  nb:bs.length ≤ 512
  bk:firstE (bkE cs bs) bs.length = 0
  hd:∀ x ∈ hs,okHd qs.length x
  nh:hs.length ≤ 512
  fit:fitB qs hs = true
  nq:1 ≤ qs.length ∧ qs.length ≤ 16
  quo:∀ (j:Nat) (q:Int),qs[j]? = some q → 0 ≤ q ∧ q ≤ 1073741824
  dm:okDm qs.length d
  nc:cs.length ≤ 64
def wd (d:Dm):Int:=d.e - d.r + 1
def vtx (d:Dm) (n t:Int):Int:=n * wd d + (t - d.r)
theorem vtx_div {d:Dm} {n t:Int} (h1:d.r ≤ t) (h2:t ≤ d.e):vtx d n t / wd d = n:=by
  unfold vtx
  have hw:wd d ≠ 0:=by unfold wd; omega
  rw [Int.add_comm,Int.add_mul_ediv_right _ _ hw,Int.ediv_eq_zero_of_lt (by omega) (by unfold wd; omega),Int.zero_add]
theorem vtx_mod {d:Dm} {n t:Int} (h1:d.r ≤ t) (h2:t ≤ d.e):vtx d n t % wd d = t - d.r:=by
  unfold vtx
  rw [Int.add_comm,Int.add_mul_emod_self_right,Int.emod_eq_of_lt (by omega) (by unfold wd; omega)]
theorem vtx_inj {d:Dm} {n t m u:Int} (h1:d.r ≤ t) (h2:t ≤ d.e) (h3:d.r ≤ u) (h4:u ≤ d.e) (h:vtx d n t = vtx d m u):n = m ∧ t = u:=by
  have a:=vtx_div (n:=n) h1 h2
  have b:=vtx_mod (n:=n) h1 h2
  rw [h] at a b;rw [vtx_div h3 h4] at a;rw [vtx_mod h3 h4] at b;omega
theorem vtx_next (d:Dm) (n t:Int):vtx d n (t + 1) = vtx d n t + 1:=by unfold vtx; omega
theorem vtx_lt {d:Dm} {n t:Int} {N:Nat} (h1:0 ≤ n) (h2:n < N) (h3:d.r ≤ t) (h4:t ≤ d.e):0 ≤ vtx d n t ∧ vtx d n t < N * wd d:=by
  have hw:0 ≤ wd d:=by unfold wd; omega
  have a:=Int.mul_nonneg h1 hw
  have b:=Int.mul_le_mul_of_nonneg_right (show n + 1 ≤ (N:Int) by omega) hw
  rw [Int.add_mul,Int.one_mul] at b;unfold vtx
  have e:wd d = d.e - d.r + 1:=rfl
  omega
theorem vtx_of {d:Dm} {v:Int} {N:Nat} (hw:0 < wd d) (h1:0 ≤ v) (h2:v < N * wd d):(0 ≤ v / wd d ∧ v / wd d < N) ∧ (d.r ≤ d.r + v % wd d ∧ d.r + v % wd d ≤ d.e) ∧ vtx d (v / wd d) (d.r + v % wd d) = v:=by
  have a:=Int.ediv_nonneg h1 (Int.le_of_lt hw)
  have b:=Int.ediv_lt_of_lt_mul hw h2
  have c:=Int.emod_nonneg v (Int.ne_of_gt hw)
  have e:=Int.emod_lt_of_pos v hw
  have f:=Int.mul_ediv_add_emod v (wd d)
  refine ⟨⟨a,b⟩,⟨by omega,by unfold wd at *; omega⟩,?_⟩
  unfold vtx;rw [Int.mul_comm];omega
structure EA where
  a:Arc
  c:Int
  t:Int
deriving DecidableEq
def waitN (qs:List Int) (hs:List Hd) (d:Dm) (n:Int):List EA:=(rngI d.r d.e).map (fun t=>⟨⟨vtx d n t,vtx d n (t + 1),roomT qs hs d n t⟩,-1,t⟩)
def waitA (qs:List Int) (hs:List Hd) (d:Dm):Nat → List EA
  | 0=>[]
  | n + 1=>waitA qs hs d n ++ waitN qs hs d n
def conE (d:Dm) (c:Ct) (i t:Int):EA:=⟨⟨vtx d c.f t,vtx d c.t (t + 1 + c.g),c.r⟩,i,t⟩
def conN (cs:List Ct) (bs:List Bk) (d:Dm) (i:Nat):List EA:=match cs[i]? with
  | none=>[]
  | some c=>(tickL d.r d.e c.g (freeC cs bs i)).map (conE d c i)
def conA (cs:List Ct) (bs:List Bk) (d:Dm):Nat → List EA
  | 0=>[]
  | i + 1=>conA cs bs d i ++ conN cs bs d i
def arcsE (qs:List Int) (cs:List Ct) (bs:List Bk) (hs:List Hd) (d:Dm):List EA:=waitA qs hs d qs.length ++ conA cs bs d cs.length
def arcsG (qs:List Int) (cs:List Ct) (bs:List Bk) (hs:List Hd) (d:Dm):List Arc:=(arcsE qs cs bs hs d).map (fun x=>x.a)
theorem mem_waitA {qs:List Int} {hs:List Hd} {d:Dm} {x:EA}:∀ {m:Nat},x ∈ waitA qs hs d m ↔ ∃ n:Nat,n < m ∧ ∃ t,d.r ≤ t ∧ t < d.e ∧ x = ⟨⟨vtx d n t,vtx d n (t + 1),roomT qs hs d n t⟩,-1,t⟩
  | 0=>by simp [waitA]
  | m + 1=>by
    unfold waitA;rw [List.mem_append,mem_waitA (m:=m)];unfold waitN;rw [List.mem_map]
    constructor
    · rintro (⟨n,h1,h2⟩ | ⟨t,h1,rfl⟩)
      · exact ⟨n,by omega,h2⟩
      · rw [mem_rngI] at h1
        exact ⟨m,by omega,t,h1.1,h1.2,rfl⟩
    · rintro ⟨n,h1,t,h2,h3,rfl⟩
      by_cases h:n < m
      · exact .inl ⟨n,h,t,h2,h3,rfl⟩
      · obtain rfl:n = m:=by omega
        exact .inr ⟨t,by rw [mem_rngI]; exact ⟨h2,h3⟩,rfl⟩
theorem mem_conA {cs:List Ct} {bs:List Bk} {d:Dm} {x:EA}:∀ {m:Nat},x ∈ conA cs bs d m ↔ ∃ i:Nat,i < m ∧ ∃ c t,cs[i]? = some c ∧ memI (freeC cs bs i) t = true ∧ d.r ≤ t ∧ t + c.g < d.e ∧ x = conE d c i t
  | 0=>by simp [conA]
  | m + 1=>by
    unfold conA;rw [List.mem_append,mem_conA (m:=m)]
    have key:x ∈ conN cs bs d m ↔ ∃ c t,cs[m]? = some c ∧ memI (freeC cs bs m) t = true ∧ d.r ≤ t ∧ t + c.g < d.e ∧ x = conE d c m t:=by
      unfold conN
      cases e:cs[m]? with
      | none=>simp
      | some c =>
        simp only [List.mem_map,mem_tickL,Option.some.injEq]
        constructor
        · rintro ⟨t,⟨h1,h2,h3⟩,rfl⟩
          exact ⟨c,t,rfl,h1,h2,h3,rfl⟩
        · rintro ⟨c',t,rfl,h1,h2,h3,rfl⟩
          exact ⟨t,⟨h1,h2,h3⟩,rfl⟩
    rw [key]
    constructor
    · rintro (⟨i,h1,h2⟩ | h)
      · exact ⟨i,by omega,h2⟩
      · exact ⟨m,by omega,h⟩
    · rintro ⟨i,h1,h2⟩
      by_cases h:i < m
      · exact .inl ⟨i,h,h2⟩
      · obtain rfl:i = m:=by omega
        exact .inr h2
section
variable {qs:List Int} {cs:List Ct} {bs:List Bk} {hs:List Hd} {d:Dm}
theorem VOk.room (h:VOk qs cs bs hs d) (n:Nat) (hn:n < qs.length) (t:Int):0 ≤ roomT qs hs d n t ∧ roomT qs hs d n t ≤ 1099511627776:=by
  refine ⟨room_nonneg h.quo h.hd h.fit d n hn t,?_⟩;unfold roomT
  split
  · omega
  have h1:=stored_bd (n:=(n:Int)) (t:=t) h.hd
  have hx:=List.getElem?_eq_getElem hn
  have hq:=h.quo n _ hx
  rw [Int.toNat_natCast,List.getD_eq_getElem?_getD,hx,Option.getD_some];omega
theorem VOk.free (h:VOk qs cs bs hs d) {i:Nat} {c:Ct} (hc:cs[i]? = some c):NormI (freeC cs bs i) ∧ (∀ z ∈ freeC cs bs i,c.s ≤ z.1 ∧ z.2 ≤ c.e) ∧ ∀ t,memI (freeC cs bs i) t = (decide (c.s ≤ t ∧ t < c.e) && !(bookedB bs i t)):=freeC_ok h.bk hc
inductive ArcIs (qs:List Int) (cs:List Ct) (bs:List Bk) (hs:List Hd) (d:Dm):EA → Prop
  | wait {n:Nat} {t:Int}:n < qs.length → d.r ≤ t → t < d.e → ArcIs qs cs bs hs d ⟨⟨vtx d n t,vtx d n (t + 1),roomT qs hs d n t⟩,-1,t⟩
  | con {i:Nat} {c:Ct} {t:Int}:cs[i]? = some c → d.r ≤ t → c.s ≤ t → t < c.e → t + 1 + c.g ≤ d.e → bookedB bs i t = false → ArcIs qs cs bs hs d (conE d c i t)
theorem VOk.arc (h:VOk qs cs bs hs d) {x:EA}:x ∈ arcsE qs cs bs hs d ↔ ArcIs qs cs bs hs d x:=by
  unfold arcsE;rw [List.mem_append,mem_waitA,mem_conA]
  constructor
  · rintro (⟨n,h1,t,h2,h3,rfl⟩ | ⟨i,h1,c,t,hc,hm,h2,h3,rfl⟩)
    · exact .wait h1 h2 h3
    · rw [(h.free hc).2.2 t,Bool.and_eq_true,decide_eq_true_eq,Bool.not_eq_true'] at hm
      exact .con hc h2 hm.1.1 hm.1.2 (by omega) hm.2
  · rintro (⟨h1,h2,h3⟩ | ⟨hc,h1,h2,h3,h4,h5⟩)
    · exact .inl ⟨_,h1,_,h2,h3,rfl⟩
    · refine .inr ⟨_,(List.getElem?_eq_some_iff.1 hc).1,_,_,hc,?_,h1,by omega,rfl⟩
      rw [(h.free hc).2.2,h5,decide_eq_true ⟨h2,h3⟩]
      rfl
def vsN (qs:List Int) (d:Dm):Int:=qs.length * wd d
theorem VOk.wd (h:VOk qs cs bs hs d):2 ≤ Go.Step.wd d ∧ Go.Step.wd d ≤ 101:=by
  have:=h.dm.2.2.2.2
  unfold Go.Step.wd;omega
theorem VOk.vs (h:VOk qs cs bs hs d):0 ≤ vsN qs d ∧ vsN qs d ≤ 1616:=by
  have h1:=h.wd
  have h2:=h.nq
  unfold vsN
  refine ⟨Int.mul_nonneg (by omega) (by omega),?_⟩
  exact Int.le_trans (Int.mul_le_mul (show ((qs.length:Nat):Int) ≤ 16 by omega) h1.2 (by omega) (by omega)) (by omega)
theorem VOk.ok (h:VOk qs cs bs hs d):∀ a ∈ arcsG qs cs bs hs d,okArc (vsN qs d) a = true:=fun a ha=>by
  obtain ⟨x,hx,rfl⟩:=List.mem_map.1 ha
  have hw:=h.wd
  unfold wd at hw;rw [okArc_iff]
  cases h.arc.1 hx with
  | @wait n t h1 h2 h3 =>
    have a:=vtx_lt (d:=d) (n:=n) (t:=t) (N:=qs.length) (by omega) (by omega) h2 (by omega)
    have b:=vtx_lt (d:=d) (n:=n) (t:=t + 1) (N:=qs.length) (by omega) (by omega) (by omega) (by omega)
    have c:=vtx_next d n t
    have r:=h.room n h1 t
    unfold vsN
    dsimp only
    omega
  | @con i c t hc h1 h2 h3 h4 h5 =>
    have k:=h.ct c (List.mem_of_getElem? hc)
    have a:=vtx_lt (d:=d) (n:=c.f) (t:=t) (N:=qs.length) k.1.1 k.1.2 h1 (by omega)
    have b:=vtx_lt (d:=d) (n:=c.t) (t:=t + 1 + c.g) (N:=qs.length) k.2.1.1 k.2.1.2 (by omega) h4
    have ne:vtx d c.f t ≠ vtx d c.t (t + 1 + c.g):=fun e=>by
      have:=vtx_inj h1 (by omega) (by omega) h4 e
      omega
    unfold vsN conE
    dsimp only
    omega
theorem waitN_len (qs:List Int) (hs:List Hd) (d:Dm) (n:Int):(waitN qs hs d n).length = (d.e - d.r).toNat:=by unfold waitN; rw [List.length_map,rngI_len]
theorem waitA_len (qs:List Int) (hs:List Hd) (d:Dm):∀ m,(waitA qs hs d m).length = m * (d.e - d.r).toNat
  | 0=>by simp [waitA]
  | m + 1=>by unfold waitA; rw [List.length_append,waitA_len qs hs d m,waitN_len,Nat.add_mul,Nat.one_mul]
theorem tickL_all {r e g:Int} {l:List (Int × Int)} (h:NormI l) (hg:0 ≤ g):tickL r e g l = (rngI r e).filter (fun t=>memI l t && decide (t + g < e)):=by
  refine asc_ext (tickL_asc h) ((rngI_asc _ _).filter _) (fun t=>?_)
  rw [mem_tickL,List.mem_filter,mem_rngI,Bool.and_eq_true,decide_eq_true_eq]
  constructor
  · rintro ⟨h1,h2,h3⟩
    exact ⟨by omega,h1,h3⟩
  · rintro ⟨h1,h2,h3⟩
    exact ⟨h2,by omega,h3⟩
theorem VOk.conN_len (h:VOk qs cs bs hs d) (i:Nat):(conN cs bs d i).length ≤ (d.e - d.r).toNat:=by
  unfold conN
  cases e:cs[i]? with
  | none=>simp
  | some c =>
    have k:=h.ct c (List.mem_of_getElem? e)
    simp only [List.length_map]
    rw [tickL_all (h.free e).1 (by omega)]
    exact Nat.le_trans (List.length_filter_le _ _) (by rw [rngI_len]; exact Nat.le_refl _)
theorem VOk.conA_len (h:VOk qs cs bs hs d):∀ m,(conA cs bs d m).length ≤ m * (d.e - d.r).toNat
  | 0=>by simp [conA]
  | m + 1=>by
    have h1:=h.conA_len m
    have h2:=h.conN_len m
    unfold conA;rw [List.length_append,Nat.add_mul,Nat.one_mul];omega
theorem VOk.len (h:VOk qs cs bs hs d):(arcsE qs cs bs hs d).length ≤ 8000:=by
  have h1:=waitA_len qs hs d qs.length
  have h2:=h.conA_len cs.length
  have h3:=h.dm.2.2.2.2
  have h4:(d.e - d.r).toNat ≤ 100:=by omega
  have a:=Nat.mul_le_mul h.nq.2 h4
  have b:=Nat.mul_le_mul h.nc h4
  unfold arcsE;rw [List.length_append];omega
theorem VOk.chk (h:VOk qs cs bs hs d):chk (vsN qs d) (arcsG qs cs bs hs d) = 0:=by
  have h1:=h.vs
  have h2:=h.len
  unfold Go.Flow.chk
  rw [if_neg (by omega),if_neg (by unfold arcsG; rw [List.length_map]; omega),if_pos (List.all_eq_true.2 h.ok)]
theorem VOk.ends (h:VOk qs cs bs hs d):Go.Flow.okEnds (vsN qs d) (vtx d d.s d.r) (vtx d d.d d.e) = true:=by
  have hw:=h.wd
  unfold wd at hw
  obtain ⟨h1,h2,h3,_,h4⟩:=h.dm
  have a:=vtx_lt (d:=d) (n:=d.s) (t:=d.r) (N:=qs.length) h1.1 h1.2 (by omega) (by omega)
  have b:=vtx_lt (d:=d) (n:=d.d) (t:=d.e) (N:=qs.length) h2.1 h2.2 (by omega) (by omega)
  rw [Go.Flow.okEnds_iff];unfold vsN
  refine ⟨a.1,a.2,b.1,b.2,fun e=>?_⟩
  have:=vtx_inj (by omega) (by omega) (by omega) (by omega) e
  omega
/-! sums over lists -/
def lsum {α:Type} (f:α → Int):List α → Int
  | []=>0
  | x :: l=>f x + lsum f l
theorem lsum_append {α:Type} (f:α → Int) (a b:List α):lsum f (a ++ b) = lsum f a + lsum f b:=by
  induction a with
  | nil=>simp [lsum]
  | cons x a ih=>simp only [List.cons_append,lsum,ih]; omega
theorem lsum_map {α β:Type} (f:β → Int) (g:α → β) (l:List α):lsum f (l.map g) = lsum (fun x=>f (g x)) l:=by
  induction l with
  | nil=>rfl
  | cons x l ih=>simp only [List.map_cons,lsum,ih]
theorem lsum_congr {α:Type} {f g:α → Int} {l:List α} (h:∀ x ∈ l,f x = g x):lsum f l = lsum g l:=by
  induction l with
  | nil=>rfl
  | cons x l ih=>simp only [lsum]; rw [h x (by simp),ih (fun y hy=>h y (by simp [hy]))]
theorem lsum_filter {α:Type} (f:α → Int) (p:α → Bool) (l:List α):lsum f (l.filter p) = lsum (fun x=>if p x = true then f x else 0) l:=by
  induction l with
  | nil=>rfl
  | cons x l ih =>
    rw [List.filter_cons]
    by_cases h:p x = true
    · rw [if_pos h]; simp only [lsum,ih,if_pos h]
    · rw [if_neg h]; simp only [lsum,ih,if_neg h]; omega
theorem lsum_range (f:Int → Int) (a:Int):∀ m:Nat,lsum f ((List.range m).map (fun k:Nat=>a + k)) = sumT f a m
  | 0=>rfl
  | m + 1=>by
    rw [List.range_succ,List.map_append,lsum_append,lsum_range f a m]
    simp [lsum,sumT]
theorem lsum_rngI (f:Int → Int) (a b:Int):lsum f (rngI a b) = sumU f a b:=by unfold rngI sumU; exact lsum_range f a _
theorem lsum_zero {α:Type} (l:List α):lsum (fun _:α=>(0:Int)) l = 0:=by
  induction l with
  | nil=>rfl
  | cons x l ih=>simp only [lsum,ih]; omega
theorem lsum_add {α:Type} (f g:α → Int) (l:List α):lsum (fun x=>f x + g x) l = lsum f l + lsum g l:=by
  induction l with
  | nil=>rfl
  | cons x l ih=>simp only [lsum,ih]; omega
theorem capOf_lsum (p:Nat → Bool) (l:List Arc):capOf p l = lsum (fun a=>if p a.f.toNat = true ∧ p a.t.toNat = false then a.c else 0) l:=by
  induction l with
  | nil=>rfl
  | cons a l ih=>simp only [capOf,lsum,ih]
/-! the capacity of a set of nodes at times -/
def waitB (qs:List Int) (hs:List Hd) (d:Dm) (B:Int → Int → Bool) (n t:Int):Int:=if (B n t && !B n (t + 1)) = true then roomT qs hs d n t else 0
def conB (cs:List Ct) (bs:List Bk) (d:Dm) (B:Int → Int → Bool) (i t:Int):Int:=match cs[i.toNat]? with
  | none=>0
  | some x=>if x.s ≤ t ∧ t < x.e ∧ t + 1 + x.g ≤ d.e ∧ bookedB bs i t = false ∧ (B x.f t && !B x.t (t + 1 + x.g)) = true then x.r else 0
def capB (qs:List Int) (cs:List Ct) (bs:List Bk) (hs:List Hd) (d:Dm) (B:Int → Int → Bool):Int:=
  sumT (fun n=>sumU (waitB qs hs d B n) d.r d.e) 0 qs.length + sumT (fun i=>sumU (conB cs bs d B i) d.r d.e) 0 cs.length
theorem lsum_waitA (f:EA → Int) (qs:List Int) (hs:List Hd) (d:Dm):∀ m:Nat,lsum f (waitA qs hs d m) = sumT (fun n=>sumU (fun t=>f ⟨⟨vtx d n t,vtx d n (t + 1),roomT qs hs d n t⟩,-1,t⟩) d.r d.e) 0 m
  | 0=>rfl
  | m + 1=>by
    unfold waitA;rw [lsum_append,lsum_waitA f qs hs d m];unfold waitN;rw [lsum_map,lsum_rngI]
    show _ = sumT _ 0 m + _
    rw [Int.zero_add]
theorem VOk.lsum_conN (h:VOk qs cs bs hs d) (f:EA → Int) (i:Nat) {c:Ct} (hc:cs[i]? = some c):lsum f (conN cs bs d i) = sumU (fun t=>if c.s ≤ t ∧ t < c.e ∧ t + 1 + c.g ≤ d.e ∧ bookedB bs i t = false then f (conE d c i t) else 0) d.r d.e:=by
  have k:=h.ct c (List.mem_of_getElem? hc)
  obtain ⟨n1,_,n3⟩:=h.free hc
  unfold conN;rw [hc];simp only
  rw [lsum_map,tickL_all n1 (by omega),lsum_filter,lsum_rngI]
  congr 1
  funext t
  rw [n3]
  by_cases hb:bookedB bs i t = false
  · by_cases h1:c.s ≤ t ∧ t < c.e ∧ t + 1 + c.g ≤ d.e
    · have hl:(decide (c.s ≤ t ∧ t < c.e) && !bookedB bs (↑i) t && decide (t + c.g < d.e)) = true:=by
        rw [hb,decide_eq_true (show c.s ≤ t ∧ t < c.e by omega),decide_eq_true (show t + c.g < d.e by omega)]
        rfl
      rw [if_pos hl,if_pos ⟨h1.1,h1.2.1,h1.2.2,hb⟩]
    · rw [if_neg (show ¬ (decide (c.s ≤ t ∧ t < c.e) && !bookedB bs (↑i) t && decide (t + c.g < d.e)) = true by
          rw [Bool.and_eq_true,Bool.and_eq_true,decide_eq_true_eq,decide_eq_true_eq]
          omega),if_neg (show ¬ (c.s ≤ t ∧ t < c.e ∧ t + 1 + c.g ≤ d.e ∧ bookedB bs i t = false) from fun h2=>h1 ⟨h2.1,h2.2.1,h2.2.2.1⟩)]
  · rw [if_neg (show ¬ (decide (c.s ≤ t ∧ t < c.e) && !bookedB bs (↑i) t && decide (t + c.g < d.e)) = true by
        rw [Bool.and_eq_true,Bool.and_eq_true,Bool.not_eq_true']
        exact fun h2=>hb h2.1.2),if_neg (show ¬ (c.s ≤ t ∧ t < c.e ∧ t + 1 + c.g ≤ d.e ∧ bookedB bs i t = false) from fun h2=>hb h2.2.2.2)]
theorem capB_eq (h:VOk qs cs bs hs d) (p:Nat → Bool):capOf p (arcsG qs cs bs hs d) = capB qs cs bs hs d (fun n t=>p (vtx d n t).toNat):=by
  have hcond:∀ a b:Bool,(a = true ∧ b = false) ↔ (a && !b) = true:=by decide
  unfold arcsG;rw [capOf_lsum,lsum_map];unfold arcsE;rw [lsum_append,lsum_waitA];unfold capB
  congr 1
  · refine sumT_congr (fun k hk=>?_)
    congr 1
    funext t
    unfold waitB;simp only [hcond]
  · have:∀ m,m ≤ cs.length → lsum (fun x:EA=>if p x.a.f.toNat = true ∧ p x.a.t.toNat = false then x.a.c else 0) (conA cs bs d m) = sumT (fun i=>sumU (conB cs bs d (fun n t=>p (vtx d n t).toNat) i) d.r d.e) 0 m:=by
      intro m
      induction m with
      | zero=>intro _; rfl
      | succ m ih =>
        intro hm
        have hx:=List.getElem?_eq_getElem (show m < cs.length by omega)
        unfold conA
        rw [lsum_append,ih (by omega),h.lsum_conN _ m hx]
        show _ = sumT _ 0 m + _
        congr 1
        rw [Int.zero_add]
        congr 1
        funext t
        unfold conB;rw [Int.toNat_natCast,hx];simp only [conE,hcond]
        by_cases h1:cs[m].s ≤ t ∧ t < cs[m].e ∧ t + 1 + cs[m].g ≤ d.e ∧ bookedB bs m t = false
        · rw [if_pos h1]
          by_cases h2:(p (vtx d cs[m].f t).toNat && !p (vtx d cs[m].t (t + 1 + cs[m].g)).toNat) = true
          · rw [if_pos h2,if_pos ⟨h1.1,h1.2.1,h1.2.2.1,h1.2.2.2,h2⟩]
          · rw [if_neg h2,if_neg (fun h3=>h2 h3.2.2.2.2)]
        · rw [if_neg h1,if_neg (fun h3=>h1 ⟨h3.1,h3.2.1,h3.2.2.1,h3.2.2.2.1⟩)]
    exact this _ (Nat.le_refl _)
end
end Go.Step
