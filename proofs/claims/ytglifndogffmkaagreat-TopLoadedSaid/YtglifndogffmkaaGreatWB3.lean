/- Texts of this proof, one after the other; no conditions. -/
import Derived.Lib.SlicesCompact
import Derived.Sort.OwnSortedInts
import Derived.Sort.EveryDepth
import Derived.Lib.RowBridge
import Derived.Shelf.Slices.In.SortNone
import Derived.Lib.AppendZerosOnto
import Derived.Lib.Overlaps
import Derived.Test.YtglifndogffmkaaGreatWB2
set_option linter.all false
/- Functions put together at their times. No program in sight. No conditions. -/
namespace Go.Step
open Go.Lib
abbrev SA (l:List Int):Prop:=l.Pairwise (· < ·)
theorem SA.unique:∀ {l m:List Int},SA l→SA m→(∀ x,x∈l↔x∈m)→l=m
  | [],[],_,_,_=>rfl
  | [],y::m,_,_,h=>by have:=(h y).2 (by simp); simp at this
  | x::l,[],_,_,h=>by have:=(h x).1 (by simp); simp at this
  | x::l,y::m,h1,h2,h=>by
    have p1:=List.pairwise_cons.1 h1
    have p2:=List.pairwise_cons.1 h2
    have hxy:x=y:=by
      have a:=(h x).1 (by simp)
      have b:=(h y).2 (by simp)
      simp at a b
      rcases a with a|a
      · exact a
      · rcases b with b|b
        · exact b.symm
        · have:=p2.1 x a; have:=p1.1 y b; omega
    subst hxy
    rw [SA.unique p1.2 p2.2 (fun z=>?_)]
    constructor
    · intro hz
      have:=(h z).1 (by simp [hz])
      simp at this
      rcases this with rfl|this
      · have:=p1.1 z hz; omega
      · exact this
    · intro hz
      have:=(h z).2 (by simp [hz])
      simp at this
      rcases this with rfl|this
      · have:=p2.1 z hz; omega
      · exact this
theorem compact_up {d:Array Int} (hs:∀ i j,i≤j→j<d.size→d[i]! ≤ d[j]!):∀ m,m≤d.size→SA (compactUpTo d m)∧(∀ x,x∈compactUpTo d m↔∃ j,j<m∧d[j]! = x)
  | 0,_=>by simp [compactUpTo]
  | m+1,hm=>by
    obtain ⟨h1,h2⟩:=compact_up hs m (by omega)
    rw [compactUpTo_succ]
    by_cases hk:keeps d m=true
    · rw [if_pos hk]
      have hlt:∀ x∈compactUpTo d m,x<d[m]!:=by
        intro x hx
        obtain ⟨j,hj,rfl⟩:=(h2 x).1 hx
        simp only [keeps,decide_eq_true_eq] at hk
        have a:=hs j (m-1) (by omega) (by omega)
        have b:=hs (m-1) m (by omega) (by omega)
        rcases hk with hk|hk
        · omega
        · have:d[m-1]! ≠ d[m]!:=fun e=>hk e.symm
          omega
      refine ⟨List.pairwise_append.2 ⟨h1,by simp,fun x hx y hy=>by simp at hy; subst hy; exact hlt x hx⟩,fun x=>?_⟩
      rw [List.mem_append,h2]
      constructor
      · rintro (⟨j,hj,e⟩|hx)
        · exact ⟨j,by omega,e⟩
        · simp at hx; exact ⟨m,by omega,hx.symm⟩
      · rintro ⟨j,hj,e⟩
        by_cases hjm:j=m
        · subst hjm; right; simp [e]
        · left; exact ⟨j,by omega,e⟩
    · rw [if_neg hk,List.append_nil]
      simp only [keeps,decide_eq_true_eq,not_or] at hk
      refine ⟨h1,fun x=>?_⟩
      rw [h2]
      constructor
      · rintro ⟨j,hj,e⟩; exact ⟨j,by omega,e⟩
      · rintro ⟨j,hj,e⟩
        by_cases hjm:j=m
        · subst hjm
          exact ⟨j-1,by omega,by have:=Classical.not_not.1 hk.2; omega⟩
        · exact ⟨j,by omega,e⟩
theorem compact_sa {l:List Int} (h:l.Pairwise (· ≤ ·)):SA (compact l)∧∀ x,x∈compact l↔x∈l:=by
  have hs:∀ i j,i≤j→j<l.toArray.size→l.toArray[i]! ≤ l.toArray[j]!:=by
    intro i j hij hj
    simp only [List.size_toArray] at hj
    rw [getElem!_pos l.toArray i (by simp; omega),getElem!_pos l.toArray j (by simpa using hj)]
    simp only [List.getElem_toArray]
    rcases Nat.lt_or_ge i j with h1|h1
    · exact List.pairwise_iff_getElem.1 h i j (by omega) hj h1
    · have:i=j:=by omega
      subst this; exact Int.le_refl _
  obtain ⟨h1,h2⟩:=compact_up hs l.length (by simp)
  refine ⟨h1,fun x=>?_⟩
  show x∈compactUpTo l.toArray l.length↔_
  rw [h2,List.mem_iff_getElem]
  constructor
  · rintro ⟨j,hj,e⟩
    refine ⟨j,hj,?_⟩
    rw [getElem!_pos l.toArray j (by simpa using hj)] at e
    simpa using e
  · rintro ⟨j,hj,e⟩
    refine ⟨j,hj,?_⟩
    rw [getElem!_pos l.toArray j (by simpa using hj)]
    simpa using e
def tms (f g:List Lv):List Int:=compact (((f ++ g).map (·.a)).mergeSort fun x y=>decide (x≤y))
theorem tms_sa (f g:List Lv):SA (tms f g)∧∀ x,x∈tms f g↔∃ l∈f ++ g,l.a=x:=by
  have hp:(((f ++ g).map (·.a)).mergeSort fun x y=>decide (x≤y)).Pairwise (· ≤ ·):=by
    have:=List.pairwise_mergeSort (le:=fun x y:Int=>decide (x≤y)) (by intro a b c h1 h2; simp at *; omega) (by intro a b; simp; omega) ((f ++ g).map (·.a))
    exact this.imp (fun h=>by simpa using h)
  obtain ⟨h1,h2⟩:=compact_sa hp
  refine ⟨h1,fun x=>?_⟩
  unfold tms;rw [h2,List.mem_mergeSort,List.mem_map]
def comb (F:Int→Int) (last:Int):List Int→List Lv
  | []=>[]
  | t::ts=>if F t≠last then ⟨t,F t⟩::comb F (F t) ts else comb F (F t) ts
theorem comb_append (F:Int→Int):∀ (ts us:List Int) (last:Int),comb F last (ts ++ us)=comb F last ts ++ comb F (if ts=[] then last else F (ts.getLastD 0)) us
  | [],us,last=>rfl
  | t::ts,us,last=>by
    have ih:=comb_append F ts us (F t)
    have e:(if ts=[] then F t else F (ts.getLastD 0))=F ((t::ts).getLastD 0):=by
      cases ts with
      | nil=>rfl
      | cons u ts=>simp [List.getLastD]
    rw [e] at ih;simp only [List.cons_append,comb]
    rw [ih,if_neg (by simp:¬ (t::ts=[]))]
    split <;> rfl
theorem comb_len (F:Int→Int):∀ (ts:List Int) (last:Int),(comb F last ts).length≤ts.length
  | [],_=>by simp [comb]
  | t::ts,last=>by
    have:=comb_len F ts (F t)
    simp only [comb]
    split <;> simp <;> omega
def okV (v:Int):Prop:=-1125899906842624≤v∧v≤1125899906842624
theorem comb_chk {F:Int→Int}:∀ {ts:List Int} {pa pv:Int},SA ts→(∀ t∈ts,pa<t∧0≤t∧t≤1099511627776∧okV (F t))→chkL pa pv (comb F pv ts)=0
  | [],_,_,_,_=>rfl
  | t::ts,pa,pv,hs,h=>by
    have p:=List.pairwise_cons.1 hs
    have ht:=h t (by simp)
    have hr:∀ q:Int,q≤t→∀ u∈ts,q<u∧0≤u∧u≤1099511627776∧okV (F u):=fun q hq u hu=>by
      have:=p.1 u hu
      have:=h u (by simp [hu])
      exact ⟨by omega,this.2⟩
    simp only [comb];unfold okV at ht
    split
    · rename_i hne
      simp only [chkL]
      rw [if_neg (by unfold badL; dsimp only; omega),if_neg (by omega)]
      exact comb_chk p.2 (hr t (Int.le_refl _))
    · rename_i he
      have he:F t=pv:=Classical.not_not.1 he
      rw [he]
      exact comb_chk p.2 (hr pa (by omega))
def tv (F:Int→Int) (cur:Int):List Int→Int→Int
  | [],_=>cur
  | x::xs,t=>if x≤t then tv F (F x) xs t else cur
theorem comb_gt {F:Int→Int}:∀ {ts:List Int} {last p:Int},(∀ x∈ts,p<x)→∀ l∈comb F last ts,p<l.a
  | [],_,_,_,l,hl=>by simp [comb] at hl
  | t::ts,last,p,h,l,hl=>by
    simp only [comb] at hl
    split at hl
    · simp at hl
      rcases hl with rfl|hl
      · exact h t (by simp)
      · exact comb_gt (fun x hx=>h x (by simp [hx])) l hl
    · exact comb_gt (fun x hx=>h x (by simp [hx])) l hl
theorem vat_comb {F:Int→Int} {t:Int}:∀ {ts:List Int} {cur:Int},SA ts→vat cur (comb F cur ts) t=tv F cur ts t
  | [],_,_=>rfl
  | x::xs,cur,hs=>by
    have p:=List.pairwise_cons.1 hs
    simp only [tv]
    by_cases hx:x≤t
    · rw [if_pos hx]
      simp only [comb]
      split
      · simp only [vat]; rw [if_pos hx]; exact vat_comb p.2
      · rename_i he
        have he:F x=cur:=Classical.not_not.1 he
        rw [← he]; exact vat_comb p.2
    · rw [if_neg hx]
      refine vat_late _ _ _ (fun l hl=>?_)
      have hm:l∈comb F cur (x::xs):=List.mem_of_mem_head? (by simpa using hl)
      have:=comb_gt (p:=x-1) (fun y hy=>by
        simp at hy
        rcases hy with rfl|hy
        · omega
        · have:=p.1 y hy; omega) l hm
      omega
theorem tv_eq {F:Int→Int}:∀ {ts:List Int} {p t:Int},SA ts→(∀ x∈ts,p<x)→p≤t→(∀ a b:Int,p≤a→a≤b→(∀ y∈ts,¬ (a<y∧y≤b))→F b=F a)→tv F (F p) ts t=F t
  | [],p,t,_,_,ht,H=>(H p t (Int.le_refl _) ht (by simp)).symm
  | x::xs,p,t,hs,hp,ht,H=>by
    have q:=List.pairwise_cons.1 hs
    have hpx:=hp x (by simp)
    simp only [tv]
    by_cases hx:x≤t
    · rw [if_pos hx]
      refine tv_eq q.2 q.1 hx (fun a b h1 h2 h3=>H a b (by omega) h2 (fun y hy=>?_))
      simp at hy
      rcases hy with rfl|hy
      · omega
      · exact h3 y hy
    · rw [if_neg hx]
      refine (H p t (Int.le_refl _) ht (fun y hy=>?_)).symm
      simp at hy
      rcases hy with rfl|hy
      · omega
      · have:=q.1 y hy; omega
theorem vat_same:∀ {f:List Lv} {p cur a b:Int},AscT p f→a≤b→(∀ l∈f,¬ (a<l.a∧l.a≤b))→vat cur f b=vat cur f a
  | [],_,_,_,_,_,_,_=>rfl
  | l::f,p,cur,a,b,h,hab,hn=>by
    simp only [vat]
    have hl:=hn l (by simp)
    by_cases h1:l.a≤a
    · rw [if_pos h1,if_pos (by omega)]
      exact vat_same h.2.2 hab (fun m hm=>hn m (by simp [hm]))
    · rw [if_neg h1,if_neg (by omega)]
theorem val_earlyT {f:List Lv} {p x:Int} (h:AscT p f) (hx:x≤p):val f x=0:=vat_late f 0 x (fun l hl=>by
  have:=(h.gt l (List.mem_of_mem_head? (by simpa using hl))).1
  omega)
theorem comb_val {f g:List Lv} (hf:AscT (-1) f) (hg:AscT (-1) g) {op:Int→Int→Int} (h0:op 0 0=0) {t:Int} (ht:-1≤t):val (comb (fun t=>op (val f t) (val g t)) 0 (tms f g)) t=op (val f t) (val g t):=by
  obtain ⟨h1,h2⟩:=tms_sa f g
  have e0:op (val f (-1)) (val g (-1))=0:=by rw [val_earlyT hf (Int.le_refl _),val_earlyT hg (Int.le_refl _),h0]
  have hp:∀ x∈tms f g,-1<x:=fun x hx=>by
    obtain ⟨l,hl,rfl⟩:=(h2 x).1 hx
    rcases List.mem_append.1 hl with hl|hl
    · exact (hf.gt l hl).1
    · exact (hg.gt l hl).1
  show vat 0 _ t=_
  rw [vat_comb h1]
  have:=tv_eq (F:=fun t=>op (val f t) (val g t)) (p:=-1) (t:=t) h1 hp ht (fun a b ha hab hn=>by
    have e1:val f b=val f a:=vat_same hf hab (fun l hl hx=>hn l.a ((h2 l.a).2 ⟨l,by simp [hl],rfl⟩) hx)
    have e2:val g b=val g a:=vat_same hg hab (fun l hl hx=>hn l.a ((h2 l.a).2 ⟨l,by simp [hl],rfl⟩) hx)
    simp only [e1,e2])
  simp only [e0] at this;exact this
theorem tms_rng {f g:List Lv} (hf:AscT (-1) f) (hg:AscT (-1) g):∀ x∈tms f g,0≤x∧x≤1099511627776:=fun x hx=>by
  obtain ⟨l,hl,rfl⟩:=((tms_sa f g).2 x).1 hx
  rcases List.mem_append.1 hl with hl|hl
  · have:=hf.gt l hl; omega
  · have:=hg.gt l hl; omega
theorem chkL_unique:∀ {f g:List Lv} {pa pv:Int},chkL pa pv f=0→chkL pa pv g=0→(∀ t:Int,pa<t→t≤1099511627776→vat pv f t=vat pv g t)→f=g
  | [],[],_,_,_,_,_=>rfl
  | [],m::g,pa,pv,_,h2,H=>by
    exfalso
    have hA:=chkL_asc _ _ _ h2
    have:=H m.a hA.1 hA.2.1
    simp only [vat] at this
    rw [if_pos (Int.le_refl _),vat_late g m.v m.a (fun l hl=>(hA.2.2.2.gt l (List.mem_of_mem_head? (by simpa using hl))).1)] at this
    simp only [chkL] at h2
    split at h2
    · simp at h2
    · rw [if_pos (.inr this.symm)] at h2; simp at h2
  | l::f,[],pa,pv,h1,_,H=>by
    exfalso
    have hA:=chkL_asc _ _ _ h1
    have:=H l.a hA.1 hA.2.1
    simp only [vat] at this
    rw [if_pos (Int.le_refl _),vat_late f l.v l.a (fun m hm=>(hA.2.2.2.gt m (List.mem_of_mem_head? (by simpa using hm))).1)] at this
    simp only [chkL] at h1
    split at h1
    · simp at h1
    · rw [if_pos (.inr this)] at h1; simp at h1
  | l::f,m::g,pa,pv,h1,h2,H=>by
    have hA:=chkL_asc _ _ _ h1
    have hB:=chkL_asc _ _ _ h2
    have e1:=H l.a hA.1 hA.2.1
    have e2:=H m.a hB.1 hB.2.1
    have q1:vat l.v f l.a=l.v:=vat_late f l.v l.a (fun x hx=>(hA.2.2.2.gt x (List.mem_of_mem_head? (by simpa using hx))).1)
    have q2:vat m.v g m.a=m.v:=vat_late g m.v m.a (fun x hx=>(hB.2.2.2.gt x (List.mem_of_mem_head? (by simpa using hx))).1)
    simp only [vat] at e1 e2;rw [if_pos (Int.le_refl _),q1] at e1;rw [if_pos (Int.le_refl (m.a)),q2] at e2;simp only [chkL] at h1 h2
    split at h1
    · simp at h1
    · split at h1
      · simp at h1
      · rename_i hl
        split at h2
        · simp at h2
        · split at h2
          · simp at h2
          · rename_i hm
            have ha:l.a=m.a:=by
              rcases Int.lt_trichotomy l.a m.a with h|h|h
              · rw [if_neg (by omega)] at e1
                exact absurd e1 (by omega)
              · exact h
              · rw [if_neg (by omega)] at e2
                exact absurd e2.symm (by omega)
            rw [if_pos (by omega),ha,q2] at e1
            obtain ⟨la,lv⟩:=l
            obtain ⟨ma,mv⟩:=m
            simp only at ha e1;subst ha e1
            congr 1
            refine chkL_unique h1 h2 (fun t ht htm=>?_)
            have:=H t (by have:=hA.1; simp only at this ht; omega) htm
            simp only [vat] at this
            rw [if_pos (by simp only at ht; omega),if_pos (by simp only at ht; omega)] at this
            exact this
def CombP (F:Int→Int) (ts:List Int) (out:List Lv) (e:Int):Prop:=
  ((∃ t∈ts,¬ okV (F t))∧out=[]∧e=5)∨((∀ t∈ts,okV (F t))∧1000<(comb F 0 ts).length∧out=[]∧e=4)∨((∀ t∈ts,okV (F t))∧(comb F 0 ts).length≤1000∧out=comb F 0 ts∧e=0)
theorem CombP.unique {F:Int→Int} {ts:List Int} {o o':List Lv} {e e':Int} (h:CombP F ts o e) (h':CombP F ts o' e'):o=o'∧e=e':=by
  rcases h with ⟨⟨t,ht,a⟩,b,c⟩|⟨a,b,c,d⟩|⟨a,b,c,d⟩ <;> rcases h' with ⟨⟨t',ht',a'⟩,b',c'⟩|⟨a',b',c',d'⟩|⟨a',b',c',d'⟩
  · exact ⟨by rw [b,b'],by rw [c,c']⟩
  · exact absurd (a' t ht) a
  · exact absurd (a' t ht) a
  · exact absurd (a t' ht') a'
  · exact ⟨by rw [c,c'],by rw [d,d']⟩
  · omega
  · exact absurd (a t' ht') a'
  · omega
  · exact ⟨by rw [c,c'],by rw [d,d']⟩
theorem CombP.ok {f g:List Lv} (hf:AscT (-1) f) (hg:AscT (-1) g) {op:Int→Int→Int} (h0:op 0 0=0) {out:List Lv} (h:CombP (fun t=>op (val f t) (val g t)) (tms f g) out 0):chkS out=0∧∀ t:Int,-1≤t→val out t=op (val f t) (val g t):=by
  rcases h with ⟨_,_,h⟩|⟨_,_,_,h⟩|⟨h1,h2,rfl,_⟩
  · simp at h
  · simp at h
  · refine ⟨?_,fun t ht=>comb_val hf hg h0 ht⟩
    unfold chkS
    rw [if_neg (by omega)]
    exact comb_chk (tms_sa f g).1 (fun t ht=>by
      have:=tms_rng hf hg t ht
      exact ⟨by omega,this.1,this.2,h1 t ht⟩)
def SumR (f g out:List Lv) (e:Int):Prop:=
  ((chkS f≠0∨chkS g≠0)∧out=[]∧e=1)∨(chkS f=0∧chkS g=0∧CombP (fun t=>val f t+val g t) (tms f g) out e)
theorem SumR.unique {f g o o':List Lv} {e e':Int} (h:SumR f g o e) (h':SumR f g o' e'):o=o'∧e=e':=by
  rcases h with ⟨a,b,c⟩|⟨a,b,c⟩ <;> rcases h' with ⟨a',b',c'⟩|⟨a',b',c'⟩
  · exact ⟨by rw [b,b'],by rw [c,c']⟩
  · rcases a with a|a
    · exact absurd a' a
    · exact absurd b' a
  · rcases a' with a'|a'
    · exact absurd a a'
    · exact absurd b a'
  · exact c.unique c'
def bump (fr to d:Int):List Lv:=[⟨fr,d⟩,⟨to,0⟩]
theorem bump_asc {fr to d:Int} (h:0≤fr∧fr<to∧to≤1099511627776):AscT (-1) (bump fr to d):=⟨by dsimp only; omega,by dsimp only; omega,by dsimp only; omega,by dsimp only; omega,trivial⟩
theorem bump_val (fr to d t:Int) (h:fr<to):val (bump fr to d) t=if fr≤t∧t<to then d else 0:=by
  simp only [val,bump,vat]
  by_cases h1:fr≤t
  · rw [if_pos h1]
    by_cases h2:to≤t
    · rw [if_pos h2,if_neg (by omega)]
    · rw [if_neg h2,if_pos (by omega)]
  · rw [if_neg h1,if_neg (by omega)]
def AddR (f:List Lv) (fr to d:Int) (out:List Lv) (e:Int):Prop:=
  (chkS f≠0∧out=[]∧e=1)∨(chkS f=0∧(¬ (0≤fr∧fr≤to∧to≤1099511627776)∨d < -2251799813685248∨2251799813685248<d)∧out=[]∧e=2) ∨
  (chkS f=0∧(0≤fr∧fr≤to∧to≤1099511627776)∧(-2251799813685248≤d∧d≤2251799813685248)∧fr=to∧out=f∧e=0) ∨
  (chkS f=0∧(0≤fr∧fr<to∧to≤1099511627776)∧(-2251799813685248≤d∧d≤2251799813685248)∧CombP (fun t=>val f t+val (bump fr to d) t) (tms f (bump fr to d)) out e)
theorem AddR.unique {f o o':List Lv} {fr to d e e':Int} (h:AddR f fr to d o e) (h':AddR f fr to d o' e'):o=o'∧e=e':=by
  rcases h with ⟨a,b,c⟩|⟨a,b,c,x⟩|⟨a,b,c,x,y,z⟩|⟨a,b,c,x⟩ <;> rcases h' with ⟨a',b',c'⟩|⟨a',b',c',x'⟩|⟨a',b',c',x',y',z'⟩|⟨a',b',c',x'⟩
  all_goals first
    | exact absurd a' a
    | exact absurd a a'
    | exact ⟨by rw [b,b'],by rw [c,c']⟩
    | exact ⟨by rw [c,c'],by rw [x,x']⟩
    | exact ⟨by rw [y,y'],by rw [z,z']⟩
    | exact x.unique x'
    | omega
    | (clear x'; omega)
    | (clear x; omega)
theorem AddR.ok {f out:List Lv} {fr to d:Int} (h:AddR f fr to d out 0):chkS f=0∧chkS out=0∧∀ t:Int,-1≤t→val out t=val f t+if fr≤t∧t<to then d else 0:=by
  rcases h with ⟨_,_,h⟩|⟨_,_,_,h⟩|⟨a,b,c,x,rfl,_⟩|⟨a,b,c,x⟩
  · simp at h
  · simp at h
  · exact ⟨a,a,fun t ht=>by rw [if_neg (by omega)]; omega⟩
  · obtain ⟨h1,h2⟩:=CombP.ok (op:=(· + ·)) (chkS_ok a).2.t (bump_asc b) rfl x
    refine ⟨a,h1,fun t ht=>?_⟩
    rw [h2 t ht,bump_val fr to d t b.2.1]
theorem chkS_unique {f g:List Lv} (hf:chkS f=0) (hg:chkS g=0) (h:∀ t:Int,-1≤t→val f t=val g t):f=g:=by
  have hf1:=(chkS_ok hf).1
  have hg1:=(chkS_ok hg).1
  unfold chkS at hf hg
  rw [if_neg (by omega)] at hf hg
  exact chkL_unique hf hg (fun t ht _=>h t (by omega))
end Go.Step
namespace Go.Step
structure Hd where
  n:Int
  a:Int
  b:Int
  s:Int
  k:Int
deriving DecidableEq
def okHd (nq:Nat) (h:Hd):Prop:=(0≤h.n∧h.n<nq)∧(0≤h.a∧h.a<h.b∧h.b≤1099511627776)∧(1≤h.s∧h.s≤65536)∧(0≤h.k∧h.k≤1152921504606846976)
instance (nq:Nat) (h:Hd):Decidable (okHd nq h):=inferInstanceAs (Decidable (_∧_))
def cmpI (a b:Int):Int:=if a<b then -1 else if b<a then 1 else 0
def orI:List Int→Int
  | []=>0
  | x::l=>if x≠0 then x else orI l
def cmpHd (x y:Hd):Int:=orI [cmpI x.n y.n,cmpI x.a y.a,cmpI x.b y.b,cmpI x.k y.k,cmpI x.s y.s]
def stored (l:List Hd) (n t:Int):Int:=match l with
  | []=>0
  | h::l=>(if h.n=n∧h.a≤t∧t<h.b then h.s else 0)+stored l n t
def delta (l:List Hd) (n t:Int):Int:=match l with
  | []=>0
  | h::l=>(if h.n=n then (if h.a=t then h.s else 0)-(if h.b=t then h.s else 0) else 0)+delta l n t
theorem stored_step {n p t:Int} (hpt:p<t):∀ {l:List Hd},(∀ h∈l,h.n=n→(h.a≤p∨t≤h.a)∧(h.b≤p∨t≤h.b)∧h.a<h.b)→stored l n t=stored l n p+delta l n t
  | [],_=>rfl
  | h::l,H=>by
    have ih:=stored_step hpt (l:=l) (fun x hx=>H x (by simp [hx]))
    have h0:=H h (by simp)
    simp only [stored,delta,ih]
    by_cases hn:h.n=n
    · have:=h0 hn
      simp only [hn,true_and,if_true]
      split <;> split <;> split <;> split <;> omega
    · simp only [hn,false_and,if_false]
      omega
theorem stored_early {n t:Int}:∀ {l:List Hd},(∀ h∈l,h.n=n→t<h.a)→stored l n t=0
  | [],_=>rfl
  | h::l,H=>by
    have ih:=stored_early (l:=l) (fun x hx=>H x (by simp [hx]))
    have h0:=H h (by simp)
    simp only [stored,ih]
    by_cases hn:h.n=n
    · have:=h0 hn
      rw [if_neg (by omega)]; rfl
    · rw [if_neg (by omega)]; rfl
theorem stored_bd {n t:Int} {nq:Nat}:∀ {l:List Hd},(∀ h∈l,okHd nq h)→0≤stored l n t∧stored l n t≤65536*l.length
  | [],_=>by simp [stored]
  | h::l,H=>by
    have ih:=stored_bd (n:=n) (t:=t) (l:=l) (fun x hx=>H x (by simp [hx]))
    have h0:=(H h (by simp)).2.2.1
    simp only [stored,List.length_cons,Int.natCast_add,Int.mul_add]
    split <;> omega
theorem delta_bd {n t:Int} {nq:Nat}:∀ {l:List Hd},(∀ h∈l,okHd nq h) → -(65536*(l.length:Int))≤delta l n t∧delta l n t≤65536*l.length
  | [],_=>by simp [delta]
  | h::l,H=>by
    have ih:=delta_bd (n:=n) (t:=t) (l:=l) (fun x hx=>H x (by simp [hx]))
    have h0:=(H h (by simp)).2.2.1
    have h1:=(H h (by simp)).2.1
    simp only [delta,List.length_cons,Int.natCast_add,Int.mul_add]
    split
    · split <;> split <;> omega
    · omega
def tmH (l:List Hd) (n:Int):List Int:=l.flatMap (fun h=>if h.n=n then [h.a,h.b] else [])
theorem mem_tmH {l:List Hd} {n x:Int}:x∈tmH l n↔∃ h∈l,h.n=n∧(x=h.a∨x=h.b):=by
  unfold tmH;rw [List.mem_flatMap]
  constructor
  · rintro ⟨h,hm,hx⟩
    by_cases hn:h.n=n
    · rw [if_pos hn] at hx
      exact ⟨h,hm,hn,by simpa using hx⟩
    · rw [if_neg hn] at hx; simp at hx
  · rintro ⟨h,hm,hn,hx⟩
    exact ⟨h,hm,by rw [if_pos hn]; simpa using hx⟩
def hts (l:List Hd) (n:Int):List Int:=Lib.compact ((tmH l n).mergeSort fun x y=>decide (x≤y))
theorem hts_sa (l:List Hd) (n:Int):SA (hts l n)∧∀ x,x∈hts l n↔x∈tmH l n:=by
  have hp:((tmH l n).mergeSort fun x y=>decide (x≤y)).Pairwise (· ≤ ·):=by
    have:=List.pairwise_mergeSort (le:=fun x y:Int=>decide (x≤y)) (by intro a b c h1 h2; simp at *; omega) (by intro a b; simp; omega) (tmH l n)
    exact this.imp (fun h=>by simpa using h)
  obtain ⟨h1,h2⟩:=compact_sa hp
  exact ⟨h1,fun x=>by unfold hts; rw [h2 x,List.mem_mergeSort]⟩
def lvH (l:List Hd) (n:Int):List Lv:=comb (stored l n) 0 (hts l n)
def prevF (F:Int→Int) (ts:List Int) (k:Nat):Int:=if k=0 then 0 else F (ts.getD (k-1) 0)
theorem comb_snoc (F:Int→Int) {ts:List Int} {k:Nat} {t:Int} (h:ts[k]?=some t):comb F 0 (ts.take (k+1))=comb F 0 (ts.take k) ++ (if F t=prevF F ts k then [] else [⟨t,F t⟩]):=by
  obtain ⟨hk,rfl⟩:=List.getElem?_eq_some_iff.1 h
  rw [List.take_succ_eq_append_getElem hk,comb_append]
  congr 1
  have e:(if ts.take k=[] then (0:Int) else F ((ts.take k).getLastD 0))=prevF F ts k:=by
    unfold prevF
    by_cases h0:k=0
    · subst h0; simp
    · have hne:ts.take k≠[]:=by
        intro hh
        have:=congrArg List.length hh
        rw [List.length_take,List.length_nil] at this;omega
      rw [if_neg hne,if_neg h0]
      congr 1
      rw [List.getLastD_eq_getLast?,List.getLast?_eq_getElem?,List.length_take,Nat.min_eq_left (by omega),List.getElem?_take_of_lt (by omega)]
      rw [List.getD_eq_getElem?_getD]
  rw [e]
  by_cases hc:F ts[k]=prevF F ts k
  · rw [if_pos hc]; simp only [comb]; rw [if_neg (fun h=>h hc)]
  · rw [if_neg hc]; simp only [comb]; rw [if_pos hc]
end Go.Step
namespace Go.Proofs.YtglifndogffmkaaGreat
open Go.Eng Go.Step
set_option maxRecDepth 100000
set_option maxHeartbeats 64000000
theorem isNaN_spec (a:Int):Ans Tryz.prog (fv 107) [int a] [] (fun r=>r=.bool false):=by
 refine spec_in (cap:=[]) Tryz.func107 rfl rfl Tryz.ntmps107 rfl envZ (fun N β=>?_)
 refine Aaq ?_;refine Aag ?_;refine BO ?_;refine Aaa ?_;exact A3 ⟨rfl,rfl⟩
theorem cmpI_spec (a b:Int):Ans Tryz.prog (fv 45) [int a,int b] [] (fun r=>r=int (cmpI a b)):=by
 refine spec_in (cap:=[]) Tryz.func45 rfl rfl Tryz.ntmps45 rfl envZ (fun N β=>?_)
 repeat' (first
  | (refine AB ?_)
  | (refine AD ?_)
  | (refine AC ?_)
  | (refine AA ?_)
  | (refine AE ?_)
  | (refine AJ ?_)
  | (refine AN rfl ?_)
  | (refine AI rfl ?_)
  | (focus ((refine AZ (isNaN_spec _) rfl rfl rdZ rfl rfl ?_; rintro _ rfl)))
  | (focus ((refine C4 rfl rfl (cmp_lt _ _) rfl rfl (fun h=>?_) (fun h=>?_))))
  | fail)
 all_goals (refine AT (res1 rfl rfl) rsubZ selZ ⟨rfl,?_⟩; unfold cmpI; (repeat' split) <;> first|rfl|(exfalso; omega))
theorem orI_cons (x:Int) (l:List Int):orI (x::l)=if x≠0 then x else orI l:=rfl
theorem or_spec (ρ:PH) (v:Value) (l:List Int) (hv:IntsAt ρ v l) (hl:l.length≤1000):Ans Tryz.prog (fv 44) [v] [ρ] (fun r=>r=int (orI l)):=by
 obtain ⟨q,c,rfl,hr⟩:=hv.val Eng.encI_len
 refine spec_in (cap:=[]) Tryz.func44 rfl rfl Tryz.ntmps44 rfl envZ (fun N β=>?_)
 refine Aaq ?_;refine Adf ?_
 refine BF [3,6,7] (0:Nat) (fun k=>k≤l.length∧orI l=orI (l.drop k)) (fun k=>[(8,int k)]) (fun _=>[]) (fun k=>l.length-k) pickZ ⟨by omega,rfl⟩ covZ selZ ?_
 rintro k ⟨hk,hI⟩
 by_cases hlt:k<l.length
 ·have hx:=List.getElem?_eq_getElem hlt
  obtain ⟨b1,o1,rfl,g1⟩:=hr.int hx
  rw [List.drop_eq_getElem_cons hlt] at hI
  generalize l[k]=x at g1 hI
  rw [orI_cons] at hI
  by_cases h0:x=0
  ·rw [if_neg (by omega)] at hI
   refine Abq ?_;refine Ac7 ?_;refine Acu ?_;refine BO ?_;refine Acg ?_
   exact AY (k+1) ⟨by omega,hI⟩ (by omega) covZ selZ
  ·rw [if_pos h0] at hI
   rw [hI];refine Abq ?_;refine Ac7 ?_;refine Acu ?_;refine C3 ?_;refine Acv ?_;exact A3 ⟨rfl,rfl⟩
 ·rw [hI,List.drop_of_length_le (by omega)]
  refine Abl ?_;refine Aa9 ?_;exact A3 ⟨rfl,rfl⟩
def encH (h:Hd):List Value:=[int h.n,int h.a,int h.b,int h.s,int h.k]
theorem encH_len (h:Hd):(encH h).length=5:=rfl
abbrev HdAt (ρ:PH) (v:Value) (l:List Hd):Prop:=SlE encH 5 ρ v l
theorem hdRow {ρ:PH} {p:Option Addr} {l:List Hd} (h:RowsE encH 5 ρ p l) {i:Nat} {x:Hd} (hx:l[i]?=some x) :
  ∃ b o,p=some ⟨b,o,none⟩∧RdN ρ b (o+i*5) [int x.n,int x.a,int x.b,int x.s,int x.k]:=h i x hx
theorem compare_spec (x y:Hd):Ans Tryz.prog (fv 175) [.agg #[int x.n,int x.a,int x.b,int x.s,int x.k],.agg #[int y.n,int y.a,int y.b,int y.s,int y.k]] [] (fun r=>r=int (cmpHd x y)):=by
 refine spec_in (cap:=[]) Tryz.func175 rfl rfl Tryz.ntmps175 rfl envZ (fun N β=>?_)
 refine Aa ?_;refine BU ?_; rintro _ _ ⟨b,rfl,rfl⟩;refine BU ?_; rintro _ _ ⟨b,rfl,rfl⟩;refine Aaj ?_
 refine BD (.q 0 (.q 1 (.q 2 (.q 3 (.q 5 (.q 6 (.q 7 (.q 8 (.q 10 (.q 11 (.q 12 (.q 13 (.q 15 (.q 16 (.q 17 (.q 18 (.q 20 (.q 21 (.q 22 (.q 23 (.l 4 .e (.l 9 .e (.l 14 .e (.l 19 .e (.l 24 .e (.l 25 .e (.l 26 .e (.q 27 .nil)))))))))))))))))))))))))))) [] rfl (by kernel_rfl) selZ ?_
 refine Adp ?_;refine Adp ?_;refine Abf ?_
 focus ((refine B4 (BP rfl (cmpI_spec _ _) rfl rfl rdZ rfl rfl ?_); rintro _ rfl))
 focus ((refine B4 (BP rfl (cmpI_spec _ _) rfl rfl rdZ rfl rfl ?_); rintro _ rfl))
 focus ((refine B4 (BP rfl (cmpI_spec _ _) rfl rfl rdZ rfl rfl ?_); rintro _ rfl))
 focus ((refine B4 (BP rfl (cmpI_spec _ _) rfl rfl rdZ rfl rfl ?_); rintro _ rfl))
 focus ((refine B4 (BP rfl (cmpI_spec _ _) rfl rfl rdZ rfl rfl ?_); rintro _ rfl))
 refine B5 ?_; rintro _ _ ⟨b,rfl,rfl⟩
 revert b; intro bo
 refine B4 (BP rfl (or_spec (sng bo _) _ [cmpI x.n y.n,cmpI x.a y.a,cmpI x.b y.b,cmpI x.k y.k,cmpI x.s y.s] (slE_sng Eng.encI_len) (by simp)) rfl rfl rdZ rfl rfl ?_)
 rintro _ rfl;refine Acr ?_
 skip
 exact A3 ⟨rfl,rfl⟩
theorem valid28_spec (v w:Value) (ρ:PH) (qs:List Int) (kq:Nat) (pq:Option Addr) (h:Hd) (hv:v=.slice pq qs.length kq) (h1:w.oneCell'=true):Ans Tryz.prog (fv 174) [.agg #[v,w],.agg #[int h.n,int h.a,int h.b,int h.s,int h.k]] [] (fun r=>r=.bool (decide (okHd qs.length h))):=by
 subst hv
 refine spec_in (cap:=[]) Tryz.func174 rfl rfl Tryz.ntmps174 rfl envZ (fun N β=>?_)
 repeat' (first
  | (refine AB ?_)
  | (refine AD ?_)
  | (refine AF ?_)
  | (refine AG ?_)
  | (refine A2 ?_)
  | (refine AV ?_)
  | (refine BC ?_)
  | (refine AC ?_)
  | (refine AA ?_)
  | (refine AE ?_)
  | (refine AR rfl rfl rfl ?_)
  | (refine BU ?_; rintro _ _ ⟨b,rfl,rfl⟩)
  | (focus ((refine C4 rfl rfl (cmp_lt _ _) rfl rfl (fun h=>?_) (fun h=>?_))))
  | (focus ((refine C4 rfl rfl (cmp_le _ _) rfl rfl (fun h=>?_) (fun h=>?_))))
  | fail)
 all_goals (refine AT (res1 rfl rfl) rsubZ selZ ⟨rfl,?_⟩; congr 1; unfold okHd; first|exact (decide_eq_false (by omega)).symm|exact (decide_eq_true (by omega)).symm|(apply decide_eq_decide.2; omega))
end Go.Proofs.YtglifndogffmkaaGreat
namespace Go.Step
open Go.Eng
theorem mget_mset (k v x:Int):∀ m:List (Int × Int),mget x (mset k v m)=if x=k then some v else mget x m
  | []=>by
    unfold mget mset midx
    by_cases h:x=k
    · simp [h]
    · simp [h,midx]
  | (a,w)::m=>by
    have ih:=mget_mset k v x m
    unfold mget at ih ⊢
    by_cases hk:k=a
    · subst hk
      simp only [mset,if_true,midx]
      by_cases h:x=k <;> simp [h]
    · simp only [mset,if_neg hk,midx]
      by_cases h:x=a
      · subst h
        simp [Ne.symm hk]
      · simp only [if_neg h,Option.map_map]
        have e:((fun p:Nat × Int=>p.2) ∘ fun p:Nat × Int=>(p.1+1,p.2))=fun p=>p.2:=rfl
        rw [e];exact ih
def noteT (m:List (Int × Int)) (T:List Int) (t:Int):List Int:=if mget t m=none then T ++ [t] else T
structure InvD (D:Int→Int) (T:List Int) (m:List (Int × Int)):Prop where
  get:∀ t,mget t m=if t∈T then some (D t) else none
  out:∀ t,t∉T→D t=0
  nd:T.Pairwise (· ≠ ·)
theorem InvD.zero:InvD (fun _=>0) [] []:=⟨fun t=>rfl,fun _ _=>rfl,List.Pairwise.nil⟩
theorem InvD.val {D:Int→Int} {T:List Int} {m:List (Int × Int)} (h:InvD D T m) (t:Int):(mget t m).getD 0=D t:=by
  rw [h.get t]
  split
  · rfl
  · rename_i hn; rw [h.out t hn]; rfl
theorem InvD.step {D:Int→Int} {T:List Int} {m:List (Int × Int)} (h:InvD D T m) (t d:Int):InvD (fun x=>D x+if x=t then d else 0) (noteT m T t) (mset t ((mget t m).getD 0+d) m)∧(∀ x,x∈noteT m T t↔x∈T∨x=t)∧(noteT m T t).length≤T.length+1:=by
  have hm:∀ x,x∈noteT m T t↔x∈T∨x=t:=fun x=>by
    unfold noteT;rw [h.get t]
    by_cases ht:t∈T
    · rw [if_pos ht,if_neg (by simp)]
      constructor
      · exact .inl
      · rintro (h|rfl) <;> assumption
    · rw [if_neg ht,if_pos rfl]; simp
  refine ⟨⟨fun x=>?_,fun x hx=>?_,?_⟩,hm,?_⟩
  · rw [mget_mset,h.val,h.get x]
    by_cases hx:x=t
    · subst hx
      rw [if_pos rfl,if_pos ((hm x).2 (.inr rfl))]; simp
    · rw [if_neg hx]
      by_cases hT:x∈T
      · rw [if_pos hT,if_pos ((hm x).2 (.inl hT))]; simp [hx]
      · rw [if_neg hT,if_neg (fun hh=>by rcases (hm x).1 hh with h|h <;> contradiction)]
  · have hx1:x∉T:=fun hh=>hx ((hm x).2 (.inl hh))
    have hx2:x≠t:=fun hh=>hx ((hm x).2 (.inr hh))
    rw [h.out x hx1,if_neg hx2]; rfl
  · unfold noteT
    rw [h.get t]
    by_cases ht:t∈T
    · rw [if_pos ht,if_neg (by simp)]; exact h.nd
    · rw [if_neg ht,if_pos rfl]
      refine List.pairwise_append.2 ⟨h.nd,by simp,fun a ha b hb=>?_⟩
      simp at hb; subst hb
      intro e; subst e; exact ht ha
  · unfold noteT
    split <;> simp
theorem delta_snoc (n x:Int) (h:Hd):∀ l:List Hd,delta (l ++ [h]) n x=delta l n x+if h.n=n then (if h.a=x then h.s else 0)-(if h.b=x then h.s else 0) else 0
  | []=>by simp [delta]
  | g::l=>by
    have ih:=delta_snoc n x h l
    simp only [List.cons_append,delta,ih];omega
theorem tmH_snoc (n x:Int) (h:Hd) (l:List Hd):x∈tmH (l ++ [h]) n↔x∈tmH l n∨(h.n=n∧(x=h.a∨x=h.b)):=by
  rw [mem_tmH,mem_tmH]
  constructor
  · rintro ⟨g,hg,k⟩
    rcases List.mem_append.1 hg with hg|hg
    · exact .inl ⟨g,hg,k⟩
    · simp at hg; subst hg; exact .inr k
  · rintro (⟨g,hg,k⟩|k)
    · exact ⟨g,by simp [hg],k⟩
    · exact ⟨h,by simp,k⟩
structure InvL (l:List Hd) (n:Int) (T:List Int) (m:List (Int × Int)):Prop where
  d:InvD (delta l n) T m
  mem:∀ x,x∈T↔x∈tmH l n
  len:T.length≤2*l.length
theorem InvL.zero (n:Int):InvL [] n [] []:=⟨InvD.zero,fun x=>by simp [tmH],by simp⟩
theorem InvL.skip {l:List Hd} {n:Int} {T:List Int} {m:List (Int × Int)} {h:Hd} (H:InvL l n T m) (hn:h.n≠n):InvL (l ++ [h]) n T m:=by
  refine ⟨?_,fun x=>?_,by have:=H.len; simp; omega⟩
  · have e:delta (l ++ [h]) n=delta l n:=by funext x; rw [delta_snoc,if_neg hn]; omega
    rw [e]; exact H.d
  · rw [tmH_snoc,H.mem x]; simp [hn]
theorem InvL.note {l:List Hd} {n:Int} {T:List Int} {m:List (Int × Int)} {h:Hd} (H:InvL l n T m) (hn:h.n=n) :
    let m1:=mset h.a ((mget h.a m).getD 0+h.s) m
    let T1:=noteT m T h.a
    InvL (l ++ [h]) n (noteT m1 T1 h.b) (mset h.b ((mget h.b m1).getD 0 + -h.s) m1):=by
  intro m1 T1
  obtain ⟨d1,e1,l1⟩:=H.d.step h.a h.s
  obtain ⟨d2,e2,l2⟩:=d1.step h.b (-h.s)
  refine ⟨?_,fun x=>?_,?_⟩
  · have e:delta (l ++ [h]) n=fun x=>(fun x=>delta l n x+if x=h.a then h.s else 0) x+if x=h.b then -h.s else 0:=by
      funext x
      rw [delta_snoc,if_pos hn]
      dsimp only
      by_cases ha:h.a=x <;> by_cases hb:h.b=x
      · rw [if_pos ha,if_pos hb,if_pos ha.symm,if_pos hb.symm]; omega
      · rw [if_pos ha,if_neg hb,if_pos ha.symm,if_neg (fun e=>hb e.symm)]; omega
      · rw [if_neg ha,if_pos hb,if_neg (fun e=>ha e.symm),if_pos hb.symm]; omega
      · rw [if_neg ha,if_neg hb,if_neg (fun e=>ha e.symm),if_neg (fun e=>hb e.symm)]; omega
    rw [e]; exact d2
  · rw [e2,e1,tmH_snoc,H.mem x]
    constructor
    · rintro ((h|h)|h)
      · exact .inl h
      · exact .inr ⟨hn,.inl h⟩
      · exact .inr ⟨hn,.inr h⟩
    · rintro (h|⟨_,h|h⟩)
      · exact .inl (.inl h)
      · exact .inl (.inr h)
      · exact .inr h
  · have:=H.len
    show (noteT (mset h.a ((mget h.a m).getD 0+h.s) m) (noteT m T h.a) h.b).length≤_
    rw [List.length_append,List.length_singleton]; omega
theorem InvL.sorted {l:List Hd} {n:Int} {T:List Int} {m:List (Int × Int)} (H:InvL l n T m):(T.mergeSort fun x y=>decide (x≤y))=hts l n:=by
  obtain ⟨h1,h2⟩:=hts_sa l n
  have hp:(T.mergeSort fun x y=>decide (x≤y)).Pairwise (· ≤ ·):=by
    have:=List.pairwise_mergeSort (le:=fun x y:Int=>decide (x≤y)) (by intro a b c h1 h2; simp at *; omega) (by intro a b; simp; omega) T
    exact this.imp (fun h=>by simpa using h)
  have hn:(T.mergeSort fun x y=>decide (x≤y)).Pairwise (· ≠ ·):=(List.mergeSort_perm T _).symm.pairwise H.d.nd (fun h=>Ne.symm h)
  refine SA.unique ?_ h1 (fun x=>?_)
  · exact (hp.and hn).imp (fun ⟨a,b⟩=>by omega)
  · rw [List.mem_mergeSort,h2 x,H.mem x]
def mostL (f:List Lv):Int:=f.foldl (fun n x=>max n x.v) 0
theorem mostL_take {f:List Lv} {k:Nat} {x:Lv} (h:f[k]?=some x):mostL (f.take (k+1))=max (mostL (f.take k)) x.v:=by
  obtain ⟨hk,rfl⟩:=List.getElem?_eq_some_iff.1 h
  unfold mostL;rw [List.take_succ_eq_append_getElem hk,List.foldl_append]; rfl
structure InvN (l:List Hd) (n t nx:Int):Prop where
  no:nx<0→nx = -1∧∀ x∈tmH l n,x≤t
  yes:0≤nx→nx∈tmH l n∧t<nx∧∀ x∈tmH l n,t<x→nx≤x
theorem InvN.zero (n t:Int):InvN [] n t (-1):=⟨fun _=>⟨rfl,fun x hx=>by simp [tmH] at hx⟩,fun h=>by omega⟩
theorem InvN.skip {l:List Hd} {n t nx:Int} {h:Hd} (H:InvN l n t nx) (hn:h.n≠n):InvN (l ++ [h]) n t nx:=by
  refine ⟨fun k=>⟨(H.no k).1,fun x hx=>?_⟩,fun k=>⟨(tmH_snoc _ _ _ _).2 (.inl (H.yes k).1),(H.yes k).2.1,fun x hx=>?_⟩⟩
  · rcases (tmH_snoc _ _ _ _).1 hx with hx|hx
    · exact (H.no k).2 x hx
    · exact absurd hx.1 hn
  · rcases (tmH_snoc _ _ _ _).1 hx with hx|hx
    · exact (H.yes k).2.2 x hx
    · exact absurd hx.1 hn
def pickN (t nx x:Int):Int:=if t<x∧(nx<0∨x<nx) then x else nx
theorem InvN.note {l:List Hd} {n t nx:Int} {h:Hd} (H:InvN l n t nx) (hn:h.n=n) (h0:0≤h.a∧0≤h.b):InvN (l ++ [h]) n t (pickN t (pickN t nx h.a) h.b):=by
  have hm:∀ x,x∈tmH (l ++ [h]) n↔x∈tmH l n∨x=h.a∨x=h.b:=fun x=>by rw [tmH_snoc]; simp [hn]
  unfold pickN
  by_cases c1:t<h.a∧(nx<0∨h.a<nx)
  · rw [if_pos c1]
    by_cases c2:t<h.b∧(h.a<0∨h.b<h.a)
    · rw [if_pos c2]
      refine ⟨fun k=>by omega,fun _=>⟨(hm _).2 (by simp),c2.1,fun x hx hx2=>?_⟩⟩
      rcases (hm _).1 hx with hx|hx|hx
      · by_cases hk:nx<0
        · have:=(H.no hk).2 x hx; omega
        · have:=(H.yes (by omega)).2.2 x hx hx2; omega
      · omega
      · omega
    · rw [if_neg c2]
      refine ⟨fun k=>by omega,fun _=>⟨(hm _).2 (by simp),c1.1,fun x hx hx2=>?_⟩⟩
      rcases (hm _).1 hx with hx|hx|hx
      · by_cases hk:nx<0
        · have:=(H.no hk).2 x hx; omega
        · have:=(H.yes (by omega)).2.2 x hx hx2; omega
      · omega
      · omega
  · rw [if_neg c1]
    by_cases c2:t<h.b∧(nx<0∨h.b<nx)
    · rw [if_pos c2]
      refine ⟨fun k=>by omega,fun _=>⟨(hm _).2 (by simp),c2.1,fun x hx hx2=>?_⟩⟩
      rcases (hm _).1 hx with hx|hx|hx
      · by_cases hk:nx<0
        · have:=(H.no hk).2 x hx; omega
        · have:=(H.yes (by omega)).2.2 x hx hx2; omega
      · omega
      · omega
    · rw [if_neg c2]
      refine ⟨fun k=>⟨(H.no k).1,fun x hx=>?_⟩,fun k=>⟨(hm _).2 (.inl (H.yes k).1),(H.yes k).2.1,fun x hx hx2=>?_⟩⟩
      · rcases (hm _).1 hx with hx|hx|hx
        · exact (H.no k).2 x hx
        · omega
        · omega
      · rcases (hm _).1 hx with hx|hx|hx
        · exact (H.yes k).2.2 x hx hx2
        · omega
        · omega
theorem SA.gap {ts:List Int} (h:SA ts) {k:Nat} (hk:k<ts.length) {x:Int} (hx:x∈ts):(0<k∧x≤ts.getD (k-1) 0)∨ts[k]≤x:=by
  obtain ⟨j,hj,rfl⟩:=List.getElem_of_mem hx
  have hp:=List.pairwise_iff_getElem.1 h
  by_cases hjk:j<k
  · left
    refine ⟨by omega,?_⟩
    rw [List.getD_eq_getElem?_getD,List.getElem?_eq_getElem (by omega:k-1<ts.length)]
    by_cases e:j=k-1
    · subst e; simp
    · have:=hp j (k-1) hj (by omega) (by omega)
      simp; omega
  · right
    by_cases e:j=k
    · subst e; omega
    · have:=hp k j hk hj (by omega)
      omega
theorem stored_next {l:List Hd} {n:Int} {nq:Nat} (hok:∀ h∈l,okHd nq h) {k:Nat} (hk:k<(hts l n).length):stored l n (hts l n)[k]=prevF (stored l n) (hts l n) k+delta l n (hts l n)[k]:=by
  obtain ⟨h1,h2⟩:=hts_sa l n
  have hmem:∀ h∈l,h.n=n→h.a∈hts l n∧h.b∈hts l n:=fun h hl hn=>⟨(h2 _).2 (mem_tmH.2 ⟨h,hl,hn,.inl rfl⟩),(h2 _).2 (mem_tmH.2 ⟨h,hl,hn,.inr rfl⟩)⟩
  by_cases h0:k=0
  · subst h0
    have e:stored l n (-1)=0:=stored_early (fun h hl hn=>by have:=(hok h hl).2.1; omega)
    have ht:(-1:Int)<(hts l n)[0]:=by
      obtain ⟨h,hl,hn,hx⟩:=mem_tmH.1 ((h2 _).1 (List.getElem_mem hk))
      have:=(hok h hl).2.1
      rcases hx with hx|hx <;> omega
    have:=stored_step ht (l:=l) (n:=n) (fun h hl hn=>by
      have hv:=(hok h hl).2.1
      obtain ⟨ma,mb⟩:=hmem h hl hn
      rcases h1.gap hk ma with g|g
      · omega
      · rcases h1.gap hk mb with g2|g2
        · omega
        · omega)
    rw [this,e]; unfold prevF; rw [if_pos rfl]
  · have hk1:k-1<(hts l n).length:=by omega
    have hlt:(hts l n)[k-1]<(hts l n)[k]:=List.pairwise_iff_getElem.1 h1 (k-1) k hk1 hk (by omega)
    have hd:(hts l n).getD (k-1) 0=(hts l n)[k-1]:=by rw [List.getD_eq_getElem?_getD,List.getElem?_eq_getElem hk1]; rfl
    unfold prevF;rw [if_neg h0,hd]
    refine stored_step hlt (fun h hl hn=>?_)
    have hv:=(hok h hl).2.1
    obtain ⟨ma,mb⟩:=hmem h hl hn
    have g:=h1.gap hk ma
    have g2:=h1.gap hk mb
    rw [hd] at g g2;omega
theorem hts_len (l:List Hd) (n:Int) {T:List Int} {m:List (Int × Int)} (H:InvL l n T m):(hts l n).length≤2*l.length:=by
  rw [← H.sorted,List.length_mergeSort]; exact H.len
end Go.Step
namespace Go.Proofs.YtglifndogffmkaaGreat
open Go.Eng Go.Step
set_option maxRecDepth 100000
set_option maxHeartbeats 64000000
theorem note_spec (bm bt b:Nat) (m:List (Int × Int)) (T:List Int) (u:Value) (σ:PH) (t d:Int) (hO:OwnS 3 1 u T.length (T.flatMap Eng.encI) σ) (hT:T.length≤100000) (hd:-4611686018427387904≤(mget t m).getD 0+d∧(mget t m).getD 0+d≤4611686018427387904) :
  Eng.Spec Tryz.prog (.func (.func 200) #[] #[.pointer (some ⟨bm,0,none⟩),.pointer (some ⟨bt,0,none⟩)]) [int t,int d] [] [sng bm (.cells #[.map (some b)] 310 (0,0)),sng b (mapO m),sng bt (.cells #[u] 22 (0,0)),σ]
   (fun r H'=>r=.tuple #[]∧∃ u' σ',OwnS 3 1 u' (noteT m T t).length ((noteT m T t).flatMap Eng.encI) σ'∧H'=[sng bm (.cells #[.map (some b)] 310 (0,0)),sng b (mapO (mset t ((mget t m).getD 0+d) m)),sng bt (.cells #[u'] 22 (0,0)),σ']):=by
 obtain ⟨pu,cu,rfl⟩:=SlAt.cap hO.at
 refine spec_in (cap:=[.pointer (some ⟨bm,0,none⟩),.pointer (some ⟨bt,0,none⟩)]) Tryz.func200 rfl rfl Tryz.ntmps200 rfl envZ (fun N β=>?_)
 unfold noteT
 cases hm:mget t m with
 | some w =>
  rw [hm] at hd
  rw [if_neg (by simp)]
  refine AC ?_;refine Aa8 ?_;refine AB ?_
  focus ((refine' CK _ rfl rfl rfl _; rotate_left; (apply EF (l:=m); exact rfl; exact rfl; exact rfl; exact rfl; exact rfl; exact mapAt_own memZ); rw [hm]))
  refine Abv ?_;refine Ab ?_;refine Aab ?_;refine B6 ?_;refine Aai ?_;refine AA ?_;refine AF ?_;refine AB ?_
  focus ((refine' CK _ rfl rfl rfl _; rotate_left; (apply DG (l:=m); exact rfl; exact rfl; exact rfl; exact rfl; exact rfl; exact mapAt_own memZ); rw [hm]))
  refine AB ?_;refine BY ?_
  focus ((refine' CU _ rfl rfl _; rotate_left; (apply DX (l:=m); exact rfl; exact rfl; exact rfl; exact rfl; exact rfl; exact takeZ); rintro _ _ ⟨rfl,rfl⟩))
  refine AE ?_;exact A9 (res0 rfl) rsubZ selZ ⟨rfl,_,_,hO,rfl⟩
 | none =>
  rw [hm] at hd;rw [if_pos rfl];refine AC ?_;refine Aa8 ?_;refine AB ?_
  focus ((refine' CK _ rfl rfl rfl _; rotate_left; (apply EF (l:=m); exact rfl; exact rfl; exact rfl; exact rfl; exact rfl; exact mapAt_own memZ); rw [hm]))
  refine Abv ?_;refine Ab ?_;refine Aab ?_;refine B6 ?_;refine Aah ?_;refine AA ?_;refine AF ?_;refine AB ?_;refine BQ ?_; rintro _ _ ⟨b,rfl,rfl⟩
  refine BH (CG (by_:=8) (s:=1) (news:=[int t]) rfl rfl rfl rfl rfl rfl rfl hO takeZ (cells_own memZ) rfl oneZ (by omega) (by simp only [maxLen]; omega) (by omega)) rfl rfl rfl ?_
  rintro u1 _ ⟨σ1,hO1,rfl⟩
  have hu1:u1.oneCell'=true:=by obtain ⟨p,c,rfl⟩:=SlAt.cap hO1.at; rfl
  refine BM ?_; rintro _ _ ⟨rfl,rfl⟩;refine AE ?_;refine AA ?_;refine AF ?_;refine AB ?_
  focus ((refine' CK _ rfl rfl rfl _; rotate_left; (apply DG (l:=m); exact rfl; exact rfl; exact rfl; exact rfl; exact rfl; exact mapAt_own memZ); rw [hm]))
  refine AB ?_;refine BY ?_
  focus ((refine' CU _ rfl rfl _; rotate_left; (apply DX (l:=m); exact rfl; exact rfl; exact rfl; exact rfl; exact rfl; exact takeZ); rintro _ _ ⟨rfl,rfl⟩))
  refine AE ?_;refine A9 (res0 rfl) rsubZ selZ ⟨rfl,u1,σ1,?_,rfl⟩;rw [List.length_append,List.flatMap_append];exact hO1
end Go.Proofs.YtglifndogffmkaaGreat
namespace Go.Eng
open Go.Sort
theorem calls_v {P : Program} {f : FuncId} {fn : Func} {c : Code} {args : List Value} {w : World} {R : Value → World → Prop} (hf : P.funcs[f]? = some fn) (hb : fn.body = some c) (hname : (fn.name == "runtime.NumGoroutine") = false)
    (h : Calls P f args.toArray w (fun e w' => ∃ v, e = .returned v ∧ R v w')) : CallsV P (fv f) args w R := by
  unfold CallsV
  have hrun : ((do let d ← Deferred.ofValue (fv f) args.toArray; invoke d.target d.args : Sem Next).run P w) = .ok (.enter f args.toArray) w := by
    have hname' : ¬ fn.name = "runtime.NumGoroutine" := by simpa using hname
    simp [Deferred.ofValue, invoke, callFunc, program, Sem.run, bind, Sem.bind, pure, hf, hb, hname']
  rw [hrun];exact callsIn_wide.2 h
abbrev sortd (l : List Int) : List Int := l.mergeSort fun x y => decide (x ≤ y)
theorem flatI (l : List Int) : l.flatMap encI = l.map (Value.int .i64) := by induction l <;> simp_all [encI]
theorem sortI_of {P : Program} {f : FuncId} {fn : Func} {c : Code} (hf : P.funcs[f]? = some fn) (hb : fn.body = some c) (hname : (fn.name == "runtime.NumGoroutine") = false)
    (hany : ∀ (blk cap : Nat) (zs : List Int) (w : World), Holds (Value.int .i64) w blk 0 zs.toArray → blk < w.heap.size → zs.length < 4611686018427387904 →
      Calls P f #[.slice (some ⟨blk, 0, none⟩) zs.length cap] w (fun e w' => e = .returned (.tuple #[]) ∧ ∃ n os, w' = grow (putRow (Value.int .i64) (Sort.ahead w n) blk 0 (sortd zs).toArray) os))
    (hnone : ∀ (p : Option Addr) (cap : Nat) (w : World), Calls P f #[.slice p 0 cap] w (fun e w' => e = .returned (.tuple #[]) ∧ w' = w))
    {e : TypeId} {σ : PH} {v : Value} {l : List Int} (hO : OwnS e 1 v l.length (l.flatMap encI) σ) (hl : l.length < 4611686018427387904) :
    Spec P (fv f) [v] [] [σ] (fun r H' => r = .tuple #[] ∧ ∃ σ', OwnS e 1 v (sortd l).length ((sortd l).flatMap encI) σ' ∧ H' = [σ']) := by
  have hsl : (sortd l).length = l.length := List.length_mergeSort ..
  intro N w hs
  obtain ⟨β, hsat, hup⟩ := exists_base hs
  rcases hO.block with ⟨rfl, rfl, rfl⟩ | ⟨b, cap, cur, rfl, rfl, h1, h2, h3, h4⟩
  · refine calls_v hf hb hname (Calls.mono (hnone none 0 w) ?_)
    rintro _ _ ⟨rfl, rfl⟩
    exact ⟨_, rfl, [emp], ⟨rfl, emp, by simpa [sortd] using OwnS.nil e 1, rfl⟩, hup _ _ hsat⟩
  · have hg : w.heap[b]? = some (.cells cur e (0, 0)) := hs.own .here
    have hblt : b < w.heap.size := (Array.getElem?_eq_some_iff.1 hg).1
    rw [Nat.mul_one, flatI] at h4;rw [Nat.mul_one] at h3
    have hH : Holds (Value.int .i64) w b 0 l.toArray := by
      intro j hj
      simp only [List.size_toArray] at hj
      have hj' : (cur.toList.take l.length)[j]? = some (Value.int .i64 l[j]) := by rw [h4, List.getElem?_map, List.getElem?_eq_getElem hj]; rfl
      rw [List.getElem?_take_of_lt hj, Array.getElem?_toList] at hj';refine ⟨?_, ?_⟩
      · rw [cell_of_row w b _ cur e (0, 0) hg, Nat.zero_add, hj']
        simp [hj]
      · simp [World.frozen?, hg]
    refine calls_v hf hb hname (Calls.mono (hany b cap l w hH hblt hl) ?_);rintro _ _ ⟨rfl, n, os, rfl⟩
    have hheap : (grow (putRow (Value.int .i64) (Sort.ahead w n) b 0 (sortd l).toArray) os).heap = (w.heap.modify b (onCells (putCells (Value.int .i64) 0 (sortd l).toArray))) ++ os := rfl
    refine ⟨_, rfl, [sng b (.cells (putCells (Value.int .i64) 0 (sortd l).toArray cur) e (0, 0))], ⟨rfl, _, ⟨by rw [flat_len encI_len], .inr ⟨b, cap, _, by rw [hsl], rfl, by omega, h2, ?_, ?_⟩⟩, rfl⟩, ?_⟩
    · simp [putCells, h3]
    · rw [flatI, Nat.mul_one]
      exact take_putCellsI cur (sortd l) (by rw [hsl, h3]; exact h1)
    · refine ⟨⟨?_, rfl, rfl, rfl, Nat.le_add_right _ _⟩, fun k hk hno => ?_, fun ρ hρ => ?_, by simp, fun ρ hρ k hk => ?_⟩
      · rw [hheap]; simp
      · have hne : k ≠ b := fun e => by
          subst e
          have := hno (sng k (.cells cur e (0, 0))) (by simp)
          simp [sng_self] at this
        rw [hheap, Array.getElem?_append_left (by simpa using hk), Array.getElem?_modify, if_neg (Ne.symm hne)]
      · simp at hρ; subst hρ
        intro k o hk
        obtain ⟨rfl, rfl⟩ := sng_some hk
        rw [hheap, Array.getElem?_append_left (by simpa using hblt), Array.getElem?_modify, if_pos rfl, hg]
        rfl
      · simp at hρ; subst hρ
        left
        refine ⟨sng b (.cells cur e (0, 0)), by simp, ?_⟩
        cases hks : sng b (Obj.cells (putCells (Value.int .i64) 0 (sortd l).toArray cur) e (0, 0)) k with
        | none => exact absurd hks hk
        | some o =>
          obtain ⟨rfl, _⟩ := sng_some hks
          simp [sng_self]
end Go.Eng
namespace Go.Eng
open Go.Sort
end Go.Eng
namespace Go.Proofs
open Go.Shelf
def Tryz.laysSort_ren:Go.Shelf.Ren:=⟨fun|189=>201|125=>106|257=>251|128=>172|129=>173|294=>272|295=>273|296=>274|297=>275|298=>276|299=>277|216=>278|300=>279|301=>280|328=>288|329=>228|330=>229|331=>289|332=>290|215=>107|343=>292|n=>n,fun|28=>22|3=>3|46=>215|0=>0|51=>284|53=>286|4=>4|183=>278|182=>277|131=>84|5=>5|9=>9|218=>330|222=>334|228=>369|229=>370|n=>n,fun|n=>n⟩
theorem Tryz.laysSort:Go.Proofs.Lays.n189 Tryz.prog Tryz.laysSort_ren:={
 mixed:=by kernel_rfl
 f125:=Go.Eng.lzZ Tryz.func106
 f128:=Go.Eng.lzZ Tryz.func172
 f129:=Go.Eng.lzZ Tryz.func173
 f189:=Go.Eng.lzZ Tryz.func201
 f215:=Go.Eng.lzZ Tryz.func107
 f216:=Go.Eng.lzZ Tryz.func278
 f257:=Go.Eng.lzZ Tryz.func251
 f294:=Go.Eng.lzZ Tryz.func272
 f295:=Go.Eng.lzZ Tryz.func273
 f296:=Go.Eng.lzZ Tryz.func274
 f297:=Go.Eng.lzZ Tryz.func275
 f298:=Go.Eng.lzZ Tryz.func276
 f299:=Go.Eng.lzZ Tryz.func277
 f300:=Go.Eng.lzZ Tryz.func279
 f301:=Go.Eng.lzZ Tryz.func280
 f328:=Go.Eng.lzZ Tryz.func288
 f329:=Go.Eng.lzZ Tryz.func228
 f330:=Go.Eng.lzZ Tryz.func229
 f331:=Go.Eng.lzZ Tryz.func289
 f332:=Go.Eng.lzZ Tryz.func290
 f343:=Go.Eng.lzZ Tryz.func292
 t0:=Tryz.underlying0
 a0:=Tryz.isAgg0
 z0:=Tryz.sizeOf0
 v0:=Tryz.zeroValue0
 t3:=Tryz.underlying3
 a3:=Tryz.isAgg3
 z3:=Tryz.sizeOf3
 v3:=Tryz.zeroValue3
 t4:=Tryz.underlying4
 a4:=Tryz.isAgg4
 z4:=Tryz.sizeOf4
 v4:=Tryz.zeroValue4
 t5:=Tryz.underlying5
 a5:=Tryz.isAgg5
 z5:=Tryz.sizeOf5
 v5:=Tryz.zeroValue5
 t9:=Tryz.underlying9
 a9:=Tryz.isAgg9
 z9:=Tryz.sizeOf9
 v9:=Tryz.zeroValue9
 t28:=Tryz.underlying22
 a28:=Tryz.isAgg22
 z28:=Tryz.sizeOf22
 v28:=Tryz.zeroValue22
 t46:=Tryz.underlying215
 a46:=Tryz.isAgg215
 z46:=Tryz.sizeOf215
 v46:=Tryz.zeroValue215
 t51:=Tryz.underlying284
 a51:=Tryz.isAgg284
 z51:=Tryz.sizeOf284
 v51:=Tryz.zeroValue284
 t53:=Tryz.underlying286
 a53:=Tryz.isAgg286
 z53:=Tryz.sizeOf286
 v53:=Tryz.zeroValue286
 t131:=Tryz.underlying84
 a131:=Tryz.isAgg84
 z131:=Tryz.sizeOf84
 v131:=Tryz.zeroValue84
 t182:=Tryz.underlying277
 a182:=Tryz.isAgg277
 z182:=Tryz.sizeOf277
 v182:=Tryz.zeroValue277
 t183:=Tryz.underlying278
 a183:=Tryz.isAgg278
 z183:=Tryz.sizeOf278
 v183:=Tryz.zeroValue278
 t218:=Tryz.underlying330
 a218:=Tryz.isAgg330
 z218:=Tryz.sizeOf330
 v218:=Tryz.zeroValue330
 t222:=Tryz.underlying334
 a222:=Tryz.isAgg334
 z222:=Tryz.sizeOf334
 v222:=Tryz.zeroValue334
 t228:=Tryz.underlying369
 a228:=Tryz.isAgg369
 z228:=Tryz.sizeOf369
 v228:=Tryz.zeroValue369
 t229:=Tryz.underlying370
 a229:=Tryz.isAgg370
 z229:=Tryz.sizeOf370
 v229:=Tryz.zeroValue370 }
end Go.Proofs
namespace Go.Proofs.YtglifndogffmkaaGreat
open Go.Eng Go.Step
set_option maxRecDepth 100000
set_option maxHeartbeats 64000000
theorem sortI_spec (σ:PH) (v:Value) (l:List Int) (hO:OwnS 3 1 v l.length (l.flatMap Eng.encI) σ) (hl:l.length≤1000000) :
  Eng.Spec Tryz.prog (fv 201) [v] [] [σ] (fun r H'=>r=.tuple #[]∧∃ σ',OwnS 3 1 v (sortd l).length ((sortd l).flatMap Eng.encI) σ'∧H'=[σ']):=
 sortI_of (f:=201) Tryz.func201 rfl rfl
  (fun blk cap zs w hH hb hl=>calls_of_every_depth (fun D=>Go.Proofs.AnyS.slices_Sort_int_alone Tryz.laysSort D blk 0 cap zs w hH hb hl))
  (fun p cap w=>calls_of_every_depth (fun D=>Go.Proofs.AnyS.slices_Sort_int_none_alone Tryz.laysSort D p cap w)) hO (by omega)
def encV (l:Lv):List Value:=[int l.a,int l.v]
theorem encV_len (l:Lv):(encV l).length=2:=rfl
abbrev LvAt (ρ:PH) (v:Value) (f:List Lv):Prop:=SlE encV 2 ρ v f
theorem levels_spec (ρ:PH) (v:Value) (l:List Hd) (n:Int) (nq:Nat) (hv:HdAt ρ v l) (hok:∀ h∈l,okHd nq h) (hl:l.length≤600) :
  Makes Tryz.prog (fv 148) [v,int n] [ρ] (fun r σ=>OwnS 259 2 r (lvH l n).length ((lvH l n).flatMap encV) σ):=by
 obtain ⟨q,c,rfl,hr⟩:=hv.val encH_len
 refine spec_in (cap:=[]) Tryz.func148 rfl rfl Tryz.ntmps148 rfl envZ (fun N β=>?_)
 refine CC ?_;refine CC ?_;refine Aaq ?_;refine Aa ?_
 focus ((refine' BH _ rfl rfl rfl _; rotate_left; (exact E9); rintro _ _ ⟨bb,rfl,rfl⟩))
 refine CB ?_; rintro _ _ ⟨b,rfl,rfl⟩;refine BM ?_; rintro _ _ ⟨rfl,rfl⟩;refine AE ?_;refine Aa ?_;refine CB ?_; rintro _ _ ⟨b,rfl,rfl⟩;refine AE ?_;refine Aa ?_;refine B3 ?_;refine Aa4 ?_;refine Abk ?_
 revert b; intro bt
 revert b; intro bm
 refine BF [1,5,6,7,16,17] (X:=Nat × (List (Int × Int) × (List Int × (Value × PH)))) (0,([],([],(.slice none 0 0,emp)))) (fun x=>x.1≤l.length∧InvL (l.take x.1) n x.2.2.1 x.2.1∧OwnS 3 1 x.2.2.2.1 x.2.2.1.length (x.2.2.1.flatMap Eng.encI) x.2.2.2.2) (fun x=>[(18,int x.1)]) (fun x=>[sng bm (.cells #[.map (some bb)] 310 (0,0)),sng bb (mapO x.2.1),sng bt (.cells #[x.2.2.2.1] 22 (0,0)),x.2.2.2.2,emp]) (fun x=>l.length-x.1)
  pickZ ⟨by dsimp only; omega,InvL.zero n,OwnS.nil _ _⟩ covZ selZ ?_
 rintro ⟨k,m,T,u,σ⟩ ⟨hk,hI,hO⟩
 dsimp only at hk hI hO ⊢
 by_cases hlt:k<l.length
 ·have hx:=List.getElem?_eq_getElem hlt
  have hh:=hok _ (List.getElem_mem hlt)
  obtain ⟨b2,o2,rfl,hrd⟩:=hdRow hr hx
  have htk:l.take (k+1)=l.take k ++ [l[k]]:=List.take_succ_eq_append_getElem hlt
  have hTl:=hI.len
  rw [List.length_take,Nat.min_eq_left hk] at hTl
  have hdb:∀ t,-39321600≤delta (l.take k) n t∧delta (l.take k) n t≤39321600:=fun t=>by
   have:=delta_bd (n:=n) (t:=t) (l:=l.take k) (fun h hm=>hok h (List.mem_of_mem_take hm))
   rw [List.length_take,Nat.min_eq_left hk] at this;omega
  obtain ⟨hh1,hh2,hh3,hh4⟩:=hh
  generalize l[k]=h at hrd htk hh1 hh2 hh3 hh4
  by_cases hn:h.n=n
  ·have hI2:=hI.note hn
   rw [← htk] at hI2
   obtain ⟨d1,_,l1⟩:=hI.d.step h.a h.s
   have hv1:=hI.d.val h.a
   have hv2:=d1.val h.b
   have b1:=hdb h.a
   have b2':=hdb h.b
   have r1:-4611686018427387904≤(mget h.a m).getD 0+h.s∧(mget h.a m).getD 0+h.s≤4611686018427387904:=by rw [hv1]; omega
   have r2:-4611686018427387904≤(mget h.b (mset h.a ((mget h.a m).getD 0+h.s) m)).getD 0 + -h.s∧(mget h.b (mset h.a ((mget h.a m).getD 0+h.s) m)).getD 0 + -h.s≤4611686018427387904:=by
    rw [hv2]
    split <;> omega
   refine Ab2 ?_;refine A4 ?_; rintro _ _ ⟨b,rfl,rfl⟩;refine AW ?_; rintro _ _ ⟨rfl,rfl⟩;refine Aca ?_;refine AB ?_;refine CO ?_;refine Aah ?_;refine Aab ?_;refine Aae ?_;refine Aae ?_
   refine BA (note_spec bm bt bb m T u σ h.a h.s hO (by omega) r1) rfl rfl takesZ (fun τ hτ=>by simp at hτ) rfl rfl ?_
   rintro _ _ ⟨rfl,u1,σ1,hO1,rfl⟩;refine AE ?_;refine AA ?_;refine Abu ?_;refine zq_neg ?_
   refine BA (note_spec bm bt bb _ _ u1 σ1 h.b (-h.s) hO1 (by omega) r2) rfl rfl takesZ (fun τ hτ=>by simp at hτ) rfl rfl ?_
   rintro _ _ ⟨rfl,u2,σ2,hO2,rfl⟩;refine AE ?_;refine Aa3 ?_
   exact AY (k+1,(_,(_,(u2,σ2)))) ⟨by dsimp only; omega,hI2,hO2⟩ (by dsimp only; omega) covZ selZ
  ·have hI2:=hI.skip hn
   rw [← htk] at hI2;refine Ab2 ?_;refine A4 ?_; rintro _ _ ⟨b,rfl,rfl⟩;refine AW ?_; rintro _ _ ⟨rfl,rfl⟩;refine Aca ?_;refine AB ?_;refine CA ?_;refine Acg ?_
   exact AY (k+1,(m,(T,(u,σ)))) ⟨by dsimp only; omega,hI2,hO⟩ (by dsimp only; omega) covZ selZ
 have hke:k=l.length:=by omega
 subst hke;rw [List.take_length] at hI
 have hTl:=hI.len
 have hs:=hI.sorted
 have htl:=hts_len l n hI
 obtain ⟨pu,cu,rfl⟩:=SlAt.cap hO.at
 refine Abl ?_;refine Aa8 ?_
 refine BA (sortI_spec σ _ T hO (by omega)) rfl rfl takesZ (fun τ hτ=>by simp at hτ) rfl rfl ?_
 rintro _ _ ⟨rfl,σs,hS,rfl⟩
 have hSd:sortd T=hts l n:=hs
 rw [hSd] at hS
 have htl2:T.length=(hts l n).length:=by rw [← hSd,List.length_mergeSort]
 rw [htl2] at hS
 have hNs:IntsAt σs _ (Step.hts l n):=hS.at
 obtain ⟨_,_,e,hrs⟩:=hNs.val Eng.encI_len
 simp only [Value.slice.injEq] at e
 obtain ⟨rfl,_,rfl⟩:=e
 have hsb:∀ t,0≤Step.stored l n t∧Step.stored l n t≤39321600:=fun t=>by
  have:=stored_bd (n:=n) (t:=t) hok
  omega
 have hnx:=@stored_next l n nq hok
 have hget:=hI.d.val
 unfold lvH;rw [htl2]
 generalize Step.hts l n=ts at hS htl2 hNs hrs hnx htl
 refine AQ (ρ:=sng bm (.cells #[.map (some bb)] 310 (0,0))) takeZ ?_
 have bx293_3:=rdB bm 310 [.map (some bb)]
 have cm:=rdC bx293_3 0
 refine AQ (ρ:=sng bb (mapO m)) takeZ ?_;refine AQ (ρ:=σs) takeZ ?_;refine AE ?_;refine Aaq ?_;refine Aa ?_;refine Aaj ?_;refine Aa8 ?_;refine Abk ?_
 refine BF [5,42,43] (X:=Nat × (Value × PH)) (0,(.slice none 0 0,emp)) (fun x=>x.1≤ts.length∧OwnS 259 2 x.2.1 (comb (Step.stored l n) 0 (ts.take x.1)).length ((comb (Step.stored l n) 0 (ts.take x.1)).flatMap encV) x.2.2) (fun x=>[(44,int x.1),(10,x.2.1),(11,int (prevF (Step.stored l n) ts x.1))]) (fun x=>[x.2.2]) (fun x=>ts.length-x.1)
  pickZ ⟨by dsimp only; omega,OwnS.nil _ _⟩ covZ selZ ?_
 rintro ⟨k,u,σ'⟩ ⟨hk',hO'⟩
 dsimp only at hk' hO' ⊢
 by_cases hlt':k<ts.length
 ·have hx:=List.getElem?_eq_getElem hlt'
  obtain ⟨b2,o2,rfl,g1⟩:=hrs.int hx
  have hsn:=comb_snoc (Step.stored l n) hx
  have hnk:=hnx hlt'
  have hpn:prevF (Step.stored l n) ts (k+1)=Step.stored l n ts[k]:=by
   unfold prevF
   rw [if_neg (by omega),List.getD_eq_getElem?_getD,Nat.add_sub_cancel,hx]; rfl
  have hp1:0≤prevF (Step.stored l n) ts k∧prevF (Step.stored l n) ts k≤39321600:=by
   unfold prevF
   split
   ·omega
   ·exact hsb _
  generalize ts[k]=t at g1 hsn hnk hpn
  have hg:=hget t
  have hst:=hsb t
  have hcl:=comb_len (Step.stored l n) (ts.take k) 0
  rw [List.length_take,Nat.min_eq_left hk'] at hcl
  generalize prevF (Step.stored l n) ts k=p at hsn hnk hp1
  obtain ⟨pu',cu',rfl⟩:=SlAt.cap hO'.at
  by_cases hz:delta l n t=0
  ·rw [if_pos (by omega),List.append_nil] at hsn
   refine Abq ?_;refine Ac7 ?_;refine Aaj ?_;refine Aa8 ?_;refine AB ?_
   focus ((refine' CK _ rfl rfl rfl _; rotate_left; (apply DG (l:=m); exact rfl; exact rfl; exact rfl; exact rfl; exact rfl; exact mapAt_rd memZ); rw [hg]))
   refine CO ?_;refine Aah ?_;refine A5 rfl ?_;refine AA ?_;refine Aaz ?_
   refine AY (k+1,(_,σ')) ⟨by dsimp only; omega,by dsimp only; rw [hsn]; exact hO'⟩ (by dsimp only; omega) ?_ selZ
   dsimp only
   rw [hpn,show Step.stored l n t=p by omega]
   exact covZ
  ·rw [if_neg (by omega)] at hsn
   refine Abq ?_;refine Ac7 ?_;refine Aaj ?_;refine Aa8 ?_;refine AB ?_
   focus ((refine' CK _ rfl rfl rfl _; rotate_left; (apply DG (l:=m); exact rfl; exact rfl; exact rfl; exact rfl; exact rfl; exact mapAt_rd memZ); rw [hg]))
   refine Ad ?_;refine Aab ?_;refine AF ?_;refine AB ?_
   focus ((refine' CK _ rfl rfl rfl _; rotate_left; (apply DG (l:=m); exact rfl; exact rfl; exact rfl; exact rfl; exact rfl; exact mapAt_rd memZ); rw [hg]))
   refine BY ?_;refine Aaa ?_;refine Aba ?_;refine AB ?_;refine B0 ?_;refine BQ ?_; rintro _ _ ⟨b,rfl,rfl⟩;rw [← hnk]
   refine BH (CG (by_:=16) (s:=2) (news:=[int t,int (Step.stored l n t)]) rfl rfl rfl rfl rfl rfl rfl hO' takeZ (cells_own memZ) rfl oneZ (by omega) (by simp only [maxLen]; omega) (by omega)) rfl rfl rfl ?_
   rintro u1 _ ⟨σ1,hO1,rfl⟩;refine Aaa ?_;refine Aa3 ?_
   refine AY (k+1,(u1,σ1)) ⟨by dsimp only; omega,?_⟩ (by dsimp only; omega) ?_ selZ
   ·dsimp only
    rw [hsn,List.length_append,List.flatMap_append];exact hO1
   ·dsimp only
    rw [hpn];exact covZ
 ·have hke:k=ts.length:=by omega
  subst hke;rw [List.take_length] at hO';refine Abl ?_;refine Aa9 ?_;exact AT (res1 rfl rfl) rsubZ selZ ⟨σ',hO',rfl⟩
theorem lvRow {ρ:PH} {p:Option Addr} {l:List Lv} (h:RowsE encV 2 ρ p l) {i:Nat} {x:Lv} (hx:l[i]?=some x) :
  ∃ b o,p=some ⟨b,o,none⟩∧RdN ρ b (o+i*2) [int x.a,int x.v]∧rdc ρ b (o+i*2)=some (int x.a)∧rdc ρ b (o+i*2+1)=some (int x.v):=by
 obtain ⟨b,o,e,hr⟩:=h i x hx
 exact ⟨b,o,e,hr,hr.get0,hr.get (j:=1) rfl⟩
theorem most_spec (ρ:PH) (v:Value) (f:List Lv) (hv:LvAt ρ v f) (hl:f.length≤9223372036854775807):Ans Tryz.prog (fv 176) [v] [ρ] (fun r=>r=int (mostL f)):=by
 obtain ⟨q,c,rfl,hr⟩:=hv.val encV_len
 refine spec_in (cap:=[]) Tryz.func176 rfl rfl Tryz.ntmps176 rfl envZ (fun N β=>?_)
 refine Aaq ?_;refine Adf ?_
 refine BF [6,7] (0:Nat) (fun k=>k≤f.length) (fun k=>[(8,int k),(3,int (mostL (f.take k)))]) (fun _=>[]) (fun k=>f.length-k) pickZ (by omega) covZ selZ ?_
 intro k hk
 by_cases hlt:k<f.length
 ·have hx:=List.getElem?_eq_getElem hlt
  obtain ⟨b1,o1,rfl,hrd,_,_⟩:=lvRow hr hx
  have hm:=mostL_take hx
  generalize f[k]=x at hrd hm
  refine Ab2 ?_;refine A4 ?_; rintro _ _ ⟨b,rfl,rfl⟩;refine AW ?_; rintro _ _ ⟨rfl,rfl⟩;refine AE ?_;refine AA ?_;refine Aay ?_;refine DB ?_;refine Aaa ?_;refine Aa3 ?_
  refine AY (k+1) (by omega) (by omega) ?_ selZ
  rw [hm];exact covZ
 ·have hke:k=f.length:=by omega
  subst hke;rw [List.take_length];refine Abl ?_;refine Aa9 ?_;exact A3 ⟨rfl,rfl⟩
theorem hdRow5 {ρ:PH} {p:Option Addr} {l:List Hd} (h:RowsE encH 5 ρ p l) {i:Nat} {x:Hd} (hx:l[i]?=some x) :
  ∃ b o,p=some ⟨b,o,none⟩∧RdN ρ b (o+i*5) [int x.n,int x.a,int x.b,int x.s,int x.k]∧rdc ρ b (o+i*5)=some (int x.n)∧rdc ρ b (o+i*5+1)=some (int x.a)∧rdc ρ b (o+i*5+2)=some (int x.b)∧rdc ρ b (o+i*5+3)=some (int x.s)∧rdc ρ b (o+i*5+4)=some (int x.k):=by
 obtain ⟨b,o,e,hr⟩:=h i x hx
 exact ⟨b,o,e,hr,hr.get0,hr.get (j:=1) rfl,hr.get (j:=2) rfl,hr.get (j:=3) rfl,hr.get (j:=4) rfl⟩
theorem tmH_len (n:Int):∀ l:List Hd,(tmH l n).length≤2*l.length
 | []=>by simp [tmH]
 | h::l=>by
  have ih:=tmH_len n l
  unfold tmH at ih ⊢;rw [List.flatMap_cons,List.length_append,List.length_cons]
  split
  ·simp only [List.length_cons,List.length_nil]; omega
  ·simp only [List.length_nil]; omega
theorem sa_len:∀ {out f:List Int},SA out→(∀ x∈out,x∈f)→out.length≤f.length
 | [],_,_,_=>by simp
 | a::out,f,h,hm=>by
  have h2:=List.pairwise_cons.1 h
  have ih:=sa_len (out:=out) (f:=f.erase a) h2.2 (fun x hx=>by
   have:=h2.1 x hx
   exact (List.mem_erase_of_ne (by omega)).2 (hm x (by simp [hx])))
  rw [List.length_erase_of_mem (hm a (by simp))] at ih
  have:=List.length_pos_of_mem (hm a (by simp))
  rw [List.length_cons]; omega
theorem hts_len2 (l:List Hd) (n:Int):(hts l n).length≤2*l.length:=by
 obtain ⟨h1,h2⟩:=hts_sa l n
 have:=sa_len h1 (fun x hx=>(h2 x).1 hx)
 have:=tmH_len n l
 omega
end Go.Proofs.YtglifndogffmkaaGreat
namespace Go.Step
theorem cmpI_neg (a b:Int):cmpI a b = -cmpI b a:=by
  unfold cmpI
  by_cases h1:a<b
  · rw [if_pos h1,if_neg (by omega),if_pos h1]
  · rw [if_neg h1]
    by_cases h2:b<a
    · rw [if_pos h2,if_pos h2]; rfl
    · rw [if_neg h2,if_neg h2,if_neg h1]; rfl
theorem orI_neg:∀ l:List Int,orI (l.map (fun x=>-x)) = -orI l
  | []=>rfl
  | x::l=>by
    have ih:=orI_neg l
    simp only [List.map_cons,orI]
    by_cases h:x=0
    · subst h; simp [ih]
    · rw [if_pos h,if_pos (by omega)]
theorem cmpHd_neg (x y:Hd):cmpHd x y = -cmpHd y x:=by
  unfold cmpHd;rw [← orI_neg];simp only [List.map_cons,List.map_nil];rw [cmpI_neg x.n,cmpI_neg x.a,cmpI_neg x.b,cmpI_neg x.k,cmpI_neg x.s]
def hdE (nq:Nat) (l:List Hd) (i:Nat):Int:=match l[i]? with
  | some h=>if ¬ okHd nq h then 2 else if 0<i∧0<cmpHd (l.getD (i-1) h) h then 9 else 0
  | none=>0
theorem hdE_at {nq:Nat} {l:List Hd} {i:Nat} {h:Hd} (e:l[i]?=some h):hdE nq l i=if ¬ okHd nq h then 2 else if 0<i∧0<cmpHd (l.getD (i-1) h) h then 9 else 0:=by unfold hdE; rw [e]
def fitB (qs:List Int) (l:List Hd):Bool:=l.all (fun h=>decide (stored l h.n h.a≤qs.getD h.n.toNat 0))
def chkH (qs:List Int) (cs:List Ct) (l:List Hd):Int:=
  if chkPl qs cs≠0 then 1 else if 512<l.length then 4 else if firstE (hdE qs.length l) l.length≠0 then firstE (hdE qs.length l) l.length else if fitB qs l then 0 else 15
theorem hdE_ok {nq:Nat} {l:List Hd} {m:Nat} (h:firstE (hdE nq l) m=0):∀ x∈l.take m,okHd nq x:=fun x hx=>by
  obtain ⟨i,hi,rfl⟩:=List.getElem_of_mem hx
  rw [List.length_take] at hi
  have h2:=firstE_zero h i (by omega)
  rw [List.getElem_take]
  rw [hdE_at (List.getElem?_eq_getElem (by omega:i<l.length))] at h2
  by_cases hc:okHd nq l[i]
  · exact hc
  · rw [if_pos hc] at h2; omega
theorem mostL_le {f:List Lv} {Q:Int} (hQ:0≤Q):mostL f≤Q↔∀ x∈f,x.v≤Q:=by
  have h:∀ (f:List Lv) (a:Int),f.foldl (fun n x=>max n x.v) a≤Q↔a≤Q∧∀ x∈f,x.v≤Q:=by
    intro f
    induction f with
    | nil=>intro a; simp
    | cons y f ih =>
      intro a
      rw [List.foldl_cons,ih]
      constructor
      · rintro ⟨h1,h2⟩
        refine ⟨by omega,fun x hx=>?_⟩
        rcases List.mem_cons.1 hx with rfl|hx
        · omega
        · exact h2 x hx
      · rintro ⟨h1,h2⟩
        have:=h2 y (by simp)
        exact ⟨by omega,fun x hx=>h2 x (by simp [hx])⟩
  unfold mostL;rw [h f 0]
  exact ⟨fun h=>h.2,fun h=>⟨hQ,h⟩⟩
theorem comb_le {F:Int→Int} {Q:Int}:∀ {ts:List Int} {last:Int},last≤Q→((∀ x∈comb F last ts,x.v≤Q)↔∀ t∈ts,F t≤Q)
  | [],last,_=>by simp [comb]
  | t::ts,last,h=>by
    by_cases hc:F t=last
    · have e:comb F last (t::ts)=comb F (F t) ts:=by simp only [comb]; rw [if_neg (fun hh=>hh hc)]
      rw [e,comb_le (by omega)]
      constructor
      · intro hh x hx
        rcases List.mem_cons.1 hx with rfl|hx
        · omega
        · exact hh x hx
      · exact fun hh x hx=>hh x (by simp [hx])
    · have e:comb F last (t::ts)=⟨t,F t⟩::comb F (F t) ts:=by simp only [comb]; rw [if_pos hc]
      rw [e]
      constructor
      · intro hh
        have h1:=hh ⟨t,F t⟩ (by simp)
        dsimp only at h1
        have h2:=(comb_le (F:=F) (ts:=ts) h1).1 (fun x hx=>hh x (by simp [hx]))
        intro x hx
        rcases List.mem_cons.1 hx with rfl|hx
        · exact h1
        · exact h2 x hx
      · intro hh
        have h1:=hh t (by simp)
        have h2:=(comb_le (F:=F) (ts:=ts) h1).2 (fun x hx=>hh x (by simp [hx]))
        intro x hx
        rcases List.mem_cons.1 hx with rfl|hx
        · exact h1
        · exact h2 x hx
theorem stored_mono {n t s:Int}:∀ {l:List Hd},(∀ g∈l,0≤g.s∧(g.n=n→g.a≤t→t<g.b→g.a≤s∧s<g.b))→stored l n t≤stored l n s
  | [],_=>by simp [stored]
  | g::l,H=>by
    have ih:=stored_mono (l:=l) (fun x hx=>H x (by simp [hx]))
    obtain ⟨h1,h2⟩:=H g (by simp)
    simp only [stored]
    by_cases c:g.n=n∧g.a≤t∧t<g.b
    · have:=h2 c.1 c.2.1 c.2.2
      rw [if_pos c,if_pos ⟨c.1,this⟩]; omega
    · rw [if_neg c]; split <;> omega
theorem last_active {n t:Int}:∀ (l:List Hd),(∀ g∈l,g.n=n→¬ (g.a≤t∧t<g.b))∨∃ h∈l,h.n=n∧h.a≤t∧∀ g∈l,g.n=n→g.a≤t→t<g.b→g.a≤h.a
  | []=>.inl (by simp)
  | g::l=>by
    rcases last_active (n:=n) (t:=t) l with h|⟨h,hl,h1,h2,h3⟩
    · by_cases c:g.n=n∧g.a≤t∧t<g.b
      · refine .inr ⟨g,by simp,c.1,c.2.1,fun x hx k1 k2 k3=>?_⟩
        rcases List.mem_cons.1 hx with rfl|hx
        · exact Int.le_refl _
        · exact absurd ⟨k2,k3⟩ (h x hx k1)
      · refine .inl (fun x hx k1 k2=>?_)
        rcases List.mem_cons.1 hx with rfl|hx
        · exact c ⟨k1,k2⟩
        · exact h x hx k1 k2
    · by_cases c:(g.n=n∧g.a≤t∧t<g.b)∧h.a<g.a
      · refine .inr ⟨g,by simp,c.1.1,c.1.2.1,fun x hx k1 k2 k3=>?_⟩
        rcases List.mem_cons.1 hx with rfl|hx
        · exact Int.le_refl _
        · have:=h3 x hx k1 k2 k3; omega
      · refine .inr ⟨h,by simp [hl],h1,h2,fun x hx k1 k2 k3=>?_⟩
        rcases List.mem_cons.1 hx with rfl|hx
        · omega
        · exact h3 x hx k1 k2 k3
theorem most_fits {l:List Hd} {n Q:Int} {nq:Nat} (hok:∀ h∈l,okHd nq h) (hQ:0≤Q):mostL (lvH l n)≤Q↔∀ h∈l,h.n=n→stored l n h.a≤Q:=by
  unfold lvH;rw [mostL_le hQ,comb_le hQ]
  obtain ⟨h1,h2⟩:=hts_sa l n
  constructor
  · exact fun H h hl hn=>H _ ((h2 _).2 (mem_tmH.2 ⟨h,hl,hn,.inl rfl⟩))
  · intro H t ht
    rcases last_active (n:=n) (t:=t) l with c|⟨h,hl,k1,k2,k3⟩
    · have:stored l n t≤stored l n (-1):=stored_mono (fun g hg=>⟨by have:=(hok g hg).2.2.1; omega,fun a b d=>absurd ⟨b,d⟩ (c g hg a)⟩)
      have e0:stored l n (-1)=0:=stored_early (fun h hl hn=>by have:=(hok h hl).2.1; omega)
      omega
    · have:stored l n t≤stored l n h.a:=stored_mono (fun g hg=>⟨by have:=(hok g hg).2.2.1; omega,fun a b d=>⟨k3 g hg a b d,by omega⟩⟩)
      have:=H h hl k1
      omega
end Go.Step
namespace Go.Proofs.YtglifndogffmkaaGreat
open Go.Eng Go.Step
set_option maxRecDepth 100000
set_option maxHeartbeats 64000000
theorem chkPl_quo {qs:List Int} {cs:List Ct} (h:chkPl qs cs=0):(1≤qs.length∧qs.length≤16)∧∀ (j:Nat) (q:Int),qs[j]?=some q→0≤q∧q≤1073741824:=by
 unfold chkPl at h
 split at h
 ·omega
 ·rename_i hl
  split at h
  ·rename_i h2; exact absurd h h2
  ·rename_i h2
   have h3:firstE (quoE qs) qs.length=0:=Decidable.not_not.1 h2
   refine ⟨by omega,fun j q hj=>?_⟩
   have:=firstE_zero h3 j (List.getElem?_eq_some_iff.1 hj).1
   rw [quoE_at hj] at this
   split at this <;> omega
theorem fit_all {qs:List Int} {l:List Hd} (hok:∀ h∈l,okHd qs.length h) (hq:∀ (j:Nat) (q:Int),qs[j]?=some q→0≤q∧q≤1073741824) (H:∀ (j:Nat) (q:Int),qs[j]?=some q→mostL (lvH l j)≤q):fitB qs l=true:=
 List.all_eq_true.2 (fun h hm=>decide_eq_true (by
  have hn:=(hok h hm).1
  obtain ⟨nn,hnn⟩:=Int.eq_ofNat_of_zero_le hn.1
  have hx:=List.getElem?_eq_getElem (show nn<qs.length by omega)
  have:=(most_fits hok (hq nn _ hx).1).1 (H nn _ hx) h hm hnn
  rw [hnn,Int.toNat_natCast,List.getD_eq_getElem?_getD,hx]
  exact this))
theorem fit_bad {qs:List Int} {l:List Hd} (hok:∀ h∈l,okHd qs.length h) {j:Nat} {q:Int} (hj:qs[j]?=some q) (hq:0≤q) (H:q<mostL (lvH l j)):fitB qs l=false:=by
 cases hf:fitB qs l with
 | false=>rfl
 | true =>
  exfalso
  have:mostL (lvH l j)≤q:=(most_fits hok hq).2 (fun h hm hn=>by
   have:=of_decide_eq_true (List.all_eq_true.1 hf h hm)
   rw [hn,Int.toNat_natCast,List.getD_eq_getElem?_getD,hj] at this
   exact this)
  omega
theorem lvH_len (l:List Hd) (n:Int):(lvH l n).length≤2*l.length:=by
 have:=comb_len (Step.stored l n) (hts l n) 0
 have:=hts_len2 l n
 unfold lvH; omega
theorem check28_spec (ρ τ σ:PH) (pq pc:Option Addr) (kq kc:Nat) (qs:List Int) (cs:List Ct) (v:Value) (l:List Hd) (hq:IntsAt ρ (.slice pq qs.length kq) qs) (hc:CtAt τ (.slice pc cs.length kc) cs) (hcap:cs.length≤kc) (lq:qs.length≤9223372036854775807) (lc:cs.length≤9223372036854775807) (hv:HdAt σ v l) (hl:l.length≤9223372036854775807) :
  Ans Tryz.prog (fv 108) [.agg #[.slice pq qs.length kq,.slice pc cs.length kc],v] [ρ,τ,σ] (fun r=>r=int (chkH qs cs l)):=by
 have hv2:=hv
 obtain ⟨q,c,rfl,hr⟩:=hv.val encH_len
 obtain ⟨_,_,e,hrq⟩:=hq.val Eng.encI_len
 simp only [Value.slice.injEq] at e
 obtain ⟨rfl,_,rfl⟩:=e
 refine spec_in (cap:=[]) Tryz.func108 rfl rfl Tryz.ntmps108 rfl envZ (fun N β=>?_)
 refine Aa ?_;refine BH (BI rfl) rfl rfl rfl ?_;rintro _ _ ⟨b1,rfl,rfl⟩;refine AQ (ρ:=sng b1 _) takeZ ?_
 have c1:RdN (sng b1 (.cells #[.slice pq qs.length kq,.slice pc cs.length kc] 25 (0,0))) b1 0 [.slice pq qs.length kq,.slice pc cs.length kc]:=fun j u hu=>by rw [rdc_sng,Nat.zero_add]; simpa using hu
 have bx58_3:=rdB b1 25 [.slice pq qs.length kq,.slice pc cs.length kc]
 have c10:=rdC bx58_3 0
 refine Adg ?_;refine AZ (planCheck_spec ρ τ pq pc kq kc qs cs hq hc hcap lq lc) rfl rfl rdZ rfl rfl ?_;rintro _ rfl;unfold chkH
 by_cases hp:chkPl qs cs=0
 rotate_left
 ·rw [if_pos hp]
  generalize chkPl qs cs=z at hp
  refine C3 ?_;refine Abt ?_;exact A3 ⟨rfl,rfl⟩
 obtain ⟨hql,hquo⟩:=chkPl_quo hp
 rw [if_neg (fun h=>h hp),hp]
 by_cases hbig:512<l.length
 ·rw [if_pos hbig]
  refine BO ?_;refine Ab6 ?_;refine Adh ?_;refine Abt ?_;exact A3 ⟨rfl,rfl⟩
 rw [if_neg hbig];refine BO ?_;refine Ab6 ?_;refine Acq ?_;refine Ab6 ?_;refine Abk ?_
 refine BF [1,2,15,16] (0:Nat) (fun k=>k≤l.length∧firstE (hdE qs.length l) k=0) (fun k=>[(17,int k)]) (fun _=>[]) (fun k=>l.length-k) pickZ ⟨by omega,rfl⟩ covZ selZ ?_
 rintro k ⟨hk,hI⟩
 by_cases hlt:k<l.length
 ·have hx:=List.getElem?_eq_getElem hlt
  obtain ⟨b2,o2,rfl,hrd,_⟩:=hdRow5 hr hx
  have hE:=hdE_at (nq:=qs.length) hx
  generalize l[k]=h at hrd hE
  have hva:=valid28_spec (.slice pq qs.length kq) (.slice pc cs.length kc) ρ qs kq pq h rfl rfl
  refine Aa7 ?_;refine Aab ?_;refine Abb ?_;refine A4 ?_; rintro _ _ ⟨b,rfl,rfl⟩;refine AD ?_;refine AW ?_; rintro _ _ ⟨rfl,rfl⟩;refine Aam ?_;refine Ac ?_
  revert b; intro b6
  refine AZ hva rfl rfl rdZ rfl rfl ?_;rintro _ rfl
  by_cases hok:okHd qs.length h
  rotate_left
  ·rw [if_pos hok] at hE
   have hh:=firstE_hit hI (by rw [hE]; decide) _ hlt
   rw [if_pos (by rw [hh,hE]; decide),hh,hE,decide_eq_false hok]
   refine B6 ?_;refine Abt ?_;exact A3 ⟨rfl,rfl⟩
  rw [if_neg (fun hh=>hh hok)] at hE
  rw [decide_eq_true hok];refine B6 ?_;refine Aa6 ?_
  by_cases h0:k=0
  ·subst h0
   rw [if_neg (by omega)] at hE
   refine BD P0Z [sng b6 _] rfl (by kernel_rfl) selZ ?_
   refine AM ?_;refine C6 ?_;refine Acz ?_;refine BR ?_;refine Acs ?_;refine Aa3 ?_
   exact AY (0+1) ⟨by omega,firstE_ok hI hE⟩ (by omega) covZ selZ
  ·have hlt':k-1<l.length:=by omega
   have hx':=List.getElem?_eq_getElem hlt'
   obtain ⟨_,_,e,hrd',_⟩:=hdRow5 hr hx'
   simp only [Option.some.injEq,Addr.mk.injEq,and_true] at e
   obtain ⟨rfl,rfl⟩:=e
   rw [List.getD_eq_getElem?_getD,hx',Option.getD_some] at hE
   generalize l[k-1]=g at hrd' hE
   have hle:=compare_spec g h
   generalize cmpHd g h=z at hle hE
   refine BD (.q 0 (.q 1 (.q 2 (.q 3 (.q 4 (.q 5 (.q 6 (.q 7 (.q 8 (.l 9 .e (.q 10 (.q 11 .nil)))))))))))) [sng b6 _] rfl (by kernel_rfl) selZ ?_
   refine AM ?_;refine E2 ?_;refine Ac1 ?_;refine BX ?_;refine Abc ?_;refine A8 ?_;refine B4 (BP rfl hle rfl rfl rdZ rfl rfl ?_);rintro _ rfl
   by_cases hc9:0<z
   ·rw [if_pos (by omega)] at hE
    have hh:=firstE_hit hI (by rw [hE]; decide) _ hlt
    rw [if_pos (by rw [hh,hE]; decide),hh,hE]
    refine E2 ?_;refine Adl ?_;refine Aaq ?_;exact A3 ⟨rfl,rfl⟩
   ·rw [if_neg (by omega)] at hE
    refine C6 ?_;refine BN ?_;refine Acs ?_;refine Aa3 ?_
    exact AY (k+1) ⟨by omega,firstE_ok hI hE⟩ (by omega) covZ selZ
 have hke:k=l.length:=by omega
 subst hke
 have hok:=hdE_ok hI
 rw [List.take_length] at hok
 rw [if_neg (by rw [hI]; simp)]
 clear hI hk hlt;refine Abl ?_;refine AC ?_;refine Aan ?_;refine Abk ?_
 refine BF [1,40,41] (0:Nat) (fun k=>k≤qs.length∧∀ (j:Nat) (q:Int),j<k→qs[j]?=some q→mostL (lvH l j)≤q) (fun k=>[(42,int k)]) (fun _=>[]) (fun k=>qs.length-k) pickZ ⟨by omega,fun j q h=>by omega⟩ covZ selZ ?_
 rintro k ⟨hk,hI⟩
 by_cases hlt:k<qs.length
 ·have hx:=List.getElem?_eq_getElem hlt
  obtain ⟨b2,o2,rfl,g1⟩:=hrq.int hx
  have hq0:=hquo k _ hx
  have hbad:=@fit_bad qs l hok k _ hx hq0.1
  have hnext:mostL (lvH l k)≤qs[k]→∀ (j:Nat) (q:Int),j<k+1→qs[j]?=some q→mostL (lvH l j)≤q:=fun hle j q hj hjq=>by
   by_cases e:j=k
   ·subst e; rw [hx] at hjq; injection hjq with hjq; rw [← hjq]; exact hle
   ·exact hI j q (by omega) hjq
  generalize qs[k]=qv at g1 hbad hnext
  refine Aa7 ?_;refine Aab ?_;refine Ac7 ?_;refine Ab ?_;refine Aag ?_
  refine CJ (levels_spec σ _ l k qs.length hv2 hok (by omega)) rfl rfl rdZ rfl rfl ?_
  rintro ul σl hOl
  have hL:LvAt σl ul (lvH l k):=hOl.at
  have hll:=lvH_len l k
  refine AZ (most_spec σl ul (lvH l k) hL (by omega)) rfl rfl rdZ rfl rfl ?_
  rintro _ rfl
  generalize mostL (lvH l k)=mv at hbad hnext
  by_cases hcq:qv<mv
  ·rw [hbad hcq]
   refine AB ?_;refine CS ?_;refine Abt ?_;exact A3 ⟨rfl,rfl⟩
  ·have hn2:=hnext (by omega)
   refine AB ?_;refine BW ?_;refine Acg ?_
   exact AY (k+1) ⟨by omega,hn2⟩ (by omega) covZ selZ
 have hke:k=qs.length:=by omega
 subst hke
 rw [fit_all hok hquo (fun j q hj=>hI j q (List.getElem?_eq_some_iff.1 hj).1 hj)]
 refine Abl ?_;refine Aaq ?_;exact A3 ⟨rfl,rfl⟩
end Go.Proofs.YtglifndogffmkaaGreat
namespace Go.Step
def frA (Q s:Int) (st:Int × List (Int × Int)) (t v:Int):Int × List (Int × Int):=
  if Q-v<s then (-1,if 0≤st.1∧st.1<t then st.2 ++ [(st.1,t)] else st.2) else (if st.1<0 then t else st.1,st.2)
def frL (Q s:Int) (st:Int × List (Int × Int)) (x:Lv):Int × List (Int × Int):=if x.a<1099511627776 then frA Q s st x.a x.v else st
def finA (st:Int × List (Int × Int)):List (Int × Int):=if 0≤st.1∧st.1<1099511627776 then st.2 ++ [(st.1,1099511627776)] else st.2
def freeP (Q s:Int) (f:List Lv):List (Int × Int):=finA (f.foldl (frL Q s) (frA Q s (-1,[]) 0 0))
def frB (Q s:Int) (st:(Int × Bool) × List (Int × Int)) (x:Lv):(Int × Bool) × List (Int × Int):=
  ((if s≤Q-x.v∧st.1.2=false then x.a else st.1.1,decide (s≤Q-x.v)),if st.1.2=true∧Q-x.v<s∧st.1.1<x.a then st.2 ++ [(st.1.1,x.a)] else st.2)
def finB (st:(Int × Bool) × List (Int × Int)):List (Int × Int):=if st.1.2=true∧st.1.1<1099511627776 then st.2 ++ [(st.1.1,1099511627776)] else st.2
structure RlF (A:Int × List (Int × Int)) (B:(Int × Bool) × List (Int × Int)):Prop where
  o:A.2=B.2
  p:0≤B.1.1
  f:A.1=if B.1.2=true then B.1.1 else -1
theorem RlF.step {Q s:Int} {A:Int × List (Int × Int)} {B:(Int × Bool) × List (Int × Int)} (h:RlF A B) {x:Lv} (h0:0≤x.a):RlF (frA Q s A x.a x.v) (frB Q s B x):=by
  obtain ⟨a1,a2⟩:=A
  obtain ⟨⟨b1,b2⟩,b3⟩:=B
  obtain ⟨h1,h2,h3⟩:=h
  dsimp only at h1 h2 h3
  subst h1;unfold frA frB
  dsimp only
  by_cases hr:Q-x.v<s
  · rw [if_pos hr]
    have hd:decide (s≤Q-x.v)=false:=decide_eq_false (by omega)
    cases b2 with
    | true =>
      simp only [if_true] at h3;subst h3;refine ⟨?_,?_,?_⟩
      · dsimp only
        by_cases hl:a1<x.a
        · rw [if_pos ⟨h2,hl⟩,if_pos ⟨rfl,hr,hl⟩]
        · rw [if_neg (by omega),if_neg (by omega)]
      · dsimp only; rw [if_neg (by simp)]; exact h2
      · dsimp only; rw [hd]; rfl
    | false =>
      have h3':a1 = -1:=by simpa using h3
      subst h3';refine ⟨?_,?_,?_⟩
      · dsimp only
        rw [if_neg (by omega),if_neg (by simp)]
      · dsimp only; rw [if_neg (by omega)]; exact h2
      · dsimp only; rw [hd]; rfl
  · rw [if_neg hr]
    have hd:decide (s≤Q-x.v)=true:=decide_eq_true (by omega)
    cases b2 with
    | true =>
      simp only [if_true] at h3;subst h3;refine ⟨?_,?_,?_⟩
      · dsimp only; rw [if_neg (by omega)]
      · dsimp only; rw [if_neg (by simp)]; exact h2
      · dsimp only; rw [hd,if_pos rfl,if_neg (by omega),if_neg (by simp)]
    | false =>
      have h3':a1 = -1:=by simpa using h3
      subst h3';refine ⟨?_,?_,?_⟩
      · dsimp only; rw [if_neg (by simp)]
      · dsimp only; rw [if_pos ⟨by omega,rfl⟩]; exact h0
      · dsimp only; rw [hd,if_pos rfl,if_pos (by omega),if_pos ⟨by omega,rfl⟩]
theorem RlF.fin {A:Int × List (Int × Int)} {B:(Int × Bool) × List (Int × Int)} (h:RlF A B):finA A=finB B:=by
  obtain ⟨a1,a2⟩:=A
  obtain ⟨⟨b1,b2⟩,b3⟩:=B
  obtain ⟨h1,h2,h3⟩:=h
  dsimp only at h1 h2 h3
  subst h1;unfold finA finB
  dsimp only
  cases b2 with
  | true =>
    simp only [if_true] at h3;subst h3
    by_cases hl:a1<1099511627776
    · rw [if_pos ⟨h2,hl⟩,if_pos ⟨rfl,hl⟩]
    · rw [if_neg (by omega),if_neg (by omega)]
  | false =>
    have h3':a1 = -1:=by simpa using h3
    subst h3'
    rw [if_neg (by omega),if_neg (by simp)]
theorem RlF.last {Q s:Int} {A:Int × List (Int × Int)} {B:(Int × Bool) × List (Int × Int)} (h:RlF A B) {x:Lv} (hx:x.a=1099511627776):finA A=finB (frB Q s B x):=by
  obtain ⟨a1,a2⟩:=A
  obtain ⟨⟨b1,b2⟩,b3⟩:=B
  obtain ⟨h1,h2,h3⟩:=h
  dsimp only at h1 h2 h3
  subst h1;unfold finA finB frB
  dsimp only
  rw [hx]
  by_cases hr:Q-x.v<s
  · have hd:decide (s≤Q-x.v)=false:=decide_eq_false (by omega)
    rw [hd]
    cases b2 with
    | true =>
      simp only [if_true] at h3;subst h3
      by_cases hl:a1<1099511627776
      · rw [if_pos ⟨h2,hl⟩,if_neg (by simp),if_pos ⟨rfl,hr,hl⟩]
      · rw [if_neg (by omega),if_neg (by simp),if_neg (by omega)]
    | false =>
      have h3':a1 = -1:=by simpa using h3
      subst h3'
      rw [if_neg (by omega),if_neg (by simp),if_neg (by simp)]
  · have hd:decide (s≤Q-x.v)=true:=decide_eq_true (by omega)
    rw [hd]
    cases b2 with
    | true =>
      simp only [if_true] at h3;subst h3
      rw [if_neg (by simp:¬ (s≤Q-x.v∧true=false)),if_neg (by omega:¬ (true=true∧Q-x.v<s∧a1<1099511627776))]
      by_cases hl:a1<1099511627776
      · rw [if_pos ⟨h2,hl⟩,if_pos ⟨rfl,hl⟩]
      · rw [if_neg (by omega),if_neg (by omega)]
    | false =>
      have h3':a1 = -1:=by simpa using h3
      subst h3'
      rw [if_pos (⟨by omega,rfl⟩:s≤Q-x.v∧false=false),if_neg (by omega),if_neg (by omega),if_neg (by simp)]
theorem frA_len (Q s:Int) (st:Int × List (Int × Int)) (t v:Int):(frA Q s st t v).2.length≤st.2.length+1:=by
  unfold frA
  split
  · dsimp only; split <;> simp
  · dsimp only; omega
theorem frL_len (Q s:Int) (st:Int × List (Int × Int)) (x:Lv):(frL Q s st x).2.length≤st.2.length+1:=by
  unfold frL
  split
  · exact frA_len ..
  · omega
def frS (Q s:Int) (f:List Lv) (k:Nat):Int × List (Int × Int):=(f.take k).foldl (frL Q s) (frA Q s (-1,[]) 0 0)
theorem frS_next (Q s:Int) {f:List Lv} {k:Nat} {x:Lv} (h:f[k]?=some x):frS Q s f (k+1)=frL Q s (frS Q s f k) x:=by
  obtain ⟨hk,rfl⟩:=List.getElem?_eq_some_iff.1 h
  unfold frS;rw [List.take_succ_eq_append_getElem hk,List.foldl_append]; rfl
theorem frS_len (Q s:Int) (f:List Lv):∀ k,(frS Q s f k).2.length≤k+1
  | 0=>by
    have:=frA_len Q s (-1,[]) 0 0
    unfold frS; simpa using this
  | k+1=>by
    have ih:=frS_len Q s f k
    by_cases h:k<f.length
    · rw [frS_next Q s (List.getElem?_eq_getElem h)]
      have:=frL_len Q s (frS Q s f k) f[k]
      omega
    · have e:frS Q s f (k+1)=frS Q s f k:=by unfold frS; rw [List.take_of_length_le (by omega),List.take_of_length_le (by omega)]
      rw [e]; omega
theorem comb_mem {F:Int→Int}:∀ {ts:List Int} {last:Int} {x:Lv},x∈comb F last ts→x.v=F x.a∧x.a∈ts
  | [],_,x,h=>by simp [comb] at h
  | t::ts,last,x,h=>by
    simp only [comb] at h
    split at h
    · rcases List.mem_cons.1 h with rfl|h
      · exact ⟨rfl,by simp⟩
      · have:=comb_mem h
        exact ⟨this.1,by simp [this.2]⟩
    · have:=comb_mem h
      exact ⟨this.1,by simp [this.2]⟩
theorem lvH_ok {l:List Hd} {n:Int} {nq:Nat} (hok:∀ h∈l,okHd nq h) (hl:l.length≤600):chkL (-1) 0 (lvH l n)=0:=by
  unfold lvH
  obtain ⟨h1,h2⟩:=hts_sa l n
  refine comb_chk h1 (fun t ht=>?_)
  obtain ⟨h,hm,_,hx⟩:=mem_tmH.1 ((h2 t).1 ht)
  have hv:=(hok h hm).2.1
  have hb:=stored_bd (n:=n) (t:=t) hok
  unfold okV
  rcases hx with rfl|rfl <;> omega
theorem lvH_asc {l:List Hd} {n:Int} {nq:Nat} (hok:∀ h∈l,okHd nq h) (hl:l.length≤600):AscT (-1) (lvH l n):=(chkL_asc _ _ _ (lvH_ok hok hl)).t
def freeRes (qs:List Int) (cs:List Ct) (l:List Hd) (n s:Int):List (Int × Int) × Int:=
  if chkH qs cs l≠0 then ([],1) else if n<0∨(qs.length:Int)≤n∨s<1∨65536<s then ([],2) else (freeP (qs.getD n.toNat 0) s (lvH l n),0)
end Go.Step
namespace Go.Eng
variable {C:Cx} {D:List Deferred} {R H:List PH} {L:Env} {K:List It}
variable {dst:Option Tmp} {ty:TypeId} {pos:String} {aft:Array Edge} {g:Option (Nat × Bool)}
theorem OwnS.cells_at {e:TypeId} {s n b cap:Nat} {xs:List Value} {ρ:PH} (h:OwnS e s (.slice (some ⟨b,0,none⟩) n cap) n xs ρ):∃ cur,ρ=sng b (.cells cur e (0,0))∧n≤cap∧cap≤maxLen∧cur.size=cap*s∧cur.toList.take (n*s)=xs:=by
  obtain ⟨_,⟨h1,_⟩|⟨b',cap',cur,h1,rfl,h2,h3,h4,h5⟩⟩:=h
  · simp at h1
  · simp only [Value.slice.injEq,Option.some.injEq,Addr.mk.injEq,and_true,true_and] at h1
    obtain ⟨rfl,rfl⟩:=h1
    exact ⟨cur,rfl,h2,h3,h4,h5⟩
theorem FN {x:Operand} {t e:TypeId} {s by_:Nat} {z:Value} {b n cap m c2:Nat} {xs:List Value} {ρ:PH} {H':List PH}
    (hx:evalE L x=some (.slice (cutP (some ⟨b,0,none⟩) cap n s) m c2)) (ht:elemP C.P t=some e) (hs:szP C.P e=some s) (hz:zeroP C.P e=some z) (hb:bytesP C.P e=some by_) (hzs:z.cells.size=s) (hz1:∀ u∈z.cells.toList,u.oneCell'=true)
    (hown:OwnS e s (.slice (some ⟨b,0,none⟩) n cap) n xs ρ) (htk:Take ρ H H') (hm:0<m) (hnm:n+m≤cap) :
    Loud C R H L ⟨dst,.call ⟨.builtin .clear,#[x],#[t]⟩,ty,pos,aft,g⟩ (fun u H2=>u=.tuple #[]∧∃ ρ',OwnS e s (.slice (some ⟨b,0,none⟩) n cap) n xs ρ'∧H2=ρ'::H'):=by
  refine ⟨fun a w hxx hsat next Q hnx=>?_⟩
  have hxl:xs.length=n*s:=hown.1
  obtain ⟨cur,rfl,hnc,hcm,hcs,htk2⟩:=hown.cells_at
  obtain ⟨ti,hi,rfl,hiz,rfl⟩:=info_of hs hz hb
  have htu:=und_elem ht
  have e1:=hxx x (by simp [Op.operands,Call.operands]) _ hx
  have hg:w.heap[b]?=some (.cells cur e (0,0)):=hsat.own htk
  have hcut:cutP (some ⟨b,0,none⟩) cap n ti.size=some ⟨b,n*ti.size,none⟩:=by
    unfold cutP
    rw [if_neg (by omega)]
    simp [addr_add]
  have hle3:(n+m)*ti.size≤cap*ti.size:=Nat.mul_le_mul_right _ hnm
  have hzl:(Builtin.zeroCells z.cells m).toList.length=m*ti.size:=by rw [Array.length_toList,size_zeroCells,hzs]
  have hone:∀ v∈(Builtin.zeroCells z.cells m).toList,v.oneCell'=true:=by
    intro v hv
    simp only [Builtin.zeroCells,Array.toList_map,List.mem_map] at hv
    obtain ⟨q,hq,rfl⟩:=hv
    have h0:0<z.cells.size:=by
      rcases Nat.eq_zero_or_pos z.cells.size with h|h
      · simp [h] at hq
      · exact h
    have hlt:q % z.cells.size<z.cells.size:=Nat.mod_lt _ h0
    rw [getElem!_pos z.cells _ hlt]
    exact hz1 _ (by simp)
  have hst:=run_storeCells_at C.P b (n*ti.size) e (Builtin.zeroCells z.cells m).toList 0 cur w hg (by rw [hzl,hcs,Nat.add_zero,← Nat.add_mul]; exact hle3) hone
  have hm0:m≠0:=by omega
  have hr:(Builtin.clear_ #[t] ty #[.slice (some ⟨b,n*ti.size,none⟩) m c2]).run C.P w=.ok (.tuple #[]) (w.setRow b (cur.toList.take (n*ti.size+0) ++ (Builtin.zeroCells z.cells m).toList ++ cur.toList.drop (n*ti.size+0+(Builtin.zeroCells z.cells m).toList.length)).toArray):=by
    obtain ⟨m',rfl⟩:∃ m',m=m'+1:=⟨m-1,by omega⟩
    simp [Builtin.clear_,run_underlying htu,zeroValue,typeInfo,hi,hiz]
    simpa using congrArg (fun r=>r.andThen fun _ w'=>Result.ok (Value.tuple #[]) w') hst
  rw [hcut] at e1
  generalize hnew:(cur.toList.take (n*ti.size+0) ++ (Builtin.zeroCells z.cells m).toList ++ cur.toList.drop (n*ti.size+0+(Builtin.zeroCells z.cells m).toList.length)).toArray=new at hr
  have hexec:(execOp a.eval ⟨dst,.call ⟨.builtin .clear,#[x],#[t]⟩,ty,pos,aft,g⟩).run C.P w=.ok (.value (.tuple #[])) (w.setRow b new):=by
    simp [execOp,resolve,e1,invoke,builtin,hr]
  refine wpIn_value (by intro c; simp) hexec (hnx _ _ _ ⟨rfl,_,⟨hxl,.inr ⟨b,cap,new,rfl,rfl,hnc,hcm,?_,?_⟩⟩,rfl⟩ (hsat.turn htk ?_ (setRow_heap w b cur _ e _ hg) (fun k hk=>setRow_other w b k _ hk)))
  · rw [← hnew]
    simp only [List.size_toArray,List.length_append,List.length_take,List.length_drop,Array.length_toList] at hzl ⊢;rw [Nat.add_mul] at hle3;omega
  · rw [← hnew]
    simp only;rw [Nat.add_zero,htk2,List.append_assoc,← hxl];exact List.take_left
  · simp
end Go.Eng
namespace Go.Eng
variable {C:Cx} {D:List Deferred} {R H:List PH} {L:Env} {K:List It}
variable {dst:Option Tmp} {ty:TypeId} {pos:String} {aft:Array Edge} {g:Option (Nat × Bool)}
end Go.Eng
namespace Go.Eng
def insL {α:Type} (l:List α) (k:Nat) (h:α):List α:=l.take k ++ h::l.drop k
theorem insL_len {α:Type} (l:List α) (k:Nat) (h:α):(insL l k h).length=l.length+1:=by
  unfold insL;simp only [List.length_append,List.length_take,List.length_cons,List.length_drop];omega
theorem rdN_sng {b:Nat} {vs:List Value} {t:TypeId} {fr:Nat × Nat}:RdN (sng b (.cells vs.toArray t fr)) b 0 vs:=fun j v hv=>by
  rw [rdc_sng,Nat.zero_add]
  simpa using hv
end Go.Eng
namespace Go.Step
open Go.Eng
def insW {α:Type} (p:α→Bool) (l:List α) (h:α):List α:=l.takeWhile p ++ h::l.dropWhile p
def leH (x y:Hd):Prop:=x.n<y.n∨(x.n=y.n∧(x.a<y.a∨(x.a=y.a∧(x.b<y.b∨(x.b=y.b∧(x.k<y.k∨(x.k=y.k∧x.s≤y.s)))))))
theorem cmpI_cases (a b:Int):(a<b∧cmpI a b = -1)∨(a=b∧cmpI a b=0)∨(b<a∧cmpI a b=1):=by
  unfold cmpI
  by_cases h:a<b
  · exact .inl ⟨h,by rw [if_pos h]⟩
  · by_cases h2:b<a
    · exact .inr (.inr ⟨h2,by rw [if_neg h,if_pos h2]⟩)
    · exact .inr (.inl ⟨by omega,by rw [if_neg h,if_neg h2]⟩)
theorem orI_cmp (a b:Int) (l:List Int):(a<b∧orI (cmpI a b::l) = -1)∨(a=b∧orI (cmpI a b::l)=orI l)∨(b<a∧orI (cmpI a b::l)=1):=by
  have e:orI (cmpI a b::l)=if cmpI a b≠0 then cmpI a b else orI l:=rfl
  rcases cmpI_cases a b with ⟨h1,h2⟩|⟨h1,h2⟩|⟨h1,h2⟩
  · exact .inl ⟨h1,by rw [e,h2]; rfl⟩
  · exact .inr (.inl ⟨h1,by rw [e,h2]; rfl⟩)
  · exact .inr (.inr ⟨h1,by rw [e,h2]; rfl⟩)
theorem cmpHd_le (x y:Hd):cmpHd x y≤0↔leH x y:=by
  unfold cmpHd leH
  rcases orI_cmp x.n y.n [cmpI x.a y.a,cmpI x.b y.b,cmpI x.k y.k,cmpI x.s y.s] with ⟨h1,e⟩|⟨h1,e⟩|⟨h1,e⟩
  · rw [e]; omega
  · rw [e]
    rcases orI_cmp x.a y.a [cmpI x.b y.b,cmpI x.k y.k,cmpI x.s y.s] with ⟨h2,e⟩|⟨h2,e⟩|⟨h2,e⟩
    · rw [e]; omega
    · rw [e]
      rcases orI_cmp x.b y.b [cmpI x.k y.k,cmpI x.s y.s] with ⟨h3,e⟩|⟨h3,e⟩|⟨h3,e⟩
      · rw [e]; omega
      · rw [e]
        rcases orI_cmp x.k y.k [cmpI x.s y.s] with ⟨h4,e⟩|⟨h4,e⟩|⟨h4,e⟩
        · rw [e]; omega
        · rw [e]
          rcases orI_cmp x.s y.s [] with ⟨h5,e⟩|⟨h5,e⟩|⟨h5,e⟩
          · rw [e]; omega
          · rw [e]; simp only [orI]; omega
          · rw [e]; omega
        · rw [e]; omega
      · rw [e]; omega
    · rw [e]; omega
  · rw [e]; omega
theorem cmpHd_trans {x y z:Hd} (h1:cmpHd x y≤0) (h2:cmpHd y z≤0):cmpHd x z≤0:=by
  rw [cmpHd_le] at *;unfold leH at *;omega
theorem cmpHd_anti {x y:Hd} (h:cmpHd x y=0):x=y:=by
  have h1:=(cmpHd_le x y).1 (by omega)
  have h2:=(cmpHd_le y x).1 (by have:=cmpHd_neg x y; omega)
  unfold leH at *
  obtain ⟨a,b,c,d,e⟩:=x
  obtain ⟨a',b',c',d',e'⟩:=y
  simp only [Hd.mk.injEq] at *;omega
abbrev SortH (l:List Hd):Prop:=l.Pairwise (fun x y=>cmpHd x y≤0)
theorem sortH_of {nq:Nat} {l:List Hd} (h:firstE (hdE nq l) l.length=0):SortH l:=by
  rw [SortH,List.pairwise_iff_getElem]
  have step:∀ i (hi:i+1<l.length),cmpHd l[i] l[i+1]≤0:=fun i hi=>by
    have h2:=firstE_zero h (i+1) hi
    rw [hdE_at (List.getElem?_eq_getElem hi)] at h2
    have e:l.getD (i+1-1) l[i+1]=l[i]:=by simp [List.getD_eq_getElem?_getD,List.getElem?_eq_getElem (by omega:i<l.length)]
    rw [e] at h2
    by_cases c:okHd nq l[i+1]
    · rw [if_neg (by simpa using c)] at h2
      by_cases c2:0<cmpHd l[i] l[i+1]
      · rw [if_pos ⟨by omega,c2⟩] at h2; omega
      · omega
    · rw [if_pos c] at h2; omega
  intro i j hi hj hij
  induction j with
  | zero=>omega
  | succ j ih =>
    by_cases c:i=j
    · subst c; exact step i hj
    · exact cmpHd_trans (ih (by omega) (by omega)) (step j hj)
theorem sortH_first {nq:Nat} {l:List Hd} (hok:∀ x∈l,okHd nq x) (hs:SortH l):firstE (hdE nq l) l.length=0:=by
  refine firstE_all (fun k hk=>?_)
  rw [hdE_at (List.getElem?_eq_getElem hk),if_neg (by simpa using hok _ (List.getElem_mem hk))]
  refine if_neg (fun ⟨h0,h1⟩=>?_)
  have e:l.getD (k-1) l[k]=l[k-1]:=by simp [List.getD_eq_getElem?_getD,List.getElem?_eq_getElem (by omega:k-1<l.length)]
  rw [e] at h1
  have:=List.pairwise_iff_getElem.1 hs (k-1) k (by omega) hk (by omega)
  omega
def insH (l:List Hd) (h:Hd):List Hd:=insW (fun x=>decide (cmpHd x h≤0)) l h
theorem insH_sort {l:List Hd} (hs:SortH l) (h:Hd):SortH (insH l h):=by
  have e:=List.takeWhile_append_dropWhile (p:=fun x=>decide (cmpHd x h≤0)) (l:=l)
  unfold insH insW
  have hs2:SortH (l.takeWhile (fun x=>decide (cmpHd x h≤0)) ++ l.dropWhile (fun x=>decide (cmpHd x h≤0))):=by rw [e]; exact hs
  obtain ⟨p1,p2,p3⟩:=List.pairwise_append.1 hs2
  have ht:∀ x∈l.takeWhile (fun x=>decide (cmpHd x h≤0)),cmpHd x h≤0:=fun x hx=>by
    have:=List.all_eq_true.1 (List.all_takeWhile (p:=fun x=>decide (cmpHd x h≤0)) (l:=l)) x hx
    simpa using this
  have hd:∀ x∈l.dropWhile (fun x=>decide (cmpHd x h≤0)),cmpHd h x≤0:=by
    generalize hm:l.dropWhile (fun x=>decide (cmpHd x h≤0))=m at *
    cases m with
    | nil=>simp
    | cons y m =>
      have hy:¬ cmpHd y h≤0:=by
        have:=List.head?_dropWhile_not (fun x=>decide (cmpHd x h≤0)) l
        rw [hm] at this
        simpa using this
      have hy2:cmpHd h y≤0:=by have:=cmpHd_neg h y; omega
      intro x hx
      rcases List.mem_cons.1 hx with rfl|hx
      · exact hy2
      · exact cmpHd_trans hy2 ((List.pairwise_cons.1 p2).1 x hx)
  refine List.pairwise_append.2 ⟨p1,List.pairwise_cons.2 ⟨hd,p2⟩,fun x hx y hy=>?_⟩
  rcases List.mem_cons.1 hy with rfl|hy
  · exact ht x hx
  · exact p3 x hx y hy
theorem stored_append (a b:List Hd) (n t:Int):stored (a ++ b) n t=stored a n t+stored b n t:=by
  induction a with
  | nil=>simp [stored]
  | cons h a ih=>simp only [List.cons_append,stored,ih]; omega
theorem fitB_iff {qs:List Int} {l:List Hd}:fitB qs l=true↔∀ h∈l,stored l h.n h.a≤qs.getD h.n.toNat 0:=by
  unfold fitB;rw [List.all_eq_true]
  simp
def addR (qs:List Int) (cs:List Ct) (l:List Hd) (h:Hd):List Hd × Int:=
  if chkH qs cs l≠0 then ([],1) else if ¬ okHd qs.length h then ([],2) else if l.length=512 then ([],4) else if fitB qs (insH l h) then (insH l h,0) else ([],15)
end Go.Step
namespace Go.Step
def nx (fr to:Int):List Lv→Int
  | []=>to
  | l::f=>if fr<l.a then min l.a to else nx fr to f
end Go.Step
namespace Go.Step
abbrev Pt:=(Int × Int) × Int
/-! times,merged -/
structure TInv (f g:List Lv) (i k:Nat) (out:List Int):Prop where
  sa:SA out
  mem:∀ x,x∈out↔∃ l∈f.take i ++ g.take k,l.a=x
  f:∀ x∈out,∀ l∈f.drop i,x≤l.a
  g:∀ x∈out,∀ l∈g.drop k,x≤l.a
def nextT (out:List Int) (t:Int):List Int:=if out=[]∨out.getD (out.length-1) 0≠t then out ++ [t] else out
theorem nextT_ok {out:List Int} {t:Int} (h:SA out) (hle:∀ x∈out,x≤t):SA (nextT out t)∧∀ x,x∈nextT out t↔x∈out∨x=t:=by
  unfold nextT
  by_cases hc:out=[]∨out.getD (out.length-1) 0≠t
  · rw [if_pos hc]
    refine ⟨List.pairwise_append.2 ⟨h,by simp,fun x hx y hy=>?_⟩,fun x=>by simp⟩
    simp at hy; subst hy
    rcases hc with rfl|hc
    · simp at hx
    · obtain ⟨i,hi,rfl⟩:=List.getElem_of_mem hx
      have hlast:out.length-1<out.length:=by omega
      have e:out.getD (out.length-1) 0=out[out.length-1]:=by simp [List.getD_eq_getElem?_getD,hlast]
      rw [e] at hc
      have h1:=hle out[out.length-1] (List.getElem_mem _)
      rcases Nat.lt_or_ge i (out.length-1) with h2|h2
      · have:=List.pairwise_iff_getElem.1 h i (out.length-1) hi hlast h2
        omega
      · have:i=out.length-1:=by omega
        subst this; omega
  · rw [if_neg hc]
    simp only [not_or,Classical.not_not] at hc
    refine ⟨h,fun x=>⟨.inl,?_⟩⟩
    rintro (hx|rfl)
    · exact hx
    · have:0<out.length:=List.length_pos_iff.2 hc.1
      rw [← hc.2]
      simp [List.getD_eq_getElem?_getD,show out.length-1<out.length by omega]
theorem TInv.zero (f g:List Lv):TInv f g 0 0 []:=⟨by simp,by simp,by simp,by simp⟩
theorem TInv.done {f g:List Lv} {out:List Int} (h:TInv f g f.length g.length out):out=tms f g:=by
  obtain ⟨h1,h2⟩:=tms_sa f g
  refine SA.unique h.sa h1 (fun x=>?_)
  rw [h.mem,h2,List.take_length,List.take_length]
theorem SA.len:∀ {out:List Int} {f:List Int},SA out→(∀ x∈out,x∈f)→out.length≤f.length
  | [],_,_,_=>by simp
  | x::out,f,h,hm=>by
    have p:=List.pairwise_cons.1 h
    have hx:=hm x (by simp)
    have:=SA.len (f:=f.erase x) p.2 (fun y hy=>by
      have h1:=hm y (by simp [hy])
      have h2:=p.1 y hy
      exact (List.mem_erase_of_ne (by omega)).2 h1)
    rw [List.length_erase_of_mem hx] at this
    have:0<f.length:=List.length_pos_iff.2 (fun e=>by subst e; simp at hx)
    simp; omega
theorem TInv.len {f g:List Lv} {i k:Nat} {out:List Int} (h:TInv f g i k out):out.length≤f.length+g.length:=by
  have:=SA.len (f:=(f ++ g).map (·.a)) h.sa (fun x hx=>by
    obtain ⟨l,hl,rfl⟩:=(h.mem x).1 hx
    rw [List.mem_map];refine ⟨l,?_,rfl⟩
    simp at hl ⊢
    rcases hl with hl|hl
    · exact .inl (List.mem_of_mem_take hl)
    · exact .inr (List.mem_of_mem_take hl))
  simpa using this
end Go.Step
namespace Go.Step
theorem AddR.err0 {f out:List Lv} {fr to d e:Int} (h:AddR f fr to d out e) (h0:chkS f=0) (hs:0≤fr∧fr≤to∧to≤1099511627776) (hd:-2251799813685248≤d∧d≤2251799813685248) (hv:∀ t,okV (val f t+if fr≤t∧t<to then d else 0)) (hl:f.length≤998):e=0:=by
  rcases h with ⟨a,_⟩|⟨_,a,_⟩|⟨_,_,_,_,_,a⟩|⟨a,b,c,x⟩
  · exact absurd h0 a
  · omega
  · exact a
  · rcases x with ⟨⟨t,_,ht⟩,_⟩|⟨_,hbig,_⟩|⟨_,_,_,he⟩
    · have:=hv t
      dsimp only at ht
      rw [bump_val fr to d t b.2.1] at ht;exact absurd this ht
    · have h1:=comb_len (fun t=>val f t+val (bump fr to d) t) (tms f (bump fr to d)) 0
      obtain ⟨hsa,hmem⟩:=tms_sa f (bump fr to d)
      have h2:=SA.len (f:=(f ++ bump fr to d).map (·.a)) hsa (fun x hx=>by
        obtain ⟨l,hl,rfl⟩:=(hmem x).1 hx
        exact List.mem_map.2 ⟨l,hl,rfl⟩)
      rw [List.length_map,List.length_append] at h2
      have:(bump fr to d).length=2:=rfl
      omega
    · exact he
end Go.Step
namespace Go.Step
theorem CombP.len {F:Int→Int} {ts:List Int} {out:List Lv} {e:Int} (h:CombP F ts out e):out.length≤1000:=by
  rcases h with ⟨_,rfl,_⟩|⟨_,_,rfl,_⟩|⟨_,h,rfl,_⟩
  · simp
  · simp
  · exact h
theorem AddR.len {f out:List Lv} {fr to d e:Int} (h:AddR f fr to d out e):out.length≤1000:=by
  rcases h with ⟨_,rfl,_⟩|⟨_,_,rfl,_⟩|⟨a,_,_,_,rfl,_⟩|⟨_,_,_,hP⟩
  · simp
  · simp
  · exact (chkS_ok a).1
  · exact hP.len
theorem SumR.len {f g out:List Lv} {e:Int} (h:SumR f g out e):out.length≤1000:=by
  rcases h with ⟨_,rfl,_⟩|⟨_,_,hP⟩
  · simp
  · exact hP.len
end Go.Step
namespace Go.Step
theorem tms_len (f g:List Lv):(tms f g).length≤f.length+g.length:=by
  obtain ⟨hsa,hmem⟩:=tms_sa f g
  have h2:=SA.len (f:=(f ++ g).map (·.a)) hsa (fun x hx=>by
    obtain ⟨l,hl,rfl⟩:=(hmem x).1 hx
    exact List.mem_map.2 ⟨l,hl,rfl⟩)
  rw [List.length_map,List.length_append] at h2;exact h2
theorem CombP.len2 {F:Int→Int} {ts:List Int} {out:List Lv} {e:Int} (h:CombP F ts out e):out.length≤ts.length:=by
  rcases h with ⟨_,rfl,_⟩|⟨_,_,rfl,_⟩|⟨_,_,rfl,_⟩
  · simp
  · simp
  · exact comb_len F ts 0
theorem AddR.len2 {f out:List Lv} {fr to d e:Int} (h:AddR f fr to d out e):out.length≤f.length+2:=by
  rcases h with ⟨_,rfl,_⟩|⟨_,_,rfl,_⟩|⟨a,_,_,_,rfl,_⟩|⟨_,_,_,hP⟩
  · simp
  · simp
  · omega
  · have:=hP.len2
    have:=tms_len f (bump fr to d)
    have:(bump fr to d).length=2:=rfl
    omega
theorem okV_val {f:List Lv} (h:chkS f=0) (t:Int):okV (val f t):=by
  have hA:=(chkS_ok h).2
  rcases vat_mem f 0 t with e|⟨l,hl,e⟩
  · unfold okV val; rw [e]; omega
  · unfold okV val
    rw [e]
    have:=hA.gt l hl
    omega
theorem AddR.cond {f out:List Lv} {fr to d:Int} (h:AddR f fr to d out 0):(0≤fr∧fr≤to∧to≤1099511627776) ∧ -2251799813685248≤d∧d≤2251799813685248:=by
  rcases h with ⟨_,_,h⟩|⟨_,_,_,h⟩|⟨_,b,c,_⟩|⟨_,b,c,_⟩
  · simp at h
  · simp at h
  · exact ⟨b,c⟩
  · exact ⟨by omega,c⟩
theorem AddR.back {f p out:List Lv} {fr to d e:Int} (h:AddR f fr to d p 0) (hl:f.length≤900) (h':AddR p fr to (-d) out e):e=0∧out=f:=by
  obtain ⟨c1,c2,c3⟩:=h.cond
  obtain ⟨h1,h2,h3⟩:=h.ok
  have hlp:=h.len2
  have hneg:∀ t:Int,-1≤t→val p t+(if fr≤t∧t<to then -d else 0)=val f t:=fun t ht=>by
    rw [h3 t ht]
    by_cases hc:fr≤t∧t<to
    · rw [if_pos hc,if_pos hc]; omega
    · rw [if_neg hc,if_neg hc]; omega
  have he:e=0:=h'.err0 h2 c1 (by omega) (fun t=>by
    by_cases ht:-1≤t
    · rw [hneg t ht]; exact okV_val h1 t
    · rw [if_neg (by omega)]
      have:=okV_val h2 t
      unfold okV at this ⊢
      omega) (by omega)
  subst he
  obtain ⟨_,k2,k3⟩:=h'.ok
  exact ⟨rfl,chkS_unique k2 h1 (fun t ht=>by rw [k3 t ht,hneg t ht])⟩
theorem AddR.swap {f p q r s:List Lv} {a1 a2 a b1 b2 b:Int} (h1:AddR f a1 a2 a p 0) (h2:AddR p b1 b2 b q 0) (h3:AddR f b1 b2 b r 0) (h4:AddR r a1 a2 a s 0):q=s:=by
  obtain ⟨_,_,e1⟩:=h1.ok
  obtain ⟨_,k2,e2⟩:=h2.ok
  obtain ⟨_,_,e3⟩:=h3.ok
  obtain ⟨_,k4,e4⟩:=h4.ok
  exact chkS_unique k2 k4 (fun t ht=>by rw [e2 t ht,e1 t ht,e4 t ht,e3 t ht]; omega)
theorem tms_comm (f g:List Lv):tms f g=tms g f:=by
  obtain ⟨a1,a2⟩:=tms_sa f g
  obtain ⟨b1,b2⟩:=tms_sa g f
  refine SA.unique a1 b1 (fun x=>?_)
  rw [a2,b2]
  constructor <;> (rintro ⟨l,hl,e⟩; exact ⟨l,by rw [List.mem_append] at hl ⊢; exact hl.symm,e⟩)
theorem SumR.comm {f g o:List Lv} {e:Int} (h:SumR f g o e):SumR g f o e:=by
  rcases h with ⟨a,b,c⟩|⟨a,b,c⟩
  · exact .inl ⟨a.symm,b,c⟩
  · refine .inr ⟨b,a,?_⟩
    rw [tms_comm g f]
    have:(fun t=>val g t+val f t)=(fun t=>val f t+val g t):=funext (fun t=>Int.add_comm _ _)
    rw [this]; exact c
theorem SumR.ok {f g o:List Lv} (h:SumR f g o 0):chkS f=0∧chkS g=0∧chkS o=0∧∀ t:Int,-1≤t→val o t=val f t+val g t:=by
  rcases h with ⟨_,_,h⟩|⟨a,b,c⟩
  · simp at h
  · obtain ⟨h1,h2⟩:=CombP.ok (op:=(· + ·)) (chkS_ok a).2.t (chkS_ok b).2.t rfl c
    exact ⟨a,b,h1,h2⟩
end Go.Step
namespace Go.Step
end Go.Step
namespace Go.Step
def Chn (a:Int):List Pt→Int→Prop
  | [],b=>a=b
  | p::ps,b=>p.1.1=a∧a<p.1.2∧Chn p.1.2 ps b
def Cov (l:List (Int × Int)) (t:Int):Prop:=∃ s∈l,s.1≤t∧t<s.2
structure Apart (lo a:Int) (l:List (Int × Int)):Prop where
  ok:∀ s∈l,lo≤s.1∧s.1<s.2∧s.2≤a
  sep:l.Pairwise (fun s t=>s.2<t.1)
theorem cov_one {lo a:Int} {l:List (Int × Int)} (h:Apart lo a l) {x y:Int} (hxy:x<y) (hc:∀ t,x≤t→t<y→Cov l t):∃ s∈l,s.1≤x∧y≤s.2:=by
  obtain ⟨s,hs,h1,h2⟩:=hc x (Int.le_refl _) hxy
  by_cases hy:y≤s.2
  · exact ⟨s,hs,h1,hy⟩
  · obtain ⟨u,hu,k1,k2⟩:=hc s.2 (by omega) (by omega)
    have hsu:s=u∨s.2<u.1∨u.2<s.1:=by
      obtain ⟨i,hi,rfl⟩:=List.getElem_of_mem hs
      obtain ⟨j,hj,rfl⟩:=List.getElem_of_mem hu
      have:=List.pairwise_iff_getElem.1 h.sep
      by_cases e:i=j
      · subst e; exact .inl rfl
      · by_cases e2:i<j
        · exact .inr (.inl (this i j hi hj e2))
        · exact .inr (.inr (this j i hj hi (by omega)))
    have:=h.ok s hs
    rcases hsu with rfl|h|h <;> omega
end Go.Step
