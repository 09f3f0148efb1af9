/- Texts of this proof, one after the other; no conditions. -/
import Derived.Lib.SlicesCompact
import Derived.Test.YtjopknnkcnehmaaGreatDoorWB2
import Derived.Test.YtjopknnkcnehmaaGreatDoorWB1
set_option linter.all false
/- Step functions: what makes levels a function, its values, its sums. No program in sight. No conditions. -/
namespace Go.Step
structure Lv where
  a:Int
  v:Int
  deriving DecidableEq,Inhabited
def badL (l:Lv):Prop:=l.a<0∨1099511627776<l.a∨l.v < -1125899906842624∨1125899906842624<l.v
instance (l:Lv):Decidable (badL l):=by unfold badL; infer_instance
def chkL (pa pv:Int):List Lv→Int
  | []=>0
  | l::f=>if badL l then 2 else if l.a≤pa∨l.v=pv then 9 else chkL l.a l.v f
def chkS (f:List Lv):Int:=if 1000<f.length then 4 else chkL (-1) 0 f
def Asc (pa:Int):List Lv→Prop
  | []=>True
  | l::f=>pa<l.a∧l.a≤1099511627776∧(-1125899906842624≤l.v∧l.v≤1125899906842624)∧Asc l.a f
theorem chkL_asc:∀ (f:List Lv) (pa pv:Int),chkL pa pv f=0→Asc pa f
  | [],_,_,_=>trivial
  | l::f,pa,pv,h=>by
    simp only [chkL] at h
    split at h
    · simp at h
    · rename_i h1
      split at h
      · simp at h
      · rename_i h2
        unfold badL at h1
        exact ⟨by omega,by omega,⟨by omega,by omega⟩,chkL_asc f l.a l.v h⟩
theorem chkS_ok {f:List Lv} (h:chkS f=0):f.length≤1000∧Asc (-1) f:=by
  unfold chkS at h
  split at h
  · simp at h
  · exact ⟨by omega,chkL_asc f _ _ h⟩
theorem Asc.mono:∀ {f:List Lv} {p q:Int},Asc p f→q≤p→Asc q f
  | [],_,_,_,_=>trivial
  | _::_,_,_,h,hq=>⟨by have:=h.1; omega,h.2.1,h.2.2.1,h.2.2.2⟩
theorem Asc.gt:∀ {f:List Lv} {p:Int},Asc p f→∀ l∈f,p<l.a∧l.a≤1099511627776 ∧ -1125899906842624≤l.v∧l.v≤1125899906842624
  | [],_,_,l,hl=>by simp at hl
  | m::f,p,h,l,hl=>by
    simp at hl
    rcases hl with rfl|hl
    · exact ⟨h.1,h.2.1,h.2.2.1⟩
    · have h9:=h.2.2.2.gt l hl
      have:=h.1
      exact ⟨by omega,h9.2⟩
def vat (cur:Int):List Lv→Int→Int
  | [],_=>cur
  | l::f,t=>if l.a≤t then vat l.v f t else cur
def val (f:List Lv) (t:Int):Int:=vat 0 f t
theorem vat_late:∀ (f:List Lv) (cur t:Int),(∀ l,f.head?=some l→t<l.a)→vat cur f t=cur
  | [],_,_,_=>rfl
  | l::f,cur,t,h=>by
    simp only [vat]
    rw [if_neg (by have:=h l rfl; omega)]
theorem vat_mem:∀ (f:List Lv) (cur t:Int),vat cur f t=cur∨∃ l∈f,vat cur f t=l.v
  | [],_,_=>.inl rfl
  | l::f,cur,t=>by
    simp only [vat]
    split
    · rcases vat_mem f l.v t with h|⟨m,hm,h⟩
      · exact .inr ⟨l,by simp,h⟩
      · exact .inr ⟨m,by simp [hm],h⟩
    · exact .inl rfl
end Go.Step
namespace Go.Step
end Go.Step
namespace Go.Step
theorem Asc.idx:∀ {f:List Lv} {p:Int},Asc p f→∀ (i j:Nat) (x y:Lv),f[i]?=some x→f[j]?=some y→i<j→x.a<y.a
  | [],_,_,i,j,x,y,h,_,_=>by simp at h
  | l::f,p,hA,0,j+1,x,y,h1,h2,_=>by
    simp at h1; subst h1
    exact (hA.2.2.2.gt y (List.mem_of_getElem? (by simpa using h2))).1
  | l::f,p,hA,i+1,j+1,x,y,h1,h2,hij=>hA.2.2.2.idx i j x y (by simpa using h1) (by simpa using h2) (by omega)
  | l::f,p,hA,i,0,x,y,h1,h2,hij=>by omega
end Go.Step
namespace Go.Step
def AscT (pa:Int):List Lv→Prop
  | []=>True
  | l::f=>pa<l.a∧l.a≤1099511627776∧AscT l.a f
theorem Asc.t:∀ {f:List Lv} {p:Int},Asc p f→AscT p f
  | [],_,_=>trivial
  | _::_,_,h=>⟨h.1,h.2.1,h.2.2.2.t⟩
theorem AscT.gt:∀ {f:List Lv} {p:Int},AscT p f→∀ l∈f,p<l.a∧l.a≤1099511627776
  | [],_,_,l,hl=>by simp at hl
  | m::f,p,h,l,hl=>by
    simp at hl
    rcases hl with rfl|hl
    · exact ⟨h.1,h.2.1⟩
    · have h9:=h.2.2.gt l hl
      have:=h.1
      exact ⟨by omega,h9.2⟩
theorem AscT.idx:∀ {f:List Lv} {p:Int},AscT p f→∀ (i j:Nat) (x y:Lv),f[i]?=some x→f[j]?=some y→i<j→x.a<y.a
  | [],_,_,i,j,x,y,h,_,_=>by simp at h
  | l::f,p,hA,0,j+1,x,y,h1,h2,_=>by
    simp at h1; subst h1
    exact (hA.2.2.gt y (List.mem_of_getElem? (by simpa using h2))).1
  | l::f,p,hA,i+1,j+1,x,y,h1,h2,hij=>hA.2.2.idx i j x y (by simpa using h1) (by simpa using h2) (by omega)
  | l::f,p,hA,i,0,x,y,h1,h2,hij=>by omega
end Go.Step
namespace Go.Step
open Go.Lib
abbrev SA (l:List Int):Prop:=l.Pairwise (· < ·)
theorem SA.unique:∀ {l m:List Int},SA l→SA m→(∀ x,x∈l↔x∈m)→l=m
  | [],[],_,_,_=>rfl
  | [],y::m,_,_,h=>by have:=(h y).2 (by simp); simp at this
  | x::l,[],_,_,h=>by have:=(h x).1 (by simp); simp at this
  | x::l,y::m,h1,h2,h=>by
    have p1:=List.pairwise_cons.1 h1
    have p2:=List.pairwise_cons.1 h2
    have hxy:x=y:=by
      have a:=(h x).1 (by simp)
      have b:=(h y).2 (by simp)
      simp at a b
      rcases a with a|a
      · exact a
      · rcases b with b|b
        · exact b.symm
        · have:=p2.1 x a; have:=p1.1 y b; omega
    subst hxy
    rw [SA.unique p1.2 p2.2 (fun z=>?_)]
    constructor
    · intro hz
      have:=(h z).1 (by simp [hz])
      simp at this
      rcases this with rfl|this
      · have:=p1.1 z hz; omega
      · exact this
    · intro hz
      have:=(h z).2 (by simp [hz])
      simp at this
      rcases this with rfl|this
      · have:=p2.1 z hz; omega
      · exact this
theorem compact_up {d:Array Int} (hs:∀ i j,i≤j→j<d.size→d[i]! ≤ d[j]!):∀ m,m≤d.size→SA (compactUpTo d m)∧(∀ x,x∈compactUpTo d m↔∃ j,j<m∧d[j]! = x)
  | 0,_=>by simp [compactUpTo]
  | m+1,hm=>by
    obtain ⟨h1,h2⟩:=compact_up hs m (by omega)
    rw [compactUpTo_succ]
    by_cases hk:keeps d m=true
    · rw [if_pos hk]
      have hlt:∀ x∈compactUpTo d m,x<d[m]!:=by
        intro x hx
        obtain ⟨j,hj,rfl⟩:=(h2 x).1 hx
        simp only [keeps,decide_eq_true_eq] at hk
        have a:=hs j (m-1) (by omega) (by omega)
        have b:=hs (m-1) m (by omega) (by omega)
        rcases hk with hk|hk
        · omega
        · have:d[m-1]! ≠ d[m]!:=fun e=>hk e.symm
          omega
      refine ⟨List.pairwise_append.2 ⟨h1,by simp,fun x hx y hy=>by simp at hy; subst hy; exact hlt x hx⟩,fun x=>?_⟩
      rw [List.mem_append,h2]
      constructor
      · rintro (⟨j,hj,e⟩|hx)
        · exact ⟨j,by omega,e⟩
        · simp at hx; exact ⟨m,by omega,hx.symm⟩
      · rintro ⟨j,hj,e⟩
        by_cases hjm:j=m
        · subst hjm; right; simp [e]
        · left; exact ⟨j,by omega,e⟩
    · rw [if_neg hk,List.append_nil]
      simp only [keeps,decide_eq_true_eq,not_or] at hk
      refine ⟨h1,fun x=>?_⟩
      rw [h2]
      constructor
      · rintro ⟨j,hj,e⟩; exact ⟨j,by omega,e⟩
      · rintro ⟨j,hj,e⟩
        by_cases hjm:j=m
        · subst hjm
          exact ⟨j-1,by omega,by have:=Classical.not_not.1 hk.2; omega⟩
        · exact ⟨j,by omega,e⟩
theorem compact_sa {l:List Int} (h:l.Pairwise (· ≤ ·)):SA (compact l)∧∀ x,x∈compact l↔x∈l:=by
  have hs:∀ i j,i≤j→j<l.toArray.size→l.toArray[i]! ≤ l.toArray[j]!:=by
    intro i j hij hj
    simp only [List.size_toArray] at hj
    rw [getElem!_pos l.toArray i (by simp; omega),getElem!_pos l.toArray j (by simpa using hj)]
    simp only [List.getElem_toArray]
    rcases Nat.lt_or_ge i j with h1|h1
    · exact List.pairwise_iff_getElem.1 h i j (by omega) hj h1
    · have:i=j:=by omega
      subst this; exact Int.le_refl _
  obtain ⟨h1,h2⟩:=compact_up hs l.length (by simp)
  refine ⟨h1,fun x=>?_⟩
  show x∈compactUpTo l.toArray l.length↔_
  rw [h2,List.mem_iff_getElem]
  constructor
  · rintro ⟨j,hj,e⟩
    refine ⟨j,hj,?_⟩
    rw [getElem!_pos l.toArray j (by simpa using hj)] at e
    simpa using e
  · rintro ⟨j,hj,e⟩
    refine ⟨j,hj,?_⟩
    rw [getElem!_pos l.toArray j (by simpa using hj)]
    simpa using e
def tms (f g:List Lv):List Int:=compact (((f ++ g).map (·.a)).mergeSort fun x y=>decide (x≤y))
theorem tms_sa (f g:List Lv):SA (tms f g)∧∀ x,x∈tms f g↔∃ l∈f ++ g,l.a=x:=by
  have hp:(((f ++ g).map (·.a)).mergeSort fun x y=>decide (x≤y)).Pairwise (· ≤ ·):=by
    have:=List.pairwise_mergeSort (le:=fun x y:Int=>decide (x≤y)) (by intro a b c h1 h2; simp at *; omega) (by intro a b; simp; omega) ((f ++ g).map (·.a))
    exact this.imp (fun h=>by simpa using h)
  obtain ⟨h1,h2⟩:=compact_sa hp
  refine ⟨h1,fun x=>?_⟩
  unfold tms;rw [h2,List.mem_mergeSort,List.mem_map]
def comb (F:Int→Int) (last:Int):List Int→List Lv
  | []=>[]
  | t::ts=>if F t≠last then ⟨t,F t⟩::comb F (F t) ts else comb F (F t) ts
theorem comb_len (F:Int→Int):∀ (ts:List Int) (last:Int),(comb F last ts).length≤ts.length
  | [],_=>by simp [comb]
  | t::ts,last=>by
    have:=comb_len F ts (F t)
    simp only [comb]
    split <;> simp <;> omega
def okV (v:Int):Prop:=-1125899906842624≤v∧v≤1125899906842624
theorem comb_chk {F:Int→Int}:∀ {ts:List Int} {pa pv:Int},SA ts→(∀ t∈ts,pa<t∧0≤t∧t≤1099511627776∧okV (F t))→chkL pa pv (comb F pv ts)=0
  | [],_,_,_,_=>rfl
  | t::ts,pa,pv,hs,h=>by
    have p:=List.pairwise_cons.1 hs
    have ht:=h t (by simp)
    have hr:∀ q:Int,q≤t→∀ u∈ts,q<u∧0≤u∧u≤1099511627776∧okV (F u):=fun q hq u hu=>by
      have:=p.1 u hu
      have:=h u (by simp [hu])
      exact ⟨by omega,this.2⟩
    simp only [comb];unfold okV at ht
    split
    · rename_i hne
      simp only [chkL]
      rw [if_neg (by unfold badL; dsimp only; omega),if_neg (by omega)]
      exact comb_chk p.2 (hr t (Int.le_refl _))
    · rename_i he
      have he:F t=pv:=Classical.not_not.1 he
      rw [he]
      exact comb_chk p.2 (hr pa (by omega))
def tv (F:Int→Int) (cur:Int):List Int→Int→Int
  | [],_=>cur
  | x::xs,t=>if x≤t then tv F (F x) xs t else cur
theorem comb_gt {F:Int→Int}:∀ {ts:List Int} {last p:Int},(∀ x∈ts,p<x)→∀ l∈comb F last ts,p<l.a
  | [],_,_,_,l,hl=>by simp [comb] at hl
  | t::ts,last,p,h,l,hl=>by
    simp only [comb] at hl
    split at hl
    · simp at hl
      rcases hl with rfl|hl
      · exact h t (by simp)
      · exact comb_gt (fun x hx=>h x (by simp [hx])) l hl
    · exact comb_gt (fun x hx=>h x (by simp [hx])) l hl
theorem vat_comb {F:Int→Int} {t:Int}:∀ {ts:List Int} {cur:Int},SA ts→vat cur (comb F cur ts) t=tv F cur ts t
  | [],_,_=>rfl
  | x::xs,cur,hs=>by
    have p:=List.pairwise_cons.1 hs
    simp only [tv]
    by_cases hx:x≤t
    · rw [if_pos hx]
      simp only [comb]
      split
      · simp only [vat]; rw [if_pos hx]; exact vat_comb p.2
      · rename_i he
        have he:F x=cur:=Classical.not_not.1 he
        rw [← he]; exact vat_comb p.2
    · rw [if_neg hx]
      refine vat_late _ _ _ (fun l hl=>?_)
      have hm:l∈comb F cur (x::xs):=List.mem_of_mem_head? (by simpa using hl)
      have:=comb_gt (p:=x-1) (fun y hy=>by
        simp at hy
        rcases hy with rfl|hy
        · omega
        · have:=p.1 y hy; omega) l hm
      omega
theorem tv_eq {F:Int→Int}:∀ {ts:List Int} {p t:Int},SA ts→(∀ x∈ts,p<x)→p≤t→(∀ a b:Int,p≤a→a≤b→(∀ y∈ts,¬ (a<y∧y≤b))→F b=F a)→tv F (F p) ts t=F t
  | [],p,t,_,_,ht,H=>(H p t (Int.le_refl _) ht (by simp)).symm
  | x::xs,p,t,hs,hp,ht,H=>by
    have q:=List.pairwise_cons.1 hs
    have hpx:=hp x (by simp)
    simp only [tv]
    by_cases hx:x≤t
    · rw [if_pos hx]
      refine tv_eq q.2 q.1 hx (fun a b h1 h2 h3=>H a b (by omega) h2 (fun y hy=>?_))
      simp at hy
      rcases hy with rfl|hy
      · omega
      · exact h3 y hy
    · rw [if_neg hx]
      refine (H p t (Int.le_refl _) ht (fun y hy=>?_)).symm
      simp at hy
      rcases hy with rfl|hy
      · omega
      · have:=q.1 y hy; omega
theorem vat_same:∀ {f:List Lv} {p cur a b:Int},AscT p f→a≤b→(∀ l∈f,¬ (a<l.a∧l.a≤b))→vat cur f b=vat cur f a
  | [],_,_,_,_,_,_,_=>rfl
  | l::f,p,cur,a,b,h,hab,hn=>by
    simp only [vat]
    have hl:=hn l (by simp)
    by_cases h1:l.a≤a
    · rw [if_pos h1,if_pos (by omega)]
      exact vat_same h.2.2 hab (fun m hm=>hn m (by simp [hm]))
    · rw [if_neg h1,if_neg (by omega)]
theorem val_earlyT {f:List Lv} {p x:Int} (h:AscT p f) (hx:x≤p):val f x=0:=vat_late f 0 x (fun l hl=>by
  have:=(h.gt l (List.mem_of_mem_head? (by simpa using hl))).1
  omega)
theorem comb_val {f g:List Lv} (hf:AscT (-1) f) (hg:AscT (-1) g) {op:Int→Int→Int} (h0:op 0 0=0) {t:Int} (ht:-1≤t):val (comb (fun t=>op (val f t) (val g t)) 0 (tms f g)) t=op (val f t) (val g t):=by
  obtain ⟨h1,h2⟩:=tms_sa f g
  have e0:op (val f (-1)) (val g (-1))=0:=by rw [val_earlyT hf (Int.le_refl _),val_earlyT hg (Int.le_refl _),h0]
  have hp:∀ x∈tms f g,-1<x:=fun x hx=>by
    obtain ⟨l,hl,rfl⟩:=(h2 x).1 hx
    rcases List.mem_append.1 hl with hl|hl
    · exact (hf.gt l hl).1
    · exact (hg.gt l hl).1
  show vat 0 _ t=_
  rw [vat_comb h1]
  have:=tv_eq (F:=fun t=>op (val f t) (val g t)) (p:=-1) (t:=t) h1 hp ht (fun a b ha hab hn=>by
    have e1:val f b=val f a:=vat_same hf hab (fun l hl hx=>hn l.a ((h2 l.a).2 ⟨l,by simp [hl],rfl⟩) hx)
    have e2:val g b=val g a:=vat_same hg hab (fun l hl hx=>hn l.a ((h2 l.a).2 ⟨l,by simp [hl],rfl⟩) hx)
    simp only [e1,e2])
  simp only [e0] at this;exact this
theorem tms_rng {f g:List Lv} (hf:AscT (-1) f) (hg:AscT (-1) g):∀ x∈tms f g,0≤x∧x≤1099511627776:=fun x hx=>by
  obtain ⟨l,hl,rfl⟩:=((tms_sa f g).2 x).1 hx
  rcases List.mem_append.1 hl with hl|hl
  · have:=hf.gt l hl; omega
  · have:=hg.gt l hl; omega
theorem chkL_unique:∀ {f g:List Lv} {pa pv:Int},chkL pa pv f=0→chkL pa pv g=0→(∀ t:Int,pa<t→t≤1099511627776→vat pv f t=vat pv g t)→f=g
  | [],[],_,_,_,_,_=>rfl
  | [],m::g,pa,pv,_,h2,H=>by
    exfalso
    have hA:=chkL_asc _ _ _ h2
    have:=H m.a hA.1 hA.2.1
    simp only [vat] at this
    rw [if_pos (Int.le_refl _),vat_late g m.v m.a (fun l hl=>(hA.2.2.2.gt l (List.mem_of_mem_head? (by simpa using hl))).1)] at this
    simp only [chkL] at h2
    split at h2
    · simp at h2
    · rw [if_pos (.inr this.symm)] at h2; simp at h2
  | l::f,[],pa,pv,h1,_,H=>by
    exfalso
    have hA:=chkL_asc _ _ _ h1
    have:=H l.a hA.1 hA.2.1
    simp only [vat] at this
    rw [if_pos (Int.le_refl _),vat_late f l.v l.a (fun m hm=>(hA.2.2.2.gt m (List.mem_of_mem_head? (by simpa using hm))).1)] at this
    simp only [chkL] at h1
    split at h1
    · simp at h1
    · rw [if_pos (.inr this)] at h1; simp at h1
  | l::f,m::g,pa,pv,h1,h2,H=>by
    have hA:=chkL_asc _ _ _ h1
    have hB:=chkL_asc _ _ _ h2
    have e1:=H l.a hA.1 hA.2.1
    have e2:=H m.a hB.1 hB.2.1
    have q1:vat l.v f l.a=l.v:=vat_late f l.v l.a (fun x hx=>(hA.2.2.2.gt x (List.mem_of_mem_head? (by simpa using hx))).1)
    have q2:vat m.v g m.a=m.v:=vat_late g m.v m.a (fun x hx=>(hB.2.2.2.gt x (List.mem_of_mem_head? (by simpa using hx))).1)
    simp only [vat] at e1 e2;rw [if_pos (Int.le_refl _),q1] at e1;rw [if_pos (Int.le_refl (m.a)),q2] at e2;simp only [chkL] at h1 h2
    split at h1
    · simp at h1
    · split at h1
      · simp at h1
      · rename_i hl
        split at h2
        · simp at h2
        · split at h2
          · simp at h2
          · rename_i hm
            have ha:l.a=m.a:=by
              rcases Int.lt_trichotomy l.a m.a with h|h|h
              · rw [if_neg (by omega)] at e1
                exact absurd e1 (by omega)
              · exact h
              · rw [if_neg (by omega)] at e2
                exact absurd e2.symm (by omega)
            rw [if_pos (by omega),ha,q2] at e1
            obtain ⟨la,lv⟩:=l
            obtain ⟨ma,mv⟩:=m
            simp only at ha e1;subst ha e1
            congr 1
            refine chkL_unique h1 h2 (fun t ht htm=>?_)
            have:=H t (by have:=hA.1; simp only at this ht; omega) htm
            simp only [vat] at this
            rw [if_pos (by simp only at ht; omega),if_pos (by simp only at ht; omega)] at this
            exact this
def CombP (F:Int→Int) (ts:List Int) (out:List Lv) (e:Int):Prop:=
  ((∃ t∈ts,¬ okV (F t))∧out=[]∧e=5)∨((∀ t∈ts,okV (F t))∧1000<(comb F 0 ts).length∧out=[]∧e=4)∨((∀ t∈ts,okV (F t))∧(comb F 0 ts).length≤1000∧out=comb F 0 ts∧e=0)
theorem CombP.unique {F:Int→Int} {ts:List Int} {o o':List Lv} {e e':Int} (h:CombP F ts o e) (h':CombP F ts o' e'):o=o'∧e=e':=by
  rcases h with ⟨⟨t,ht,a⟩,b,c⟩|⟨a,b,c,d⟩|⟨a,b,c,d⟩ <;> rcases h' with ⟨⟨t',ht',a'⟩,b',c'⟩|⟨a',b',c',d'⟩|⟨a',b',c',d'⟩
  · exact ⟨by rw [b,b'],by rw [c,c']⟩
  · exact absurd (a' t ht) a
  · exact absurd (a' t ht) a
  · exact absurd (a t' ht') a'
  · exact ⟨by rw [c,c'],by rw [d,d']⟩
  · omega
  · exact absurd (a t' ht') a'
  · omega
  · exact ⟨by rw [c,c'],by rw [d,d']⟩
theorem CombP.ok {f g:List Lv} (hf:AscT (-1) f) (hg:AscT (-1) g) {op:Int→Int→Int} (h0:op 0 0=0) {out:List Lv} (h:CombP (fun t=>op (val f t) (val g t)) (tms f g) out 0):chkS out=0∧∀ t:Int,-1≤t→val out t=op (val f t) (val g t):=by
  rcases h with ⟨_,_,h⟩|⟨_,_,_,h⟩|⟨h1,h2,rfl,_⟩
  · simp at h
  · simp at h
  · refine ⟨?_,fun t ht=>comb_val hf hg h0 ht⟩
    unfold chkS
    rw [if_neg (by omega)]
    exact comb_chk (tms_sa f g).1 (fun t ht=>by
      have:=tms_rng hf hg t ht
      exact ⟨by omega,this.1,this.2,h1 t ht⟩)
def SumR (f g out:List Lv) (e:Int):Prop:=
  ((chkS f≠0∨chkS g≠0)∧out=[]∧e=1)∨(chkS f=0∧chkS g=0∧CombP (fun t=>val f t+val g t) (tms f g) out e)
theorem SumR.unique {f g o o':List Lv} {e e':Int} (h:SumR f g o e) (h':SumR f g o' e'):o=o'∧e=e':=by
  rcases h with ⟨a,b,c⟩|⟨a,b,c⟩ <;> rcases h' with ⟨a',b',c'⟩|⟨a',b',c'⟩
  · exact ⟨by rw [b,b'],by rw [c,c']⟩
  · rcases a with a|a
    · exact absurd a' a
    · exact absurd b' a
  · rcases a' with a'|a'
    · exact absurd a a'
    · exact absurd b a'
  · exact c.unique c'
def bump (fr to d:Int):List Lv:=[⟨fr,d⟩,⟨to,0⟩]
theorem bump_asc {fr to d:Int} (h:0≤fr∧fr<to∧to≤1099511627776):AscT (-1) (bump fr to d):=⟨by dsimp only; omega,by dsimp only; omega,by dsimp only; omega,by dsimp only; omega,trivial⟩
theorem bump_val (fr to d t:Int) (h:fr<to):val (bump fr to d) t=if fr≤t∧t<to then d else 0:=by
  simp only [val,bump,vat]
  by_cases h1:fr≤t
  · rw [if_pos h1]
    by_cases h2:to≤t
    · rw [if_pos h2,if_neg (by omega)]
    · rw [if_neg h2,if_pos (by omega)]
  · rw [if_neg h1,if_neg (by omega)]
def AddR (f:List Lv) (fr to d:Int) (out:List Lv) (e:Int):Prop:=
  (chkS f≠0∧out=[]∧e=1)∨(chkS f=0∧(¬ (0≤fr∧fr≤to∧to≤1099511627776)∨d < -2251799813685248∨2251799813685248<d)∧out=[]∧e=2) ∨
  (chkS f=0∧(0≤fr∧fr≤to∧to≤1099511627776)∧(-2251799813685248≤d∧d≤2251799813685248)∧fr=to∧out=f∧e=0) ∨
  (chkS f=0∧(0≤fr∧fr<to∧to≤1099511627776)∧(-2251799813685248≤d∧d≤2251799813685248)∧CombP (fun t=>val f t+val (bump fr to d) t) (tms f (bump fr to d)) out e)
theorem AddR.unique {f o o':List Lv} {fr to d e e':Int} (h:AddR f fr to d o e) (h':AddR f fr to d o' e'):o=o'∧e=e':=by
  rcases h with ⟨a,b,c⟩|⟨a,b,c,x⟩|⟨a,b,c,x,y,z⟩|⟨a,b,c,x⟩ <;> rcases h' with ⟨a',b',c'⟩|⟨a',b',c',x'⟩|⟨a',b',c',x',y',z'⟩|⟨a',b',c',x'⟩
  all_goals first
    | exact absurd a' a
    | exact absurd a a'
    | exact ⟨by rw [b,b'],by rw [c,c']⟩
    | exact ⟨by rw [c,c'],by rw [x,x']⟩
    | exact ⟨by rw [y,y'],by rw [z,z']⟩
    | exact x.unique x'
    | omega
    | (clear x'; omega)
    | (clear x; omega)
theorem AddR.ok {f out:List Lv} {fr to d:Int} (h:AddR f fr to d out 0):chkS f=0∧chkS out=0∧∀ t:Int,-1≤t→val out t=val f t+if fr≤t∧t<to then d else 0:=by
  rcases h with ⟨_,_,h⟩|⟨_,_,_,h⟩|⟨a,b,c,x,rfl,_⟩|⟨a,b,c,x⟩
  · simp at h
  · simp at h
  · exact ⟨a,a,fun t ht=>by rw [if_neg (by omega)]; omega⟩
  · obtain ⟨h1,h2⟩:=CombP.ok (op:=(· + ·)) (chkS_ok a).2.t (bump_asc b) rfl x
    refine ⟨a,h1,fun t ht=>?_⟩
    rw [h2 t ht,bump_val fr to d t b.2.1]
theorem chkS_unique {f g:List Lv} (hf:chkS f=0) (hg:chkS g=0) (h:∀ t:Int,-1≤t→val f t=val g t):f=g:=by
  have hf1:=(chkS_ok hf).1
  have hg1:=(chkS_ok hg).1
  unfold chkS at hf hg
  rw [if_neg (by omega)] at hf hg
  exact chkL_unique hf hg (fun t ht _=>h t (by omega))
end Go.Step
namespace Go.Step
structure Hd where
  n:Int
  a:Int
  b:Int
  s:Int
  k:Int
deriving DecidableEq
def okHd (nq:Nat) (h:Hd):Prop:=(0≤h.n∧h.n<nq)∧(0≤h.a∧h.a<h.b∧h.b≤1099511627776)∧(1≤h.s∧h.s≤65536)∧(0≤h.k∧h.k≤1152921504606846976)
instance (nq:Nat) (h:Hd):Decidable (okHd nq h):=inferInstanceAs (Decidable (_∧_))
def delta (l:List Hd) (n t:Int):Int:=match l with
  | []=>0
  | h::l=>(if h.n=n then (if h.a=t then h.s else 0)-(if h.b=t then h.s else 0) else 0)+delta l n t
def tmH (l:List Hd) (n:Int):List Int:=l.flatMap (fun h=>if h.n=n then [h.a,h.b] else [])
theorem mem_tmH {l:List Hd} {n x:Int}:x∈tmH l n↔∃ h∈l,h.n=n∧(x=h.a∨x=h.b):=by
  unfold tmH;rw [List.mem_flatMap]
  constructor
  · rintro ⟨h,hm,hx⟩
    by_cases hn:h.n=n
    · rw [if_pos hn] at hx
      exact ⟨h,hm,hn,by simpa using hx⟩
    · rw [if_neg hn] at hx; simp at hx
  · rintro ⟨h,hm,hn,hx⟩
    exact ⟨h,hm,by rw [if_pos hn]; simpa using hx⟩
def hts (l:List Hd) (n:Int):List Int:=Lib.compact ((tmH l n).mergeSort fun x y=>decide (x≤y))
end Go.Step
namespace Go.Step
open Go.Eng
theorem mget_mset (k v x:Int):∀ m:List (Int × Int),mget x (mset k v m)=if x=k then some v else mget x m
  | []=>by
    unfold mget mset midx
    by_cases h:x=k
    · simp [h]
    · simp [h,midx]
  | (a,w)::m=>by
    have ih:=mget_mset k v x m
    unfold mget at ih ⊢
    by_cases hk:k=a
    · subst hk
      simp only [mset,if_true,midx]
      by_cases h:x=k <;> simp [h]
    · simp only [mset,if_neg hk,midx]
      by_cases h:x=a
      · subst h
        simp [Ne.symm hk]
      · simp only [if_neg h,Option.map_map]
        have e:((fun p:Nat × Int=>p.2) ∘ fun p:Nat × Int=>(p.1+1,p.2))=fun p=>p.2:=rfl
        rw [e];exact ih
def noteT (m:List (Int × Int)) (T:List Int) (t:Int):List Int:=if mget t m=none then T ++ [t] else T
structure InvD (D:Int→Int) (T:List Int) (m:List (Int × Int)):Prop where
  get:∀ t,mget t m=if t∈T then some (D t) else none
  out:∀ t,t∉T→D t=0
  nd:T.Pairwise (· ≠ ·)
theorem InvD.zero:InvD (fun _=>0) [] []:=⟨fun t=>rfl,fun _ _=>rfl,List.Pairwise.nil⟩
theorem InvD.val {D:Int→Int} {T:List Int} {m:List (Int × Int)} (h:InvD D T m) (t:Int):(mget t m).getD 0=D t:=by
  rw [h.get t]
  split
  · rfl
  · rename_i hn; rw [h.out t hn]; rfl
theorem InvD.step {D:Int→Int} {T:List Int} {m:List (Int × Int)} (h:InvD D T m) (t d:Int):InvD (fun x=>D x+if x=t then d else 0) (noteT m T t) (mset t ((mget t m).getD 0+d) m)∧(∀ x,x∈noteT m T t↔x∈T∨x=t)∧(noteT m T t).length≤T.length+1:=by
  have hm:∀ x,x∈noteT m T t↔x∈T∨x=t:=fun x=>by
    unfold noteT;rw [h.get t]
    by_cases ht:t∈T
    · rw [if_pos ht,if_neg (by simp)]
      constructor
      · exact .inl
      · rintro (h|rfl) <;> assumption
    · rw [if_neg ht,if_pos rfl]; simp
  refine ⟨⟨fun x=>?_,fun x hx=>?_,?_⟩,hm,?_⟩
  · rw [mget_mset,h.val,h.get x]
    by_cases hx:x=t
    · subst hx
      rw [if_pos rfl,if_pos ((hm x).2 (.inr rfl))]; simp
    · rw [if_neg hx]
      by_cases hT:x∈T
      · rw [if_pos hT,if_pos ((hm x).2 (.inl hT))]; simp [hx]
      · rw [if_neg hT,if_neg (fun hh=>by rcases (hm x).1 hh with h|h <;> contradiction)]
  · have hx1:x∉T:=fun hh=>hx ((hm x).2 (.inl hh))
    have hx2:x≠t:=fun hh=>hx ((hm x).2 (.inr hh))
    rw [h.out x hx1,if_neg hx2]; rfl
  · unfold noteT
    rw [h.get t]
    by_cases ht:t∈T
    · rw [if_pos ht,if_neg (by simp)]; exact h.nd
    · rw [if_neg ht,if_pos rfl]
      refine List.pairwise_append.2 ⟨h.nd,by simp,fun a ha b hb=>?_⟩
      simp at hb; subst hb
      intro e; subst e; exact ht ha
  · unfold noteT
    split <;> simp
theorem delta_snoc (n x:Int) (h:Hd):∀ l:List Hd,delta (l ++ [h]) n x=delta l n x+if h.n=n then (if h.a=x then h.s else 0)-(if h.b=x then h.s else 0) else 0
  | []=>by simp [delta]
  | g::l=>by
    have ih:=delta_snoc n x h l
    simp only [List.cons_append,delta,ih];omega
theorem tmH_snoc (n x:Int) (h:Hd) (l:List Hd):x∈tmH (l ++ [h]) n↔x∈tmH l n∨(h.n=n∧(x=h.a∨x=h.b)):=by
  rw [mem_tmH,mem_tmH]
  constructor
  · rintro ⟨g,hg,k⟩
    rcases List.mem_append.1 hg with hg|hg
    · exact .inl ⟨g,hg,k⟩
    · simp at hg; subst hg; exact .inr k
  · rintro (⟨g,hg,k⟩|k)
    · exact ⟨g,by simp [hg],k⟩
    · exact ⟨h,by simp,k⟩
structure InvL (l:List Hd) (n:Int) (T:List Int) (m:List (Int × Int)):Prop where
  d:InvD (delta l n) T m
  mem:∀ x,x∈T↔x∈tmH l n
  len:T.length≤2*l.length
theorem InvL.zero (n:Int):InvL [] n [] []:=⟨InvD.zero,fun x=>by simp [tmH],by simp⟩
theorem InvL.skip {l:List Hd} {n:Int} {T:List Int} {m:List (Int × Int)} {h:Hd} (H:InvL l n T m) (hn:h.n≠n):InvL (l ++ [h]) n T m:=by
  refine ⟨?_,fun x=>?_,by have:=H.len; simp; omega⟩
  · have e:delta (l ++ [h]) n=delta l n:=by funext x; rw [delta_snoc,if_neg hn]; omega
    rw [e]; exact H.d
  · rw [tmH_snoc,H.mem x]; simp [hn]
structure InvN (l:List Hd) (n t nx:Int):Prop where
  no:nx<0→nx = -1∧∀ x∈tmH l n,x≤t
  yes:0≤nx→nx∈tmH l n∧t<nx∧∀ x∈tmH l n,t<x→nx≤x
theorem InvN.zero (n t:Int):InvN [] n t (-1):=⟨fun _=>⟨rfl,fun x hx=>by simp [tmH] at hx⟩,fun h=>by omega⟩
theorem InvN.skip {l:List Hd} {n t nx:Int} {h:Hd} (H:InvN l n t nx) (hn:h.n≠n):InvN (l ++ [h]) n t nx:=by
  refine ⟨fun k=>⟨(H.no k).1,fun x hx=>?_⟩,fun k=>⟨(tmH_snoc _ _ _ _).2 (.inl (H.yes k).1),(H.yes k).2.1,fun x hx=>?_⟩⟩
  · rcases (tmH_snoc _ _ _ _).1 hx with hx|hx
    · exact (H.no k).2 x hx
    · exact absurd hx.1 hn
  · rcases (tmH_snoc _ _ _ _).1 hx with hx|hx
    · exact (H.yes k).2.2 x hx
    · exact absurd hx.1 hn
end Go.Step
namespace Go.Step
end Go.Step
namespace Go.Step
def frA (Q s:Int) (st:Int × List (Int × Int)) (t v:Int):Int × List (Int × Int):=
  if Q-v<s then (-1,if 0≤st.1∧st.1<t then st.2 ++ [(st.1,t)] else st.2) else (if st.1<0 then t else st.1,st.2)
def frL (Q s:Int) (st:Int × List (Int × Int)) (x:Lv):Int × List (Int × Int):=if x.a<1099511627776 then frA Q s st x.a x.v else st
def finA (st:Int × List (Int × Int)):List (Int × Int):=if 0≤st.1∧st.1<1099511627776 then st.2 ++ [(st.1,1099511627776)] else st.2
def frB (Q s:Int) (st:(Int × Bool) × List (Int × Int)) (x:Lv):(Int × Bool) × List (Int × Int):=
  ((if s≤Q-x.v∧st.1.2=false then x.a else st.1.1,decide (s≤Q-x.v)),if st.1.2=true∧Q-x.v<s∧st.1.1<x.a then st.2 ++ [(st.1.1,x.a)] else st.2)
def finB (st:(Int × Bool) × List (Int × Int)):List (Int × Int):=if st.1.2=true∧st.1.1<1099511627776 then st.2 ++ [(st.1.1,1099511627776)] else st.2
structure RlF (A:Int × List (Int × Int)) (B:(Int × Bool) × List (Int × Int)):Prop where
  o:A.2=B.2
  p:0≤B.1.1
  f:A.1=if B.1.2=true then B.1.1 else -1
theorem RlF.step {Q s:Int} {A:Int × List (Int × Int)} {B:(Int × Bool) × List (Int × Int)} (h:RlF A B) {x:Lv} (h0:0≤x.a):RlF (frA Q s A x.a x.v) (frB Q s B x):=by
  obtain ⟨a1,a2⟩:=A
  obtain ⟨⟨b1,b2⟩,b3⟩:=B
  obtain ⟨h1,h2,h3⟩:=h
  dsimp only at h1 h2 h3
  subst h1;unfold frA frB
  dsimp only
  by_cases hr:Q-x.v<s
  · rw [if_pos hr]
    have hd:decide (s≤Q-x.v)=false:=decide_eq_false (by omega)
    cases b2 with
    | true =>
      simp only [if_true] at h3;subst h3;refine ⟨?_,?_,?_⟩
      · dsimp only
        by_cases hl:a1<x.a
        · rw [if_pos ⟨h2,hl⟩,if_pos ⟨rfl,hr,hl⟩]
        · rw [if_neg (by omega),if_neg (by omega)]
      · dsimp only; rw [if_neg (by simp)]; exact h2
      · dsimp only; rw [hd]; rfl
    | false =>
      have h3':a1 = -1:=by simpa using h3
      subst h3';refine ⟨?_,?_,?_⟩
      · dsimp only
        rw [if_neg (by omega),if_neg (by simp)]
      · dsimp only; rw [if_neg (by omega)]; exact h2
      · dsimp only; rw [hd]; rfl
  · rw [if_neg hr]
    have hd:decide (s≤Q-x.v)=true:=decide_eq_true (by omega)
    cases b2 with
    | true =>
      simp only [if_true] at h3;subst h3;refine ⟨?_,?_,?_⟩
      · dsimp only; rw [if_neg (by omega)]
      · dsimp only; rw [if_neg (by simp)]; exact h2
      · dsimp only; rw [hd,if_pos rfl,if_neg (by omega),if_neg (by simp)]
    | false =>
      have h3':a1 = -1:=by simpa using h3
      subst h3';refine ⟨?_,?_,?_⟩
      · dsimp only; rw [if_neg (by simp)]
      · dsimp only; rw [if_pos ⟨by omega,rfl⟩]; exact h0
      · dsimp only; rw [hd,if_pos rfl,if_pos (by omega),if_pos ⟨by omega,rfl⟩]
theorem RlF.fin {A:Int × List (Int × Int)} {B:(Int × Bool) × List (Int × Int)} (h:RlF A B):finA A=finB B:=by
  obtain ⟨a1,a2⟩:=A
  obtain ⟨⟨b1,b2⟩,b3⟩:=B
  obtain ⟨h1,h2,h3⟩:=h
  dsimp only at h1 h2 h3
  subst h1;unfold finA finB
  dsimp only
  cases b2 with
  | true =>
    simp only [if_true] at h3;subst h3
    by_cases hl:a1<1099511627776
    · rw [if_pos ⟨h2,hl⟩,if_pos ⟨rfl,hl⟩]
    · rw [if_neg (by omega),if_neg (by omega)]
  | false =>
    have h3':a1 = -1:=by simpa using h3
    subst h3'
    rw [if_neg (by omega),if_neg (by simp)]
theorem RlF.last {Q s:Int} {A:Int × List (Int × Int)} {B:(Int × Bool) × List (Int × Int)} (h:RlF A B) {x:Lv} (hx:x.a=1099511627776):finA A=finB (frB Q s B x):=by
  obtain ⟨a1,a2⟩:=A
  obtain ⟨⟨b1,b2⟩,b3⟩:=B
  obtain ⟨h1,h2,h3⟩:=h
  dsimp only at h1 h2 h3
  subst h1;unfold finA finB frB
  dsimp only
  rw [hx]
  by_cases hr:Q-x.v<s
  · have hd:decide (s≤Q-x.v)=false:=decide_eq_false (by omega)
    rw [hd]
    cases b2 with
    | true =>
      simp only [if_true] at h3;subst h3
      by_cases hl:a1<1099511627776
      · rw [if_pos ⟨h2,hl⟩,if_neg (by simp),if_pos ⟨rfl,hr,hl⟩]
      · rw [if_neg (by omega),if_neg (by simp),if_neg (by omega)]
    | false =>
      have h3':a1 = -1:=by simpa using h3
      subst h3'
      rw [if_neg (by omega),if_neg (by simp),if_neg (by simp)]
  · have hd:decide (s≤Q-x.v)=true:=decide_eq_true (by omega)
    rw [hd]
    cases b2 with
    | true =>
      simp only [if_true] at h3;subst h3
      rw [if_neg (by simp:¬ (s≤Q-x.v∧true=false)),if_neg (by omega:¬ (true=true∧Q-x.v<s∧a1<1099511627776))]
      by_cases hl:a1<1099511627776
      · rw [if_pos ⟨h2,hl⟩,if_pos ⟨rfl,hl⟩]
      · rw [if_neg (by omega),if_neg (by omega)]
    | false =>
      have h3':a1 = -1:=by simpa using h3
      subst h3'
      rw [if_pos (⟨by omega,rfl⟩:s≤Q-x.v∧false=false),if_neg (by omega),if_neg (by omega),if_neg (by simp)]
def frS (Q s:Int) (f:List Lv) (k:Nat):Int × List (Int × Int):=(f.take k).foldl (frL Q s) (frA Q s (-1,[]) 0 0)
end Go.Step
namespace Go.Step
open Go.Eng
end Go.Step
namespace Go.Step
def nx (fr to:Int):List Lv→Int
  | []=>to
  | l::f=>if fr<l.a then min l.a to else nx fr to f
end Go.Step
namespace Go.Step
/-! times,merged -/
structure TInv (f g:List Lv) (i k:Nat) (out:List Int):Prop where
  sa:SA out
  mem:∀ x,x∈out↔∃ l∈f.take i ++ g.take k,l.a=x
  f:∀ x∈out,∀ l∈f.drop i,x≤l.a
  g:∀ x∈out,∀ l∈g.drop k,x≤l.a
theorem TInv.zero (f g:List Lv):TInv f g 0 0 []:=⟨by simp,by simp,by simp,by simp⟩
theorem TInv.done {f g:List Lv} {out:List Int} (h:TInv f g f.length g.length out):out=tms f g:=by
  obtain ⟨h1,h2⟩:=tms_sa f g
  refine SA.unique h.sa h1 (fun x=>?_)
  rw [h.mem,h2,List.take_length,List.take_length]
theorem SA.len:∀ {out:List Int} {f:List Int},SA out→(∀ x∈out,x∈f)→out.length≤f.length
  | [],_,_,_=>by simp
  | x::out,f,h,hm=>by
    have p:=List.pairwise_cons.1 h
    have hx:=hm x (by simp)
    have:=SA.len (f:=f.erase x) p.2 (fun y hy=>by
      have h1:=hm y (by simp [hy])
      have h2:=p.1 y hy
      exact (List.mem_erase_of_ne (by omega)).2 h1)
    rw [List.length_erase_of_mem hx] at this
    have:0<f.length:=List.length_pos_iff.2 (fun e=>by subst e; simp at hx)
    simp; omega
theorem TInv.len {f g:List Lv} {i k:Nat} {out:List Int} (h:TInv f g i k out):out.length≤f.length+g.length:=by
  have:=SA.len (f:=(f ++ g).map (·.a)) h.sa (fun x hx=>by
    obtain ⟨l,hl,rfl⟩:=(h.mem x).1 hx
    rw [List.mem_map];refine ⟨l,?_,rfl⟩
    simp at hl ⊢
    rcases hl with hl|hl
    · exact .inl (List.mem_of_mem_take hl)
    · exact .inr (List.mem_of_mem_take hl))
  simpa using this
end Go.Step
namespace Go.Step
theorem AddR.err0 {f out:List Lv} {fr to d e:Int} (h:AddR f fr to d out e) (h0:chkS f=0) (hs:0≤fr∧fr≤to∧to≤1099511627776) (hd:-2251799813685248≤d∧d≤2251799813685248) (hv:∀ t,okV (val f t+if fr≤t∧t<to then d else 0)) (hl:f.length≤998):e=0:=by
  rcases h with ⟨a,_⟩|⟨_,a,_⟩|⟨_,_,_,_,_,a⟩|⟨a,b,c,x⟩
  · exact absurd h0 a
  · omega
  · exact a
  · rcases x with ⟨⟨t,_,ht⟩,_⟩|⟨_,hbig,_⟩|⟨_,_,_,he⟩
    · have:=hv t
      dsimp only at ht
      rw [bump_val fr to d t b.2.1] at ht;exact absurd this ht
    · have h1:=comb_len (fun t=>val f t+val (bump fr to d) t) (tms f (bump fr to d)) 0
      obtain ⟨hsa,hmem⟩:=tms_sa f (bump fr to d)
      have h2:=SA.len (f:=(f ++ bump fr to d).map (·.a)) hsa (fun x hx=>by
        obtain ⟨l,hl,rfl⟩:=(hmem x).1 hx
        exact List.mem_map.2 ⟨l,hl,rfl⟩)
      rw [List.length_map,List.length_append] at h2
      have:(bump fr to d).length=2:=rfl
      omega
    · exact he
end Go.Step
namespace Go.Step
theorem CombP.len {F:Int→Int} {ts:List Int} {out:List Lv} {e:Int} (h:CombP F ts out e):out.length≤1000:=by
  rcases h with ⟨_,rfl,_⟩|⟨_,_,rfl,_⟩|⟨_,h,rfl,_⟩
  · simp
  · simp
  · exact h
theorem AddR.len {f out:List Lv} {fr to d e:Int} (h:AddR f fr to d out e):out.length≤1000:=by
  rcases h with ⟨_,rfl,_⟩|⟨_,_,rfl,_⟩|⟨a,_,_,_,rfl,_⟩|⟨_,_,_,hP⟩
  · simp
  · simp
  · exact (chkS_ok a).1
  · exact hP.len
theorem SumR.len {f g out:List Lv} {e:Int} (h:SumR f g out e):out.length≤1000:=by
  rcases h with ⟨_,rfl,_⟩|⟨_,_,hP⟩
  · simp
  · exact hP.len
end Go.Step
namespace Go.Step
theorem tms_len (f g:List Lv):(tms f g).length≤f.length+g.length:=by
  obtain ⟨hsa,hmem⟩:=tms_sa f g
  have h2:=SA.len (f:=(f ++ g).map (·.a)) hsa (fun x hx=>by
    obtain ⟨l,hl,rfl⟩:=(hmem x).1 hx
    exact List.mem_map.2 ⟨l,hl,rfl⟩)
  rw [List.length_map,List.length_append] at h2;exact h2
theorem CombP.len2 {F:Int→Int} {ts:List Int} {out:List Lv} {e:Int} (h:CombP F ts out e):out.length≤ts.length:=by
  rcases h with ⟨_,rfl,_⟩|⟨_,_,rfl,_⟩|⟨_,_,rfl,_⟩
  · simp
  · simp
  · exact comb_len F ts 0
theorem AddR.len2 {f out:List Lv} {fr to d e:Int} (h:AddR f fr to d out e):out.length≤f.length+2:=by
  rcases h with ⟨_,rfl,_⟩|⟨_,_,rfl,_⟩|⟨a,_,_,_,rfl,_⟩|⟨_,_,_,hP⟩
  · simp
  · simp
  · omega
  · have:=hP.len2
    have:=tms_len f (bump fr to d)
    have:(bump fr to d).length=2:=rfl
    omega
theorem okV_val {f:List Lv} (h:chkS f=0) (t:Int):okV (val f t):=by
  have hA:=(chkS_ok h).2
  rcases vat_mem f 0 t with e|⟨l,hl,e⟩
  · unfold okV val; rw [e]; omega
  · unfold okV val
    rw [e]
    have:=hA.gt l hl
    omega
theorem AddR.cond {f out:List Lv} {fr to d:Int} (h:AddR f fr to d out 0):(0≤fr∧fr≤to∧to≤1099511627776) ∧ -2251799813685248≤d∧d≤2251799813685248:=by
  rcases h with ⟨_,_,h⟩|⟨_,_,_,h⟩|⟨_,b,c,_⟩|⟨_,b,c,_⟩
  · simp at h
  · simp at h
  · exact ⟨b,c⟩
  · exact ⟨by omega,c⟩
theorem AddR.back {f p out:List Lv} {fr to d e:Int} (h:AddR f fr to d p 0) (hl:f.length≤900) (h':AddR p fr to (-d) out e):e=0∧out=f:=by
  obtain ⟨c1,c2,c3⟩:=h.cond
  obtain ⟨h1,h2,h3⟩:=h.ok
  have hlp:=h.len2
  have hneg:∀ t:Int,-1≤t→val p t+(if fr≤t∧t<to then -d else 0)=val f t:=fun t ht=>by
    rw [h3 t ht]
    by_cases hc:fr≤t∧t<to
    · rw [if_pos hc,if_pos hc]; omega
    · rw [if_neg hc,if_neg hc]; omega
  have he:e=0:=h'.err0 h2 c1 (by omega) (fun t=>by
    by_cases ht:-1≤t
    · rw [hneg t ht]; exact okV_val h1 t
    · rw [if_neg (by omega)]
      have:=okV_val h2 t
      unfold okV at this ⊢
      omega) (by omega)
  subst he
  obtain ⟨_,k2,k3⟩:=h'.ok
  exact ⟨rfl,chkS_unique k2 h1 (fun t ht=>by rw [k3 t ht,hneg t ht])⟩
theorem AddR.swap {f p q r s:List Lv} {a1 a2 a b1 b2 b:Int} (h1:AddR f a1 a2 a p 0) (h2:AddR p b1 b2 b q 0) (h3:AddR f b1 b2 b r 0) (h4:AddR r a1 a2 a s 0):q=s:=by
  obtain ⟨_,_,e1⟩:=h1.ok
  obtain ⟨_,k2,e2⟩:=h2.ok
  obtain ⟨_,_,e3⟩:=h3.ok
  obtain ⟨_,k4,e4⟩:=h4.ok
  exact chkS_unique k2 k4 (fun t ht=>by rw [e2 t ht,e1 t ht,e4 t ht,e3 t ht]; omega)
theorem tms_comm (f g:List Lv):tms f g=tms g f:=by
  obtain ⟨a1,a2⟩:=tms_sa f g
  obtain ⟨b1,b2⟩:=tms_sa g f
  refine SA.unique a1 b1 (fun x=>?_)
  rw [a2,b2]
  constructor <;> (rintro ⟨l,hl,e⟩; exact ⟨l,by rw [List.mem_append] at hl ⊢; exact hl.symm,e⟩)
theorem SumR.comm {f g o:List Lv} {e:Int} (h:SumR f g o e):SumR g f o e:=by
  rcases h with ⟨a,b,c⟩|⟨a,b,c⟩
  · exact .inl ⟨a.symm,b,c⟩
  · refine .inr ⟨b,a,?_⟩
    rw [tms_comm g f]
    have:(fun t=>val g t+val f t)=(fun t=>val f t+val g t):=funext (fun t=>Int.add_comm _ _)
    rw [this]; exact c
theorem SumR.ok {f g o:List Lv} (h:SumR f g o 0):chkS f=0∧chkS g=0∧chkS o=0∧∀ t:Int,-1≤t→val o t=val f t+val g t:=by
  rcases h with ⟨_,_,h⟩|⟨a,b,c⟩
  · simp at h
  · obtain ⟨h1,h2⟩:=CombP.ok (op:=(· + ·)) (chkS_ok a).2.t (chkS_ok b).2.t rfl c
    exact ⟨a,b,h1,h2⟩
end Go.Step
namespace Go.Step
end Go.Step
namespace Go.Step
def Cov (l:List (Int × Int)) (t:Int):Prop:=∃ s∈l,s.1≤t∧t<s.2
structure Apart (lo a:Int) (l:List (Int × Int)):Prop where
  ok:∀ s∈l,lo≤s.1∧s.1<s.2∧s.2≤a
  sep:l.Pairwise (fun s t=>s.2<t.1)
end Go.Step
namespace Go.Step
structure InvF (Q s:Int) (G:Int→Int) (T v:Int) (st:Int × List (Int × Int)):Prop where
  ap:Apart 0 T st.2
  fr:st.1 = -1∨(0≤st.1∧st.1≤T∧∀ u∈st.2,u.2<st.1)
  cov:∀ t,0≤t→t<T→((Cov st.2 t∨(0≤st.1∧st.1≤t))↔G t+s≤Q)
  now:0≤st.1↔v+s≤Q
theorem cov_snoc (l:List (Int × Int)) (x:Int × Int) (t:Int):Cov (l ++ [x]) t↔Cov l t∨(x.1≤t∧t<x.2):=by
  unfold Cov
  constructor
  · rintro ⟨s,hs,h⟩
    rcases List.mem_append.1 hs with hs|hs
    · exact .inl ⟨s,hs,h⟩
    · simp only [List.mem_singleton] at hs; subst hs; exact .inr h
  · rintro (⟨s,hs,h⟩|h)
    · exact ⟨s,by simp [hs],h⟩
    · exact ⟨x,by simp,h⟩
theorem apart_snoc {T T':Int} {l:List (Int × Int)} {x:Int × Int} (h:Apart 0 T l) (hT:T≤T') (hx:0≤x.1∧x.1<x.2∧x.2≤T') (hs:∀ u∈l,u.2<x.1):Apart 0 T' (l ++ [x]):=by
  refine ⟨fun s hm=>?_,List.pairwise_append.2 ⟨h.sep,by simp,fun a ha b hb=>?_⟩⟩
  · rcases List.mem_append.1 hm with hm|hm
    · have:=h.ok s hm; omega
    · simp only [List.mem_singleton] at hm; subst hm; exact hx
  · simp only [List.mem_singleton] at hb; subst hb; exact hs a ha
theorem apart_mono {T T':Int} {l:List (Int × Int)} (h:Apart 0 T l) (hT:T≤T'):Apart 0 T' l:=⟨fun s hm=>by have:=h.ok s hm; omega,h.sep⟩
theorem InvF.step {Q s:Int} {G:Int→Int} {T v:Int} {st:Int × List (Int × Int)} (h:InvF Q s G T v st) {T' v':Int} (h0:0≤T) (hT:T<T'∨(T=T'∧st.2=[])) (hG:∀ t,T≤t→t<T'→G t=v):InvF Q s G T' v' (frA Q s st T' v'):=by
  have hle:T≤T':=by omega
  obtain ⟨fr,out⟩:=st
  obtain ⟨hap,hfr,hcov,hnow⟩:=h
  dsimp only at hap hfr hcov hnow hT
  unfold frA
  by_cases hc:Q-v'<s
  · rw [if_pos hc]
    dsimp only
    by_cases ho:0≤fr∧fr<T'
    · rw [if_pos ho]
      have hsep:∀ u∈out,u.2<fr:=by rcases hfr with h|h; omega; exact h.2.2
      refine ⟨apart_snoc hap hle ⟨ho.1,ho.2,Int.le_refl _⟩ hsep,.inl rfl,fun t ht ht2=>?_,by constructor <;> intro h <;> omega⟩
      dsimp only
      rw [cov_snoc]
      dsimp only
      by_cases c:t<T
      · have:=hcov t ht c
        rw [← this]
        constructor
        · rintro ((h|h)|h)
          · exact .inl h
          · exact .inr ⟨ho.1,h.1⟩
          · omega
        · rintro (h|h)
          · exact .inl (.inl h)
          · exact .inl (.inr ⟨h.2,ht2⟩)
      · rw [hG t (by omega) ht2]
        have:=hnow.1 ho.1
        constructor
        · intro _; exact this
        · intro _
          refine .inl (.inr ⟨?_,ht2⟩)
          rcases hfr with h|h <;> omega
    · rw [if_neg ho]
      refine ⟨apart_mono hap hle,.inl rfl,fun t ht ht2=>?_,by constructor <;> intro h <;> dsimp only at * <;> omega⟩
      dsimp only
      by_cases c:t<T
      · rw [← hcov t ht c]
        constructor
        · rintro (h|h)
          · exact .inl h
          · omega
        · rintro (h|h)
          · exact .inl h
          · omega
      · rw [hG t (by omega) ht2]
        constructor
        · rintro (⟨u,hu,h⟩|h)
          · have:=hap.ok u hu; omega
          · omega
        · intro h
          have:=hnow.2 h
          exact absurd ⟨this,by rcases hfr with k|k <;> omega⟩ ho
  · rw [if_neg hc]
    dsimp only
    by_cases ho:fr<0
    · rw [if_pos ho]
      refine ⟨apart_mono hap hle,.inr ⟨by dsimp only; omega,Int.le_refl _,fun u hu=>?_⟩,fun t ht ht2=>?_,by constructor <;> intro h <;> dsimp only at * <;> omega⟩
      · dsimp only at hu ⊢
        have:=hap.ok u hu
        rcases hT with h|h
        · omega
        · rw [h.2] at hu; simp at hu
      · dsimp only
        by_cases c:t<T
        · rw [← hcov t ht c]
          constructor
          · rintro (h|h)
            · exact .inl h
            · omega
          · rintro (h|h)
            · exact .inl h
            · omega
        · rw [hG t (by omega) ht2]
          constructor
          · rintro (⟨u,hu,h⟩|h)
            · have:=hap.ok u hu; omega
            · omega
          · intro h
            have:=hnow.2 h; omega
    · rw [if_neg ho]
      have hf:0≤fr∧fr≤T∧∀ u∈out,u.2<fr:=by
        rcases hfr with h|h
        · omega
        · exact h
      refine ⟨apart_mono hap hle,.inr ⟨hf.1,by dsimp only; omega,hf.2.2⟩,fun t ht ht2=>?_,by constructor <;> intro h <;> dsimp only at * <;> omega⟩
      dsimp only
      by_cases c:t<T
      · exact hcov t ht c
      · rw [hG t (by omega) ht2]
        have:=hnow.1 hf.1
        constructor
        · intro _; exact this
        · intro _; exact .inr ⟨hf.1,by omega⟩
theorem InvF.fin {Q s:Int} {G:Int→Int} {T v:Int} {st:Int × List (Int × Int)} (h:InvF Q s G T v st) (h0:0≤T) (hT:T≤1099511627776) (hG:∀ t,T≤t→t<1099511627776→G t=v) :
    Apart 0 1099511627776 (finA st)∧∀ t,0≤t→t<1099511627776→(Cov (finA st) t↔G t+s≤Q):=by
  obtain ⟨fr,out⟩:=st
  obtain ⟨hap,hfr,hcov,hnow⟩:=h
  dsimp only at hap hfr hcov hnow
  unfold finA
  dsimp only
  by_cases ho:0≤fr∧fr<1099511627776
  · rw [if_pos ho]
    have hf:fr≤T∧∀ u∈out,u.2<fr:=by rcases hfr with h|h; omega; exact h.2
    refine ⟨apart_snoc hap hT ⟨ho.1,ho.2,Int.le_refl _⟩ hf.2,fun t ht ht2=>?_⟩
    rw [cov_snoc]
    dsimp only
    by_cases c:t<T
    · rw [← hcov t ht c]
      constructor
      · rintro (h|h)
        · exact .inl h
        · exact .inr ⟨ho.1,h.1⟩
      · rintro (h|h)
        · exact .inl h
        · exact .inr ⟨h.2,ht2⟩
    · rw [hG t (by omega) ht2]
      have:=hnow.1 ho.1
      constructor
      · intro _; exact this
      · intro _; exact .inr ⟨by omega,ht2⟩
  · rw [if_neg ho]
    refine ⟨apart_mono hap hT,fun t ht ht2=>?_⟩
    by_cases c:t<T
    · rw [← hcov t ht c]
      constructor
      · exact fun h=>.inl h
      · rintro (h|h)
        · exact h
        · omega
    · rw [hG t (by omega) ht2]
      constructor
      · rintro ⟨u,hu,h⟩
        have:=hap.ok u hu; omega
      · intro h
        have:=hnow.2 h
        exact absurd ⟨this,by rcases hfr with k|k <;> omega⟩ ho
end Go.Step
namespace Go.Step
end Go.Step
namespace Go.Step
end Go.Step
namespace Go.Step
structure Dm where
  s:Int
  d:Int
  v:Int
  r:Int
  e:Int
deriving DecidableEq
def okDm (nq:Nat) (d:Dm):Prop:=(0≤d.s∧d.s<nq)∧(0≤d.d∧d.d<nq)∧d.s≠d.d∧(1≤d.v∧d.v≤1099511627776)∧(0≤d.r∧d.r<d.e∧d.e≤1099511627776∧d.e-d.r≤100)
instance (nq:Nat) (d:Dm):Decidable (okDm nq d):=inferInstanceAs (Decidable (_∧_))
end Go.Step
namespace Go.Step
end Go.Step
namespace Go.Step
def okSp (x:Int × Int):Prop:=x.1<x.2 ∧ -1152921504606846976≤x.1∧x.2≤1152921504606846976
instance (x:Int × Int):Decidable (okSp x):=inferInstanceAs (Decidable (_∧_))
def spE (l:List (Int × Int)) (i:Nat):Int:=match l[i]? with
  | some x=>if ¬ okSp x then 2 else if 0<i∧x.1≤(l.getD (i-1) x).2 then 9 else 0
  | none=>0
theorem spE_at {l:List (Int × Int)} {i:Nat} {x:Int × Int} (e:l[i]?=some x):spE l i=if ¬ okSp x then 2 else if 0<i∧x.1≤(l.getD (i-1) x).2 then 9 else 0:=by unfold spE; rw [e]
def chkI (l:List (Int × Int)):Int:=if 1000<l.length then 4 else firstE (spE l) l.length
def inSp (t:Int) (x:Int × Int):Bool:=decide (x.1≤t) && decide (t<x.2)
end Go.Step
namespace Go.Step
end Go.Step
namespace Go.Step
theorem chkI_at {l:List (Int × Int)} (h:chkI l=0) {i:Nat} (hi:i<l.length):l[i].1<l[i].2∧(∀ h0:0<i,l[i-1].2<l[i].1):=by
  unfold chkI at h
  split at h
  · simp at h
  have h2:=firstE_zero h i hi
  rw [spE_at (List.getElem?_eq_getElem hi)] at h2
  split at h2
  · simp at h2
  rename_i h3
  split at h2
  · simp at h2
  rename_i h4
  have h5:okSp l[i]:=Decidable.not_not.1 h3
  refine ⟨h5.1,fun h0=>?_⟩
  rw [List.getD_eq_getElem?_getD,List.getElem?_eq_getElem (by omega),Option.getD_some] at h4
  omega
theorem chkI_hi {l:List (Int × Int)} (h:chkI l=0):∀ (k:Nat) {i:Nat} (hi:i+k<l.length),l[i].2≤l[i+k].2
  | 0,i,hi=>Int.le_refl _
  | k+1,i,hi=>by
    have h1:=chkI_hi h k (i:=i) (by omega)
    have h2:=(chkI_at h (i:=i+(k+1)) hi).1
    have h3:=(chkI_at h hi).2 (by omega)
    have e:i+(k+1)-1=i+k:=by omega
    simp only [e] at h3;omega
end Go.Step
namespace Go.Step
abbrev Iv:=List (Int × Int)
def NormI (l:Iv):Prop:=(∀ x∈l,x.1<x.2)∧l.Pairwise (fun x y=>x.2<y.1)
def memI (l:Iv) (t:Int):Bool:=l.any (inSp t)
theorem inSp_iff {t:Int} {x:Int × Int}:inSp t x=true↔x.1≤t∧t<x.2:=by simp [inSp]
theorem memI_iff {l:Iv} {t:Int}:memI l t=true↔∃ x∈l,x.1≤t∧t<x.2:=by simp [memI,inSp]
theorem memI_cons (x:Int × Int) (l:Iv) (t:Int):memI (x::l) t=(inSp t x || memI l t):=rfl
theorem NormI.nil:NormI []:=⟨by simp,.nil⟩
theorem NormI.tail {x:Int × Int} {l:Iv} (h:NormI (x::l)):NormI l:=⟨fun y hy=>h.1 y (by simp [hy]),(List.pairwise_cons.1 h.2).2⟩
theorem NormI.hd {x:Int × Int} {l:Iv} (h:NormI (x::l)):x.1<x.2∧∀ y∈l,x.2<y.1:=⟨h.1 x (by simp),(List.pairwise_cons.1 h.2).1⟩
theorem NormI.cons {x:Int × Int} {l:Iv} (h:NormI l) (h1:x.1<x.2) (h2:∀ y∈l,x.2<y.1):NormI (x::l):=
  ⟨fun y hy=>by
    rcases List.mem_cons.1 hy with rfl|hy
    · exact h1
    · exact h.1 y hy,List.pairwise_cons.2 ⟨h2,h.2⟩⟩
theorem memI_lo {x:Int × Int} {l:Iv} {t:Int} (h:NormI (x::l)) (hm:memI (x::l) t=true):x.1≤t:=by
  obtain ⟨y,hy,h1,h2⟩:=memI_iff.1 hm
  rcases List.mem_cons.1 hy with rfl|hy
  · exact h1
  · have a:=h.hd.1
    have b:=h.hd.2 y hy
    omega
theorem memI_lo2 {x:Int × Int} {l:Iv} {t:Int} (h:NormI (x::l)) (hm:memI l t=true):x.2<t:=by
  obtain ⟨y,hy,h1,h2⟩:=memI_iff.1 hm
  have b:=h.hd.2 y hy
  omega
theorem memI_first {x:Int × Int} {l:Iv} (h:x.1<x.2):memI (x::l) x.1=true:=memI_iff.2 ⟨x,by simp,by omega,h⟩
theorem normI_ext:∀ {a b:Iv},NormI a→NormI b→(∀ t,memI a t=memI b t)→a=b
  | [],[],_,_,_=>rfl
  | [],y::b,_,hb,h=>by
    have:=h y.1
    rw [memI_first hb.hd.1] at this
    exact absurd this (by simp [memI])
  | x::a,[],ha,_,h=>by
    have:=h x.1
    rw [memI_first ha.hd.1] at this
    exact absurd this (by simp [memI])
  | x::a,y::b,ha,hb,h=>by
    have e1:x.1=y.1:=by
      have h1:=memI_lo hb (t:=x.1) (by rw [← h]; exact memI_first ha.hd.1)
      have h2:=memI_lo ha (t:=y.1) (by rw [h]; exact memI_first hb.hd.1)
      omega
    have hx:=ha.hd.1
    have hy:=hb.hd.1
    have e2:x.2=y.2:=by
      apply Int.le_antisymm
      · apply Int.not_lt.1
        intro hlt
        have h1:=h y.2
        rw [memI_cons,memI_cons,(inSp_iff (t:=y.2) (x:=x)).2 ⟨by omega,hlt⟩,Bool.true_or] at h1
        rcases (Bool.or_eq_true _ _).mp h1.symm with h2|h2
        · have:=(inSp_iff.1 h2).2; omega
        · have:=memI_lo2 hb h2; omega
      · apply Int.not_lt.1
        intro hlt
        have h1:=h x.2
        rw [memI_cons,memI_cons,(inSp_iff (t:=x.2) (x:=y)).2 ⟨by omega,hlt⟩,Bool.true_or] at h1
        rcases (Bool.or_eq_true _ _).mp h1 with h2|h2
        · have:=(inSp_iff.1 h2).2; omega
        · have:=memI_lo2 ha h2; omega
    have exy:x=y:=Prod.ext e1 e2
    subst exy
    congr 1
    refine normI_ext ha.tail hb.tail (fun t=>?_)
    by_cases ht:x.2<t
    · have h1:=h t
      have h2:inSp t x=false:=by
        cases e:inSp t x with
        | false=>rfl
        | true=>have:=(inSp_iff.1 e).2; omega
      rw [memI_cons,memI_cons,h2,Bool.false_or,Bool.false_or] at h1;exact h1
    · have h1:memI a t=false:=by
        cases e:memI a t with
        | false=>rfl
        | true=>exact absurd (memI_lo2 ha e) ht
      have h2:memI b t=false:=by
        cases e:memI b t with
        | false=>rfl
        | true=>exact absurd (memI_lo2 hb e) ht
      rw [h1,h2]
/-! sets that are checked -/
theorem chkI_norm {l:Iv} (h:chkI l=0):l.length≤1000∧NormI l∧∀ x∈l,okSp x:=by
  have h1:l.length≤1000:=by
    unfold chkI at h
    split at h
    · simp at h
    · omega
  refine ⟨h1,⟨fun x hx=>?_,List.pairwise_iff_getElem.2 (fun i j hi hj hij=>?_)⟩,fun x hx=>?_⟩
  · obtain ⟨i,hi,rfl⟩:=List.getElem_of_mem hx
    exact (chkI_at h hi).1
  · have a:=chkI_hi h (j-1-i) (i:=i) (by omega)
    have b:=(chkI_at h hj).2 (by omega)
    have e:i+(j-1-i)=j-1:=by omega
    simp only [e] at a;omega
  · obtain ⟨i,hi,rfl⟩:=List.getElem_of_mem hx
    unfold chkI at h
    rw [if_neg (by omega)] at h
    have h2:=firstE_zero h i hi
    rw [spE_at (List.getElem?_eq_getElem hi)] at h2
    split at h2
    · simp at h2
    · rename_i h3; exact Decidable.not_not.1 h3
theorem chkI_of {l:Iv} (h1:l.length≤1000) (h2:NormI l) (h3:∀ x∈l,okSp x):chkI l=0:=by
  unfold chkI
  rw [if_neg (by omega)]
  refine firstE_all (fun k hk=>?_)
  rw [spE_at (List.getElem?_eq_getElem hk),if_neg (fun h=>h (h3 _ (List.getElem_mem hk)))]
  by_cases h0:0<k
  · have h4:=List.pairwise_iff_getElem.1 h2.2 (k-1) k (by omega) hk (by omega)
    rw [if_neg]
    rw [List.getD_eq_getElem?_getD,List.getElem?_eq_getElem (by omega),Option.getD_some]
    omega
  · rw [if_neg (fun h=>h0 h.1)]
/-! one more span -/
/-! intersection,span by span -/
/-! ends of spans -/
def tog (l:Iv):List Int:=l.flatMap (fun x=>[x.1,x.2])
theorem tog_len:∀ l:Iv,(tog l).length=2*l.length
  | []=>rfl
  | x::l=>by
    have:=tog_len l
    show (x.1::x.2::tog l).length=_
    simp only [List.length_cons];omega
theorem tog_get:∀ (l:Iv) (i:Nat) (x:Int × Int),l[i]?=some x→(tog l)[2*i]?=some x.1∧(tog l)[2*i+1]?=some x.2
  | [],i,x,h=>by simp at h
  | y::l,0,x,h=>by
    simp only [List.getElem?_cons_zero,Option.some.injEq] at h;subst h;exact ⟨rfl,rfl⟩
  | y::l,i+1,x,h=>by
    have:=tog_get l i x (by simpa using h)
    show (y.1::y.2::tog l)[2*(i+1)]?=_∧(y.1::y.2::tog l)[2*(i+1)+1]?=_
    rw [show 2*(i+1)=2*i+1+1 by omega]
    exact this
def parT:List Int→Int→Bool
  | [],_=>false
  | e::E,t=>if e≤t then !(parT E t) else parT E t
theorem parT_tog:∀ {l:Iv},NormI l→∀ t,parT (tog l) t=memI l t
  | [],_,t=>rfl
  | x::l,h,t=>by
    have ih:=parT_tog h.tail t
    have hx:=h.hd.1
    show (if x.1≤t then !(if x.2≤t then !(parT (tog l) t) else parT (tog l) t) else (if x.2≤t then !(parT (tog l) t) else parT (tog l) t))=(inSp t x || memI l t)
    rw [ih]
    have h1:t≤x.2→memI l t=false:=fun hle=>by
      cases e:memI l t with
      | false=>rfl
      | true=>have:=memI_lo2 h e; omega
    have h2:inSp t x=decide (x.1≤t∧t<x.2):=by rw [Bool.eq_iff_iff,inSp_iff,decide_eq_true_eq]
    rw [h2]
    by_cases c1:x.1≤t
    · by_cases c2:x.2≤t
      · rw [if_pos c1,if_pos c2,decide_eq_false (by omega),Bool.not_not,Bool.false_or]
      · rw [if_pos c1,if_neg c2,decide_eq_true (by omega),h1 (by omega)]; rfl
    · rw [if_neg c1,if_neg (by omega),decide_eq_false (by omega),Bool.false_or]
def oddB (n:Nat):Bool:=decide (n % 2=1)
theorem oddB_succ (n:Nat):oddB (n+1) = !(oddB n):=by
  unfold oddB
  by_cases h:n % 2=1
  · rw [decide_eq_true h,decide_eq_false (by omega)]; rfl
  · rw [decide_eq_false h,decide_eq_true (by omega)]; rfl
theorem parT_snoc (t x:Int):∀ O:List Int,parT (O ++ [t]) x=if t≤x then !(parT O x) else parT O x
  | []=>by simp [parT]
  | o::O=>by
    have ih:=parT_snoc t x O
    show (if o≤x then !(parT (O ++ [t]) x) else parT (O ++ [t]) x)=if t≤x then !(if o≤x then !(parT O x) else parT O x) else (if o≤x then !(parT O x) else parT O x)
    rw [ih]
    split <;> split <;> rfl
theorem parT_all {x:Int}:∀ {O:List Int},(∀ o∈O,o≤x)→parT O x=oddB O.length
  | [],_=>rfl
  | o::O,h=>by
    show (if o≤x then !(parT O x) else parT O x)=oddB (O.length+1)
    rw [if_pos (h o (by simp)),parT_all (fun p hp=>h p (by simp [hp])),oddB_succ]
theorem parT_none {x:Int}:∀ {O:List Int},(∀ o∈O,x<o)→parT O x=false
  | [],_=>rfl
  | o::O,h=>by
    show (if o≤x then !(parT O x) else parT O x)=false
    have:=h o (by simp)
    rw [if_neg (by omega),parT_none (fun p hp=>h p (by simp [hp]))]
def mrg:List Int→Bool→List Int→Bool→List (Int × Bool × Bool)
  | [],_,[],_=>[]
  | a::A,p,[],q=>(a,!p,q)::mrg A (!p) [] q
  | [],p,b::B,q=>(b,p,!q)::mrg [] p B (!q)
  | a::A,p,b::B,q=>if a<b then (a,!p,q)::mrg A (!p) (b::B) q else if b<a then (b,p,!q)::mrg (a::A) p B (!q) else (a,!p,!q)::mrg A (!p) B (!q)
termination_by A _ B _=>A.length+B.length
def mcomb1 (f:Bool→Bool→Bool) (O:List Int) (e:Int × Bool × Bool):List Int:=if f e.2.1 e.2.2=oddB O.length then O else O ++ [e.1]
def mcomb (f:Bool→Bool→Bool) (S:List (Int × Bool × Bool)) (O:List Int):List Int:=S.foldl (mcomb1 f) O
theorem comb1_odd (f:Bool→Bool→Bool) (O:List Int) (e:Int × Bool × Bool):oddB (mcomb1 f O e).length=f e.2.1 e.2.2:=by
  unfold mcomb1
  split
  · rename_i h; exact h.symm
  · rename_i h
    rw [List.length_append,List.length_singleton,oddB_succ]
    cases h1:oddB O.length <;> cases h2:f e.2.1 e.2.2 <;> simp_all
structure Cm (f:Bool→Bool→Bool) (A:List Int) (p:Bool) (B:List Int) (q:Bool) (O O':List Int):Prop where
  asc:O'.Pairwise (· < ·)
  hi:∀ x,(∀ o∈O,o≤x)→parT O' x=f (p ^^ parT A x) (q ^^ parT B x)
  lo:∀ x,(∀ a∈A,x<a)→(∀ b∈B,x<b)→parT O' x=parT O x
  len:O'.length≤O.length+A.length+B.length
theorem Cm.step {f:Bool→Bool→Bool} {A A1:List Int} {p p1:Bool} {B B1:List Int} {q q1:Bool} {O O':List Int} {t:Int}
    (h:Cm f A1 p1 B1 q1 (mcomb1 f O (t,p1,q1)) O') (ho:oddB O.length=f p q) (hA:∀ a∈A,t≤a) (hB:∀ b∈B,t≤b) (hOt:∀ o∈O,o<t)
    (eA:∀ x,t≤x→(p1 ^^ parT A1 x)=(p ^^ parT A x)) (eB:∀ x,t≤x→(q1 ^^ parT B1 x)=(q ^^ parT B x)) (sA:∀ a∈A1,t<a) (sB:∀ b∈B1,t<b) (hl:A1.length+B1.length+1≤A.length+B.length) (hin:t∈A∨t∈B):Cm f A p B q O O':=by
  have hmem:∀ o∈mcomb1 f O (t,p1,q1),o≤t:=fun o ho=>by
    unfold mcomb1 at ho
    split at ho
    · have:=hOt o ho; omega
    · rcases List.mem_append.1 ho with h|h
      · have:=hOt o h; omega
      · have:=List.mem_singleton.1 h; omega
  have hpre:∀ x,x<t→parT (mcomb1 f O (t,p1,q1)) x=parT O x:=fun x hx=>by
    unfold mcomb1
    split
    · rfl
    · rw [parT_snoc,if_neg (by dsimp only; omega)]
  have hcl:(mcomb1 f O (t,p1,q1)).length≤O.length+1:=by
    unfold mcomb1
    split
    · omega
    · simp
  refine ⟨h.asc,fun x hx=>?_,fun x hx hy=>?_,by have:=h.len; omega⟩
  · by_cases ht:t≤x
    · rw [h.hi x (fun o ho=>Int.le_trans (hmem o ho) ht),eA x ht,eB x ht]
    · rw [h.lo x (fun a ha=>by have:=sA a ha; omega) (fun b hb=>by have:=sB b hb; omega),hpre x (by omega),parT_all hx,parT_none (fun a ha=>by have:=hA a ha; omega),parT_none (fun b hb=>by have:=hB b hb; omega),Bool.xor_false,Bool.xor_false,ho]
  · have ht:x<t:=by
      rcases hin with h|h
      · exact hx t h
      · exact hy t h
    rw [h.lo x (fun a ha=>by have:=sA a ha; omega) (fun b hb=>by have:=sB b hb; omega),hpre x ht]
theorem comb1_asc {f:Bool→Bool→Bool} {O:List Int} {e:Int × Bool × Bool} (h:O.Pairwise (· < ·)) (ho:∀ o∈O,o<e.1):(mcomb1 f O e).Pairwise (· < ·):=by
  unfold mcomb1
  split
  · exact h
  · rw [List.pairwise_append]
    exact ⟨h,List.pairwise_singleton _ _,fun a ha b hb=>by rw [List.mem_singleton.1 hb]; exact ho a ha⟩
theorem comb1_lt {f:Bool→Bool→Bool} {O:List Int} {e:Int × Bool × Bool} {S:List Int} (ho:∀ o∈O,∀ a∈S,o<a) (he:∀ a∈S,e.1<a):∀ o∈mcomb1 f O e,∀ a∈S,o<a:=fun o h a ha=>by
  unfold mcomb1 at h
  split at h
  · exact ho o h a ha
  · rcases List.mem_append.1 h with h|h
    · exact ho o h a ha
    · rw [List.mem_singleton.1 h]; exact he a ha
theorem comb_ok (f:Bool→Bool→Bool):∀ (n:Nat) (A:List Int) (p:Bool) (B:List Int) (q:Bool) (O:List Int),A.length+B.length≤n→A.Pairwise (· < ·)→B.Pairwise (· < ·)→O.Pairwise (· < ·)→(∀ o∈O,∀ a∈A,o<a)→(∀ o∈O,∀ b∈B,o<b)→oddB O.length=f p q→Cm f A p B q O (mcomb f (mrg A p B q) O):=by
  have flip:∀ (p z:Bool),(!p ^^ z)=(p ^^ !z):=by decide
  intro n
  induction n with
  | zero =>
    intro A p B q O hn _ _ hO _ _ ho
    obtain rfl:A=[]:=List.eq_nil_of_length_eq_zero (by omega)
    obtain rfl:B=[]:=List.eq_nil_of_length_eq_zero (by omega)
    unfold mrg
    exact ⟨hO,fun x hx=>by rw [show mcomb f [] O=O from rfl,parT_all hx,ho]; simp [parT],fun _ _ _=>rfl,by show O.length≤_; omega⟩
  | succ n ih =>
    intro A p B q O hn hA hB hO hOA hOB ho
    match A,B,hn,hA,hB,hOA,hOB with
    | [],[],_,_,_,_,_ =>
      unfold mrg
      exact ⟨hO,fun x hx=>by rw [show mcomb f [] O=O from rfl,parT_all hx,ho]; simp [parT],fun _ _ _=>rfl,by show O.length≤_; omega⟩
    | a::A,[],hn,hA,hB,hOA,hOB =>
      unfold mrg
      obtain ⟨a1,a2⟩:=List.pairwise_cons.1 hA
      refine Cm.step (t:=a) (ih A (!p) [] q (mcomb1 f O (a,!p,q)) (by simp at hn ⊢; omega) a2 hB (comb1_asc hO (fun o h=>hOA o h a (by simp))) (comb1_lt (fun o h x hx=>hOA o h x (by simp [hx])) a1) (fun _ _ _ h=>by simp at h) (comb1_odd f O _)) ho (fun x hx=>?_) (fun _ h=>by simp at h) (fun o h=>hOA o h a (by simp)) (fun x hx=>?_) (fun _ _=>rfl) a1 (fun _ h=>by simp at h) (by simp) (.inl (by simp))
      · rcases List.mem_cons.1 hx with rfl|hx
        · exact Int.le_refl _
        · exact Int.le_of_lt (a1 x hx)
      · show (!p ^^ parT A x)=(p ^^ if a≤x then !(parT A x) else parT A x)
        rw [if_pos hx,flip]
    | [],b::B,hn,hA,hB,hOA,hOB =>
      unfold mrg
      obtain ⟨b1,b2⟩:=List.pairwise_cons.1 hB
      refine Cm.step (t:=b) (ih [] p B (!q) (mcomb1 f O (b,p,!q)) (by simp at hn ⊢; omega) hA b2 (comb1_asc hO (fun o h=>hOB o h b (by simp))) (fun _ _ _ h=>by simp at h) (comb1_lt (fun o h x hx=>hOB o h x (by simp [hx])) b1) (comb1_odd f O _)) ho (fun _ h=>by simp at h) (fun x hx=>?_) (fun o h=>hOB o h b (by simp)) (fun _ _=>rfl) (fun x hx=>?_) (fun _ h=>by simp at h) b1 (by simp) (.inr (by simp))
      · rcases List.mem_cons.1 hx with rfl|hx
        · exact Int.le_refl _
        · exact Int.le_of_lt (b1 x hx)
      · show (!q ^^ parT B x)=(q ^^ if b≤x then !(parT B x) else parT B x)
        rw [if_pos hx,flip]
    | a::A,b::B,hn,hA,hB,hOA,hOB =>
      obtain ⟨a1,a2⟩:=List.pairwise_cons.1 hA
      obtain ⟨b1,b2⟩:=List.pairwise_cons.1 hB
      have la:∀ x∈a::A,a≤x:=fun x hx=>by
        rcases List.mem_cons.1 hx with rfl|hx
        · exact Int.le_refl _
        · exact Int.le_of_lt (a1 x hx)
      have lb:∀ x∈b::B,b≤x:=fun x hx=>by
        rcases List.mem_cons.1 hx with rfl|hx
        · exact Int.le_refl _
        · exact Int.le_of_lt (b1 x hx)
      unfold mrg
      split
      · rename_i hc
        refine Cm.step (t:=a) (ih A (!p) (b::B) q (mcomb1 f O (a,!p,q)) (by simp at hn ⊢; omega) a2 hB (comb1_asc hO (fun o h=>hOA o h a (by simp))) (comb1_lt (fun o h x hx=>hOA o h x (by simp [hx])) a1) (comb1_lt hOB (fun x hx=>by have:=lb x hx; dsimp only; omega)) (comb1_odd f O _)) ho la (fun x hx=>by have:=lb x hx; omega) (fun o h=>hOA o h a (by simp)) (fun x hx=>?_) (fun _ _=>rfl) a1 (fun x hx=>by have:=lb x hx; omega) (by simp only [List.length_cons]; omega) (.inl (by simp))
        show (!p ^^ parT A x)=(p ^^ if a≤x then !(parT A x) else parT A x)
        rw [if_pos hx,flip]
      · rename_i hc
        split
        · rename_i hc2
          refine Cm.step (t:=b) (ih (a::A) p B (!q) (mcomb1 f O (b,p,!q)) (by simp at hn ⊢; omega) hA b2 (comb1_asc hO (fun o h=>hOB o h b (by simp))) (comb1_lt hOA (fun x hx=>by have:=la x hx; dsimp only; omega)) (comb1_lt (fun o h x hx=>hOB o h x (by simp [hx])) b1) (comb1_odd f O _)) ho (fun x hx=>by have:=la x hx; omega) lb (fun o h=>hOB o h b (by simp)) (fun _ _=>rfl) (fun x hx=>?_) (fun x hx=>by have:=la x hx; omega) b1 (by simp only [List.length_cons]; omega) (.inr (by simp))
          show (!q ^^ parT B x)=(q ^^ if b≤x then !(parT B x) else parT B x)
          rw [if_pos hx,flip]
        · rename_i hc2
          have hab:a=b:=by omega
          subst hab
          refine Cm.step (t:=a) (ih A (!p) B (!q) (mcomb1 f O (a,!p,!q)) (by simp at hn ⊢; omega) a2 b2 (comb1_asc hO (fun o h=>hOA o h a (by simp))) (comb1_lt (fun o h x hx=>hOA o h x (by simp [hx])) a1) (comb1_lt (fun o h x hx=>hOB o h x (by simp [hx])) b1) (comb1_odd f O _)) ho la lb (fun o h=>hOA o h a (by simp)) (fun x hx=>?_) (fun x hx=>?_) a1 b1 (by simp only [List.length_cons]; omega) (.inl (by simp))
          · show (!p ^^ parT A x)=(p ^^ if a≤x then !(parT A x) else parT A x)
            rw [if_pos hx,flip]
          · show (!q ^^ parT B x)=(q ^^ if a≤x then !(parT B x) else parT B x)
            rw [if_pos hx,flip]
theorem tog_asc:∀ {l:Iv},NormI l→(tog l).Pairwise (· < ·)∧∀ lo,(∀ x∈l,lo<x.1)→∀ e∈tog l,lo<e
  | [],_=>⟨.nil,fun _ _ _ h=>by simp [tog] at h⟩
  | x::l,h=>by
    obtain ⟨h1,h2⟩:=tog_asc h.tail
    have e:tog (x::l)=x.1::x.2::tog l:=rfl
    have hx:=h.hd.1
    have h3:=h2 x.2 h.hd.2
    rw [e]
    refine ⟨List.pairwise_cons.2 ⟨fun a ha=>?_,List.pairwise_cons.2 ⟨h3,h1⟩⟩,fun lo hlo a ha=>?_⟩
    · rcases List.mem_cons.1 ha with rfl|ha
      · exact hx
      · have:=h3 a ha; omega
    · have:=hlo x (by simp)
      rcases List.mem_cons.1 ha with rfl|ha
      · exact this
      · rcases List.mem_cons.1 ha with rfl|ha
        · omega
        · have:=h3 a ha; omega
def spans:List Int→Iv
  | []=>[]
  | [a]=>[(a,0)]
  | a::b::E=>(a,b)::spans E
theorem spans_len:∀ E:List Int,(spans E).length=(E.length+1) / 2
  | []=>rfl
  | [_]=>by simp [spans]
  | a::b::E=>by
    have:=spans_len E
    simp only [spans,List.length_cons];omega
theorem spans_even (t:Int):∀ {E:List Int},oddB E.length=false→spans (E ++ [t])=spans E ++ [(t,0)]
  | [],_=>rfl
  | [_],h=>by simp [oddB] at h
  | a::b::E,h=>by
    have h':oddB E.length=false:=by
      simp only [List.length_cons,oddB_succ,Bool.not_not] at h;exact h
    show (a,b)::spans (E ++ [t])=_
    rw [spans_even t h']
    rfl
theorem spans_odd (t:Int):∀ {E:List Int},oddB E.length=true→∃ l a,spans E=l ++ [(a,0)]∧spans (E ++ [t])=l ++ [(a,t)]
  | [],h=>by simp [oddB] at h
  | [a],_=>⟨[],a,rfl,rfl⟩
  | a::b::E,h=>by
    have h':oddB E.length=true:=by
      simp only [List.length_cons,oddB_succ,Bool.not_not] at h;exact h
    obtain ⟨l,c,h1,h2⟩:=spans_odd t h'
    refine ⟨(a,b)::l,c,?_,?_⟩
    · show (a,b)::spans E=_
      rw [h1]; rfl
    · show (a,b)::spans (E ++ [t])=_
      rw [h2]; rfl
theorem spans_norm:∀ {E:List Int},oddB E.length=false→E.Pairwise (· < ·)→NormI (spans E)∧tog (spans E)=E
  | [],_,_=>⟨NormI.nil,rfl⟩
  | [_],h,_=>by simp [oddB] at h
  | a::b::E,h,hp=>by
    have h':oddB E.length=false:=by
      simp only [List.length_cons,oddB_succ,Bool.not_not] at h;exact h
    obtain ⟨p1,p2⟩:=List.pairwise_cons.1 hp
    obtain ⟨p3,p4⟩:=List.pairwise_cons.1 p2
    obtain ⟨h1,h2⟩:=spans_norm h' p4
    refine ⟨h1.cons (p1 b (by simp)) (fun y hy=>?_),?_⟩
    · have:y.1∈tog (spans E):=by
        unfold tog;rw [List.mem_flatMap]
        exact ⟨y,hy,by simp⟩
      rw [h2] at this;exact p3 _ this
    · show a::b::tog (spans E)=_
      rw [h2]
def combI (f:Bool→Bool→Bool) (a b:Iv):Iv:=spans (mcomb f (mrg (tog a) false (tog b) false) [])
theorem combI_ok {f:Bool→Bool→Bool} (hf:f false false=false) {a b:Iv} (ha:NormI a) (hb:NormI b):NormI (combI f a b)∧(∀ t,memI (combI f a b) t=f (memI a t) (memI b t))∧(combI f a b).length≤a.length+b.length:=by
  have h:=comb_ok f _ (tog a) false (tog b) false [] (Nat.le_refl _) (tog_asc ha).1 (tog_asc hb).1 .nil (fun _ h=>by simp at h) (fun _ h=>by simp at h) hf.symm
  have hx:∀ x,parT (mcomb f (mrg (tog a) false (tog b) false) []) x=f (memI a x) (memI b x):=fun x=>by
    rw [h.hi x (fun _ h=>by simp at h),parT_tog ha,parT_tog hb,Bool.false_xor,Bool.false_xor]
  have hlen:=h.len
  rw [tog_len,tog_len] at hlen
  have hodd:oddB (mcomb f (mrg (tog a) false (tog b) false) []).length=false:=by
    obtain ⟨B,hB⟩:∃ B:Int,(∀ e∈mcomb f (mrg (tog a) false (tog b) false) [],e≤B)∧(∀ x∈a,x.2≤B)∧(∀ x∈b,x.2≤B):=by
      have hi:∀ E:List Int,∃ B,∀ e∈E,e≤B:=fun E=>by
        induction E with
        | nil=>exact ⟨0,by simp⟩
        | cons e E ih =>
          obtain ⟨B,h⟩:=ih
          exact ⟨max B e, fun x hx => by rcases List.mem_cons.1 hx with rfl | hx; · omega
                                         · have:=h x hx; omega⟩
      obtain ⟨B1,h1⟩:=hi (mcomb f (mrg (tog a) false (tog b) false) [])
      obtain ⟨B2,h2⟩:=hi (a.map Prod.snd)
      obtain ⟨B3,h3⟩:=hi (b.map Prod.snd)
      refine ⟨max B1 (max B2 B3),fun e he=>?_,fun x hx=>?_,fun x hx=>?_⟩
      · have:=h1 e he; omega
      · have:=h2 x.2 (List.mem_map.2 ⟨x,hx,rfl⟩); omega
      · have:=h3 x.2 (List.mem_map.2 ⟨x,hx,rfl⟩); omega
    obtain ⟨h1,h2,h3⟩:=hB
    rw [← parT_all h1,hx]
    have n1:memI a B=false:=by
      cases e:memI a B with
      | false=>rfl
      | true=>obtain ⟨x,hx,_,h5⟩:=memI_iff.1 e; have:=h2 x hx; omega
    have n2:memI b B=false:=by
      cases e:memI b B with
      | false=>rfl
      | true=>obtain ⟨x,hx,_,h5⟩:=memI_iff.1 e; have:=h3 x hx; omega
    rw [n1,n2,hf]
  obtain ⟨h1,h2⟩:=spans_norm hodd h.asc
  refine ⟨h1,fun t=>?_,?_⟩
  · show memI (spans (mcomb f (mrg (tog a) false (tog b) false) [])) t=_
    rw [← parT_tog h1,h2,hx]
  · unfold combI
    rw [spans_len];simp only [List.length_nil] at hlen;omega
def unionI (a b:Iv):Iv:=combI (fun x y=>x || y) a b
end Go.Step
namespace Go.Step
def InI (n:Int) (K:Iv):Prop:=NormI K∧∀ t,memI K t=true→0≤t∧t<n
theorem InI.nil (n:Int):InI n []:=⟨NormI.nil,fun t h=>by cases h⟩
theorem InI.at {n:Int} {K:Iv} (h:InI n K):∀ x∈K,0≤x.1∧x.1<x.2∧x.2≤n:=fun x hx=>by
  have h0:=h.1.1 x hx
  have h1:=h.2 x.1 (memI_iff.2 ⟨x,hx,by omega,h0⟩)
  have h2:=h.2 (x.2-1) (memI_iff.2 ⟨x,hx,by omega,by omega⟩)
  exact ⟨h1.1,h0,by omega⟩
theorem norm_len:∀ {K:Iv} {lo hi:Int},NormI K→lo≤hi+1→(∀ x∈K,lo≤x.1∧x.2≤hi)→2*(K.length:Int)≤hi-lo+1
  | [],lo,hi,_,h,_=>by simp; omega
  | x::K,lo,hi,hn,h,hk=>by
    have h1:=hk x (by simp)
    obtain ⟨g1,g2⟩:=hn.hd
    have:=norm_len (lo:=x.2+1) (hi:=hi) hn.tail (by omega) (fun y hy=>⟨by have:=g2 y hy; omega,(hk y (by simp [hy])).2⟩)
    simp only [List.length_cons,Int.natCast_add];omega
theorem InI.len {n:Int} {K:Iv} (h:InI n K) (hn:0≤n):2*(K.length:Int)≤n+1:=by
  have:=norm_len (lo:=0) (hi:=n) h.1 (by omega) (fun x hx=>by have:=h.at x hx; omega)
  omega
theorem InI.whole {n:Int} (hn:0<n):InI n [(0,n)]:=
  ⟨⟨by simp; exact hn,List.pairwise_singleton _ _⟩,fun t h=>by obtain ⟨x,hx,h1,h2⟩:=memI_iff.1 h; simp at hx; subst hx; exact ⟨h1,h2⟩⟩
theorem mem_one (a b t:Int):memI [(a,b)] t=decide (a≤t∧t<b):=by
  rw [Bool.eq_iff_iff,memI_iff,decide_eq_true_iff]; simp
theorem InI.all {n:Int} {K:Iv} (h:InI n K) (hn:0<n) (ha:∀ t,0≤t→t<n→memI K t=true):K=[(0,n)]:=
  normI_ext h.1 (InI.whole hn).1 (fun t=>by
    rw [mem_one]
    by_cases ht:0≤t∧t<n
    · rw [decide_eq_true ht,ha t ht.1 ht.2]
    · rw [decide_eq_false ht]
      cases hk:memI K t with
      | false=>rfl
      | true=>exact absurd (h.2 t hk) ht)
theorem InI.put {n:Int} {K:Iv} (h:InI n K) {a b:Int} (h0:0≤a) (hab:a<b) (hb:b≤n) :
    InI n (unionI K [(a,b)])∧(∀ t,memI (unionI K [(a,b)]) t=(memI K t || decide (a≤t∧t<b)))∧unionI K [(a,b)]≠[]:=by
  have h1:NormI [(a,b)]:=⟨by simp; exact hab,List.pairwise_singleton _ _⟩
  obtain ⟨k1,k2,_⟩:=combI_ok (f:=fun x y=>x || y) rfl h.1 h1
  have k3:∀ t,memI (unionI K [(a,b)]) t=(memI K t || decide (a≤t∧t<b)):=fun t=>by
    show memI (combI _ _ _) t=_
    rw [k2,mem_one]
  refine ⟨⟨k1,fun t ht=>?_⟩,k3,fun e=>?_⟩
  · rw [k3] at ht
    cases hk:memI K t with
    | true=>exact h.2 t hk
    | false =>
      rw [hk,Bool.false_or,decide_eq_true_iff] at ht;omega
  · have:=k3 a
    rw [e,decide_eq_true (by omega),Bool.or_true] at this
    cases this
end Go.Step
namespace Go.Step
end Go.Step
namespace Go.Step
open Go.Eng
end Go.Step
namespace Go.Eng
variable {C:Cx} {R H:List PH} {L:Env} {dst:Option Tmp} {ty:TypeId} {pos:String} {aft:Array Edge} {g:Option (Nat × Bool)}
theorem elems_bytes (l:List UInt8):elems (fun b:UInt8=>[Value.int .u8 (b.toNat:Int)]) l=(rowS l).toArray:=by
  unfold elems rowS
  congr 1
  induction l with
  | nil=>rfl
  | cons a l ih=>simp only [List.flatMap_cons,List.map_cons,List.cons_append,List.nil_append,ih]
theorem CF {x y:Operand} {t e:TypeId} {k1 k2:IntKind} {n:Nat} (hx:evalE L x=some (.int k1 (n:Int))) (hy:evalE L y=some (.int k2 (n:Int))) (ht:elemP C.P t=some e) (hs:szP C.P e=some 1) (hz:zeroP C.P e=some (.int .u8 0)) (hb:bytesP C.P e=some 1) (hn:n≤1000000) :
    Loud C R H L ⟨dst,.makeSlice t x y,ty,pos,aft,g⟩ (fun u H2=>∃ b,u=.slice (some ⟨b,0,none⟩) n n∧H2=sng b (.cells (rowS (List.replicate n 0)).toArray e (0,0))::H):=by
  have:=FF (C:=C) (R:=R) (H:=H) (L:=L) (dst:=dst) (ty:=ty) (pos:=pos) (aft:=aft) (g:=g) (enc:=fun b:UInt8=>[Value.int .u8 (b.toNat:Int)]) (0:UInt8) hx hy ht hs hz hb rfl rfl (by omega) (by omega)
  rwa [elems_bytes] at this
theorem cutP_one {b n i:Nat} (h:i<n):cutP (some ⟨b,0,none⟩) n i 1=some ⟨b,i,none⟩:=by
  unfold cutP
  rw [if_neg (by omega)]
  simp [Addr.add_lit]
end Go.Eng
namespace Go.Step
open Go.Eng
end Go.Step
namespace Go.Step
end Go.Step
namespace Go.Step
open Go.Eng
theorem slAt_rd {ρ:PH} {s n c b o:Nat} {xs:List Value} (h:SlAt ρ s (.slice (some ⟨b,o,none⟩) n c) n xs) (hn:0<n):RdN ρ b o xs:=by
  obtain ⟨_,⟨h0,_⟩|⟨b',o',c',e,h2⟩⟩:=h
  · omega
  · simp only [Value.slice.injEq,Option.some.injEq,Addr.mk.injEq,and_true] at e
    obtain ⟨⟨rfl,rfl⟩,_⟩:=e
    exact h2
end Go.Step
namespace Go.Eng
theorem OwnS.form {e:TypeId} {s n:Nat} {v:Value} {xs:List Value} {ρ:PH} (h:OwnS e s v n xs ρ):∃ p c,v=.slice p n c:=by
  obtain ⟨_,⟨rfl,rfl,_⟩|⟨b,cap,_,rfl,_⟩⟩:=h
  · exact ⟨none,0,rfl⟩
  · exact ⟨_,cap,rfl⟩
theorem OwnS.formP {e:TypeId} {s n:Nat} {v:Value} {xs:List Value} {ρ:PH} (h:OwnS e s v n xs ρ) (hn:0<n):∃ b c,v=.slice (some ⟨b,0,none⟩) n c:=by
  obtain ⟨_,⟨_,h,_⟩|⟨b,cap,_,rfl,_⟩⟩:=h
  · omega
  · exact ⟨b,cap,rfl⟩
theorem SlAt.mono {ρ γ:PH} {s n:Nat} {v:Value} {xs:List Value} (h:SlAt ρ s v n xs) (hs:PH.sub ρ γ):SlAt γ s v n xs:=by
  obtain ⟨h1,h2|⟨b,o,c,e,h3⟩⟩:=h
  · exact ⟨h1,.inl h2⟩
  · exact ⟨h1,.inr ⟨b,o,c,e,fun j u hu=>hs.rdc (h3 j u hu)⟩⟩
theorem SlE.mono {α:Type} {enc:α→List Value} {s:Nat} {ρ γ:PH} {v:Value} {l:List α} (h:SlE enc s ρ v l) (hs:PH.sub ρ γ):SlE enc s γ v l:=SlAt.mono h hs
end Go.Eng
namespace Go.Eng
variable {C:Cx} {D:List Deferred} {R H:List PH} {L:Env} {K:List It}
end Go.Eng
namespace Go.Eng
variable {C:Cx} {D:List Deferred} {R H:List PH} {L:Env} {K:List It}
theorem OwnS.formC {e:TypeId} {s n:Nat} {v:Value} {xs:List Value} {ρ:PH} (h:OwnS e s v n xs ρ):∃ p c,v=.slice p n c∧n≤c:=by
  obtain ⟨_,⟨rfl,rfl,_⟩|⟨b,cap,cur,rfl,_,h1,_⟩⟩:=h
  · exact ⟨none,0,rfl,Nat.le_refl _⟩
  · exact ⟨_,cap,rfl,h1⟩
end Go.Eng
namespace Go.Proofs.YtjopknnkcnehmaaGreatDoor
open Go.Eng Go.Step
set_option maxRecDepth 100000
set_option maxHeartbeats 64000000
theorem vaInt_spec {n:Nat} (h:n≤1152921504606846976):Ans Tryz.prog (fv 25) [int (n:Int)] [] (fun r=>r=.tuple #[str (vInt n),int 0]):=by
 have hin:=vaIn_spec (n:=(n:Int)) ⟨by omega,by omega⟩
 have hzg:=vaZig_spec h
 have hgr:=vaGroups_spec (2*n)
 have hit:=fun c1=>vaGroups_iter c1 (m:=2*n) (by omega)
 unfold vInt
 generalize 2*n=m at *
 refine spec_in (cap:=[]) Tryz.func25 rfl rfl Tryz.ntmps25 rfl envZ (fun N β=>?_)
 refine Abi ?_;refine Aam ?_;refine AL hin rfl rfl rdZ rfl rfl ?_;rintro _ rfl;refine AY ?_;refine Aaf ?_;refine Aa ?_;refine DC ?_; rintro _ _ ⟨b,rfl,rfl⟩;refine Abx ?_
 revert b; intro b4
 refine AL hzg rfl rfl rdZ rfl rfl ?_;rintro _ rfl;refine BF hgr rfl rfl takesZ rdZ rfl rfl ?_;rintro _ _ ⟨c1,rfl,rfl⟩;simp only [List.cons_append,List.nil_append];refine AZ (ρ:=sng c1 _) takeZ ?_;refine ED ?_;refine AE ?_;refine AV ?_
 have hlen:=vY_len m (vTop m)
 have hget:=vY_get m (vTop m)
 have htop:=vTop_le m
 refine DL (gf:=93) (cap:=[.pointer (some ⟨c1,0,none⟩)]) (ps:=[13,14]) (X:=Value × PH) rfl Tryz.func93 rfl rfl
  (hit c1) ?_ (fun j x=>OwnS 5 1 x.1 j (rowS (((vY m (vTop m)).map vBy).take j)) x.2) (fun x=>[sng b4 (.cells #[x.1] 76 (0,0)),x.2]) (fun _ _=>False) (.slice none 0 0,emp) rfl takesZ (OwnS.nil _ _) ?_ ?_ ?_
 ·intro σ hσ
  simp only [List.mem_cons,List.not_mem_nil,or_false] at hσ ⊢
  simp [hσ]
 ·rintro lo r j ⟨u,χ⟩ vs hvs hI hps has hbd hst hpe hfr
  obtain ⟨st,pe,fnn,tm,prm,asg,bdy,df⟩:=r
  simp only at hps has hbd hst hpe hfr;subst hps has hbd hst hpe
  dsimp only at hI
  rw [List.getElem?_map] at hvs
  obtain ⟨⟨dg,last⟩,hn,rfl⟩:=Option.map_eq_some_iff.1 hvs
  have hjl:=(List.getElem?_eq_some_iff.1 hn).1
  have hvb:((vY m (vTop m)).map vBy)[j]?=some (vBy (dg,last)):=by rw [List.getElem?_map,hn]; rfl
  have hdg:dg<128:=by
   have h2:=hget j (by omega)
   rw [hn] at h2;simp only [Option.some.injEq,Prod.mk.injEq] at h2;omega
  have hu:u.oneCell'=true:=by obtain ⟨_,_,rfl⟩:=hI.form; rfl
  refine yield_spec hfr rfl (by intro p hp; simp at hp; omega) putiZ (fun N' β'=>?_)
  refine Aaw ?_;refine AA ?_;refine Aaa ?_;refine C6 rfl rfl ?_;refine DI takeZ rfl ?_
  cases last
  rotate_left
  ·rw [show vBy (dg,true)=vBy (dg,true) from rfl] at hvb
   have hb:=vBy_nat dg true hdg
   have e1:rowS (((vY m (vTop m)).map vBy).take (j+1))=rowS (((vY m (vTop m)).map vBy).take j) ++ [.int .u8 (dg:Int)]:=by
    rw [List.take_add_one,hvb]
    simp [rowS,hb]
   refine AV ?_;refine Ab ?_;refine AY ?_;refine Aaf ?_;refine AA ?_;refine AG ?_;refine AB ?_;refine B7 ?_; rintro _ _ ⟨b,rfl,rfl⟩
   refine A9 (CO (by_:=1) (s:=1) (news:=[.int .u8 (dg:Int)]) rfl rfl rfl rfl rfl rfl rfl hI takeZ (cells_own memZ) rfl oneZ (by omega) (by simp only [maxLen]; omega) (by omega)) rfl rfl rfl ?_
   rintro u1 _ ⟨χ1,hI1,rfl⟩
   have hu1:u1.oneCell'=true:=by obtain ⟨_,_,rfl⟩:=hI1.form; rfl
   rw [← e1] at hI1;refine A6 ?_; rintro _ _ ⟨rfl,rfl⟩;refine AE ?_;refine BE ?_;exact BX takeZ rsubZ selZ ⟨(u1,χ1),.inl ⟨rfl,hI1,rfl⟩⟩
  ·rw [show vBy (dg,false)=vBy (dg,false) from rfl] at hvb
   have hb:=vBy_nat dg false hdg
   have e1:rowS (((vY m (vTop m)).map vBy).take (j+1))=rowS (((vY m (vTop m)).map vBy).take j) ++ [.int .u8 ((dg+128:Nat):Int)]:=by
    rw [List.take_add_one,hvb]
    simp [rowS,hb]
   refine AV ?_;refine Ab ?_;refine AY ?_;refine Aau ?_;refine Ab7 ?_
   focus ((refine BB (q_addB (n:=128) rfl rfl (by omega)) rfl rfl rfl ?_))
   refine Aaa ?_;refine AA ?_;refine AG ?_;refine AB ?_;refine B7 ?_; rintro _ _ ⟨b,rfl,rfl⟩
   refine A9 (CO (by_:=1) (s:=1) (news:=[.int .u8 ((dg+128:Nat):Int)]) rfl rfl rfl rfl rfl rfl rfl hI takeZ (cells_own memZ) rfl oneZ (by omega) (by simp only [maxLen]; omega) (by omega)) rfl rfl rfl ?_
   rintro u1 _ ⟨χ1,hI1,rfl⟩
   have hu1:u1.oneCell'=true:=by obtain ⟨_,_,rfl⟩:=hI1.form; rfl
   rw [← e1] at hI1;refine A6 ?_; rintro _ _ ⟨rfl,rfl⟩;refine AE ?_;refine BE ?_;exact BX takeZ rsubZ selZ ⟨(u1,χ1),.inl ⟨rfl,hI1,rfl⟩⟩
 ·rintro bm ⟨u,χ⟩ hI
  dsimp only at hI ⊢
  rw [List.length_map,hlen,List.take_of_length_le (by rw [List.length_map,hlen]; exact Nat.le_refl _)] at hI
  have hll:=vEnc_len m
  have hI:OwnS 5 1 u (vTop m+1) (rowS (vEnc m)) χ:=hI
  rw [← hll] at hI
  obtain ⟨_,⟨h1,h2,_⟩|⟨bb,cap,cur,rfl,_⟩⟩:=id hI
  ·omega
  have hrd:=slAt_rd hI.at (by omega)
  refine BE ?_;refine Aa ?_;refine AG ?_;refine BB (CW (l:=vEnc m) (b:=bb) (o:=0) rfl (cellsH hrd memZ) rfl rfl rfl) rfl rfl rfl ?_;refine Abf ?_;exact DV (Marks.cons .here .nil) (res2 rfl rfl rfl) rsubZ selZ ⟨rfl,rfl⟩
 ·rintro bm cc o' hf
  exact hf.elim
end Go.Proofs.YtjopknnkcnehmaaGreatDoor
namespace Go.Step
end Go.Step
namespace Go.Eng
open Go.IntWalk
variable {R H:List PH} {L:Env}
end Go.Eng
namespace Go.Eng
variable {L:Env} {R H:List PH}
theorem resS1 {fn:Func} {N:Bs} {M:Nat} {P:Program} {t b1:Nat} {T:TypeId} {v1:List Value} (hr:fn.results = #[.cell t T]) (ht:look L t=some (.pointer (some ⟨b1,0,none⟩))) (a1:aggP P T=some true)
    (n1:szP P T=some v1.length) (c1:Cells N R H b1 0 v1):∀ a w,Frm M L a→Sat N R H w→(results fn a.tmps).run P w=.ok (.agg v1.toArray) w:=by
  intro a w hf hs
  have e1:a.tmps[t]?.getD undef=.pointer (some ⟨b1,0,none⟩):=by simpa using hf.get t _ ht
  have l1:=run_loadCells_list (P:=P) (w:=w) ⟨b1,0,none⟩ v1 (fun j v hv=>by rw [Addr.add_lit]; exact c1 w hs j v hv)
  simp [results,hr,e1,loadVar,run_isAgg a1,run_sizeOf n1,l1,asAddr]
theorem resSE {fn:Func} {N:Bs} {M:Nat} {P:Program} {t u b1:Nat} {T:TypeId} {v1:List Value} {v2:Value} (hr:fn.results = #[.cell t T,.tmp u]) (ht:look L t=some (.pointer (some ⟨b1,0,none⟩))) (hu:look L u=some v2) (a1:aggP P T=some true)
    (n1:szP P T=some v1.length) (c1:Cells N R H b1 0 v1):∀ a w,Frm M L a→Sat N R H w→(results fn a.tmps).run P w=.ok (.tuple #[.agg v1.toArray,v2]) w:=by
  intro a w hf hs
  have e1:a.tmps[t]?.getD undef=.pointer (some ⟨b1,0,none⟩):=by simpa using hf.get t _ ht
  have e2:a.tmps[u]?.getD undef=v2:=by simpa using hf.get u _ hu
  have l1:=run_loadCells_list (P:=P) (w:=w) ⟨b1,0,none⟩ v1 (fun j v hv=>by rw [Addr.add_lit]; exact c1 w hs j v hv)
  simp [results,hr,e1,e2,loadVar,run_isAgg a1,run_sizeOf n1,l1,asAddr]
end Go.Eng
namespace Go.Proofs.YtjopknnkcnehmaaGreatDoor
open Go.Eng Go.Step
set_option maxRecDepth 100000
set_option maxHeartbeats 64000000
theorem vaRest_spec {s:List UInt8} {at_ er:Int} (br:Nat) (h:0≤at_∧at_≤s.length) (hl:s.length≤9223372036854775807):Ans Tryz.prog (fv 97) [.pointer (some ⟨br,0,none⟩)] [sng br (.cells #[str s,int at_,int er] 201 (0,0))] (fun r=>r=int ((s.length:Int)-at_)):=by
 obtain ⟨h1,h2⟩:=h
 have bx12_3:=rdB br 201 [str s,int at_,int er]
 have f0:=rdC bx12_3 0
 have f1:=rdC bx12_3 1
 refine spec_in (cap:=[]) Tryz.func97 rfl rfl Tryz.ntmps97 rfl envZ (fun N β=>?_)
 refine Aa ?_;refine Aag ?_
 refine BH P0Z [] rfl (by kernel_rfl) Sel.nil ?_
 refine Aa1 ?_
 focus ((refine' BR rfl _ rfl rfl rfl rfl _; rotate_left; (apply BW; exact rfl; exact rfl)))
 refine Aa1 ?_;refine zd_sub ?_;refine Abn ?_
 skip
 exact A2 ⟨rfl,rfl⟩
theorem vRead_at {s tl:List UInt8} {at_ n i:Nat} (hs:s.drop at_=vInt n ++ tl) (hi:i≤vTop (2*n)):s[at_+i]?=some (vBy (2*n / 128 ^ (vTop (2*n)-i) % 128,decide (i=vTop (2*n)))):=by
 have h:=vEnc_get hi
 have h2:(s.drop at_)[i]?=(vInt n)[i]?:=by
  rw [hs,List.getElem?_append_left]
  show i<(vEnc (2*n)).length
  rw [vEnc_len];omega
 rw [List.getElem?_drop] at h2;rw [h2];exact h
theorem vaInteger_spec {s tl:List UInt8} {at_ n:Nat} (hn:n≤1152921504606846976) (hs:s.drop at_=vInt n ++ tl) (hl:s.length≤1000000000) (br:Nat) :
  Eng.Spec Tryz.prog (fv 95) [.pointer (some ⟨br,0,none⟩)] [] [sng br (.cells #[str s,int (at_:Int),int 0] 201 (0,0))] (fun r H'=>r=int (n:Int)∧H'=[sng br (.cells #[str s,int ((at_+(vInt n).length:Nat):Int),int 0] 201 (0,0))]):=by
 have hlen:(vInt n).length=vTop (2*n)+1:=vEnc_len _
 have hat:at_+(vInt n).length≤s.length:=by
  have h:=congrArg List.length hs
  rw [List.length_drop,List.length_append] at h;omega
 have hread:=fun i (hi:i≤vTop (2*n))=>vRead_at hs hi
 have hfst:=v_first (m:=2*n) (by omega)
 obtain ⟨_,_,ht8⟩:=vTop_lt (m:=2*n) (by omega)
 have hnx:=fun k=>v_next (2*n) k
 have hz:2*n / 128 ^ (vTop (2*n)+1)=0:=by
  obtain ⟨h1,_,_⟩:=vTop_lt (m:=2*n) (by omega)
  rw [Nat.pow_succ,← Nat.div_div_eq_div_mul];exact Nat.div_eq_of_lt h1
 have hin:=vaIn_spec (n:=(n:Int)) ⟨by omega,by omega⟩
 have hm2:2*n / 2=n:=by omega
 have hmm:(2*n) % 2=0:=by omega
 have hmb:2*n≤2305843009213693952:=by omega
 rw [hlen] at hat ⊢;clear hs
 generalize 2*n=m at *
 generalize hK:vTop m=K at *
 have bx68_3:=rdB br 201 [str s,int (at_:Int),int 0]
 have f0:=rdC bx68_3 0
 have f1:=rdC bx68_3 1
 have f2:=rdC bx68_3 2
 refine spec_in (cap:=[]) Tryz.func95 rfl rfl Tryz.ntmps95 rfl envZ (fun N β=>?_)
 refine Ab3 ?_;refine Aa5 ?_;refine Ab9 ?_;refine Abi ?_;refine Aag ?_;refine Aaw ?_;refine AV ?_
 refine BQ [0,2] (X:=Nat) 0 (fun j=>j≤K+1) (fun j=>[(3,int ((m / 128 ^ (K+1-j):Nat):Int)),(4,int (j:Int)),(5,.bool (decide (j=K+1)))]) (fun _=>[sng br (.cells #[str s,int (at_:Int),int 0] 201 (0,0))]) (fun j=>K+1-j) pickZ (Nat.zero_le _) (by rw [Nat.sub_zero,hz,decide_eq_false (by omega)]; exact covZ) selZ ?_
 rintro j hj
 by_cases hlt:j<K+1
 ·rw [decide_eq_false (by omega:¬ j=K+1)]
  have hby:=hread j (by omega)
  have hbn:=vBy_nat (m / 128 ^ (K-j) % 128) (decide (j=K)) (Nat.mod_lt _ (by decide))
  generalize vBy (m / 128 ^ (K-j) % 128,decide (j=K))=by_ at hby hbn
  have hnj:=hnx (K-j)
  have e1:K-j+1=K+1-j:=by omega
  have e2:K+1-(j+1)=K-j:=by omega
  rw [e1] at hnj
  have hd:m / 128 ^ (K-j) % 128<128:=Nat.mod_lt _ (by decide)
  have hle:m / 128 ^ (K-j)≤m:=Nat.div_le_self _ _
  generalize m / 128 ^ (K-j) % 128=dg at hnj hbn hd
  generalize hA:m / 128 ^ (K+1-j)=A at *
  have hb255:by_.toNat≤255:=by have:=by_.toNat_lt; omega
  have es:((A:Nat):Int)*2 ^ 7=((A*128:Nat):Int):=by omega
  have hmod:by_.toNat % 128=dg:=by
   by_cases hk:j=K
   ·rw [decide_eq_true hk,if_pos rfl] at hbn
    omega
   ·rw [decide_eq_false hk,if_neg (by simp)] at hbn
    omega
  have hlast:(by_.toNat<128↔j=K):=by
   by_cases hk:j=K
   ·rw [decide_eq_true hk,if_pos rfl] at hbn
    omega
   ·rw [decide_eq_false hk,if_neg (by simp)] at hbn
    omega
  clear hbn
  have hre:=vaRest_spec (s:=s) (at_:=(at_:Int)) (er:=0) br ⟨by omega,by omega⟩ (by omega)
  have eat:(at_:Int)+(j:Int)=((at_+j:Nat):Int):=by omega
  refine Ab ?_;refine AY ?_;refine Aau ?_;refine AM ?_;refine Abm ?_;refine Ab ?_;refine B9 ?_;refine Aax ?_;refine Aab ?_;refine Abj ?_;refine AL hre rfl rfl rdZ rfl rfl ?_;rintro _ rfl;refine AB ?_;refine B9 ?_;refine Aax ?_
  refine BH (.q 0 (.q 1 (.q 2 (.q 3 (.q 4 (.q 5 (.q 6 (.q 7 (.q 8 (.q 9 (.q 10 (.q 11 (.q 12 (.q 13 .nil)))))))))))))) [] rfl (by kernel_rfl) Sel.nil ?_
  refine Ach ?_;refine Ach ?_;refine AS ?_;refine DB ?_
  focus ((rw [eat]))
  focus ((refine BR rfl (DF rfl rfl rfl hby) rfl rfl rfl rfl ?_))
  refine Abn ?_
  by_cases hk:j=K
  ·have hb2:=hlast.2 hk
   refine Ab7 ?_
   focus ((refine BB (E8 (s:=7) rfl rfl (by omega) ⟨by omega,by omega⟩) rfl rfl rfl ?_))
   refine AB ?_
   focus ((rw [es]))
   focus ((refine BB (D5 rfl rfl hb255) rfl rfl rfl ?_))
   refine CS ?_
   focus ((rw [hmod]))
   focus ((refine BB (q_or7 rfl rfl hd (by omega)) rfl rfl rfl ?_))
   refine AB ?_;refine CM ?_;refine Abf ?_;refine Aa3 ?_;refine AB ?_;refine B6 ?_;refine Aaa ?_
   focus ((rw [hnj]))
   exact BJ (j+1) (by omega) (by omega) (by rw [e2,decide_eq_true (by omega:j+1=K+1)]; exact covZ) selZ
  ·have hb2:128≤by_.toNat:=by
    rcases Nat.lt_or_ge by_.toNat 128 with h|h
    ·exact absurd (hlast.1 h) hk
    ·exact h
   refine Ab7 ?_
   focus ((refine BB (E8 (s:=7) rfl rfl (by omega) ⟨by omega,by omega⟩) rfl rfl rfl ?_))
   refine AB ?_
   focus ((rw [es]))
   focus ((refine BB (D5 rfl rfl hb255) rfl rfl rfl ?_))
   refine CS ?_
   focus ((rw [hmod]))
   focus ((refine BB (q_or7 rfl rfl hd (by omega)) rfl rfl rfl ?_))
   refine AB ?_;refine BM ?_;refine Abf ?_;refine Aa3 ?_;refine AB ?_;refine B6 ?_;refine Aaa ?_
   focus ((rw [hnj]))
   exact BJ (j+1) (by omega) (by omega) (by rw [e2,decide_eq_false (by omega:¬ j+1=K+1)]; exact covZ) selZ
 obtain rfl:j=K+1:=by omega
 rw [decide_eq_true rfl,Nat.sub_self,Nat.pow_zero,Nat.div_one]
 have hby:=hread 0 (by omega)
 rw [Nat.add_zero] at hby
 generalize vBy (m / 128 ^ (K-0) % 128,decide (0=K))=by_ at hby hfst
 have eat2:(at_:Int)+((K+1:Nat):Int)=((at_+(K+1):Nat):Int):=by omega
 refine Ab ?_;refine AY ?_;refine AE ?_;refine Aas ?_;refine AD ?_;refine AD ?_
 refine BH (.q 0 (.q 1 (.q 2 (.q 3 (.q 4 (.q 5 (.q 6 (.q 7 (.q 8 (.q 9 (.q 10 (.q 11 .nil)))))))))))) [] rfl (by kernel_rfl) Sel.nil ?_
 refine Ach ?_;refine Ach ?_
 focus ((refine BR rfl (DF rfl rfl rfl hby) rfl rfl rfl rfl ?_))
 refine D7 ?_;refine Abp ?_;refine Aab ?_
 focus ((refine BB (CP (s:=1) (p:=2) rfl rfl (by decide) rfl) rfl rfl rfl ?_))
 refine Aam ?_
 focus ((rw [hm2]))
 focus ((refine BB (CA (k:=.i64) (b:=1) (c:=0) rfl rfl (by show m<2 ^ 64; omega) (by decide) (by rw [Nat.and_one_is_mod]; exact hmm) rfl) rfl rfl rfl ?_))
 refine B9 ?_;refine Aax ?_;refine Aab ?_;refine BM ?_;refine Aan ?_;refine AL hin rfl rfl rdZ rfl rfl ?_;rintro _ rfl;refine Ab5 ?_;refine Aab ?_;refine AU ?_;refine Aay ?_;refine AB ?_;refine CG ?_;refine Abj ?_;refine AF ?_
 focus ((rw [eat2]))
 refine A6 ?_; rintro _ _ ⟨rfl,rfl⟩;refine Abb ?_;refine Aaa ?_;exact AP (H':=[sng br (.cells #[str s,int ((at_+(K+1):Nat):Int),int 0] 201 (0,0))]) (res1 rfl rfl) rsubZ selZ ⟨rfl,rfl⟩
end Go.Proofs.YtjopknnkcnehmaaGreatDoor
