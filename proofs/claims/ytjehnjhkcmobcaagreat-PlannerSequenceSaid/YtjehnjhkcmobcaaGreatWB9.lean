/- Texts of this proof, one after the other; no conditions. -/
import Derived.Test.YtjehnjhkcmobcaaGreatRows
import Derived.Test.YtjehnjhkcmobcaaGreatWB1
import Derived.Test.YtjehnjhkcmobcaaGreatWB3
import Derived.Test.YtjehnjhkcmobcaaGreatWB6
import Derived.Test.YtjehnjhkcmobcaaGreatWB2
import Derived.Test.YtjehnjhkcmobcaaGreatWB7
import Derived.Test.YtjehnjhkcmobcaaGreatWB5
import Derived.Test.YtjehnjhkcmobcaaGreatWB8
import Derived.Test.YtjehnjhkcmobcaaGreatWB4
set_option linter.all false
/- Check, ends and the like: what they answer. -/
namespace Go.Proofs.YtjehnjhkcmobcaaGreat
open Go.Eng Go.Flow
set_option maxRecDepth 100000
set_option maxHeartbeats 4000000

def encA (a:Arc):List Value:=[int a.f,int a.t,int a.c]
theorem encA_len (a:Arc):(encA a).length = 3:=rfl
abbrev ArcsAt (ρ:PH) (v:Value) (l:List Arc):Prop:=SlE encA 3 ρ v l
theorem arcRow {ρ:PH} {p:Option Addr} {l:List Arc} (h:RowsE encA 3 ρ p l) {i:Nat} {x:Arc} (hx:l[i]? = some x) :
  ∃ b o,p = some ⟨b,o,none⟩ ∧ RdN ρ b (o + i * 3) [int x.f,int x.t,int x.c] ∧ rdc ρ b (o + i * 3) = some (int x.f) ∧ rdc ρ b (o + i * 3 + 1) = some (int x.t) ∧ rdc ρ b (o + i * 3 + 2) = some (int x.c):=by
 obtain ⟨b,o,e,hr⟩:=h i x hx
 exact ⟨b,o,e,hr,hr.get0,hr.get (j:=1) rfl,hr.get (j:=2) rfl⟩

theorem inside_spec (k n:Int):Ans Tryz.prog (fv 124) [int k,int n] [] (fun v=>(v = .bool true ∧ 0 ≤ k ∧ k < n) ∨ (v = .bool false ∧ (k < 0 ∨ n ≤ k))):=by
 refine spec_in (cap:=[]) Tryz.func124 rfl rfl Tryz.ntmps124 rfl envZ (fun N β=>?_)
 repeat' (first
  | (refine AB ?_)
  | (refine AD ?_)
  | (refine AN ?_)
  | (refine AJ ?_)
  | (refine AC ?_)
  | (refine AA ?_)
  | (refine AE ?_)
  | (refine AH rfl rfl rfl ?_)
  | (focus ((refine CM rfl rfl (cmp_lt _ _) rfl rfl (fun h=>?_) (fun h=>?_))))
  | (focus ((refine CM rfl rfl (cmp_le _ _) rfl rfl (fun h=>?_) (fun h=>?_))))
  | fail)
 all_goals refine AI (res1 rfl rfl) rsubZ selZ ⟨rfl,?_⟩
 ·exact .inl ⟨rfl,by omega⟩
 ·exact .inr ⟨rfl,by omega⟩
 ·exact .inr ⟨rfl,by omega⟩

theorem ends_spec (n s t:Int):Ans Tryz.prog (fv 63) [int n,int s,int t] [] (fun v=>v = int (if okEnds n s t then 0 else 2)):=by
 refine spec_in (cap:=[]) Tryz.func63 rfl rfl Tryz.ntmps63 rfl envZ (fun N β=>?_)
 repeat' (first
  | (refine AB ?_)
  | (refine AD ?_)
  | (refine AN ?_)
  | (refine AJ ?_)
  | (refine BE ?_)
  | (refine AC ?_)
  | (refine AA ?_)
  | (refine AE ?_)
  | (refine AK ?_)
  | (refine AM rfl ?_)
  | (refine AL rfl ?_)
  | (refine AH rfl rfl rfl ?_)
  | (focus ((refine A3 (inside_spec _ _) rfl rfl rdZ rfl rfl ?_; rintro v (⟨rfl,h⟩ | ⟨rfl,h⟩))))
  | (focus ((refine CM rfl rfl (cmp_eq _ _) rfl rfl (fun h=>?_) (fun h=>?_))))
  | fail)
 all_goals refine AI (res1 rfl rfl) rsubZ selZ ⟨rfl,?_⟩
 all_goals first | rw [if_pos (by unfold okEnds; rw [decide_eq_true_eq]; omega)] | rw [if_neg (by unfold okEnds; rw [decide_eq_true_eq]; omega)]

theorem check1_spec (b:Nat) (T:TypeId) (n:Int) (a:Arc):Ans Tryz.prog (.func (.func 123) #[] #[.pointer (some ⟨b,0,none⟩)]) [.agg (encA a).toArray] [sng b (.cells #[int n] T (0,0))] (fun v=>v = .bool (!okArc n a)):=by
 refine spec_in (cap:=[.pointer (some ⟨b,0,none⟩)]) Tryz.func123 rfl rfl Tryz.ntmps123 rfl envZ (fun N β=>?_)
 have hb:rdc (sng b (.cells #[int n] T (0,0))) b 0 = some (int n):=by rw [rdc_sng]; rfl
 unfold encA
 repeat' (first
  | (refine AB ?_)
  | (refine AD ?_)
  | (refine AF ?_)
  | (refine AG ?_)
  | (refine AN ?_)
  | (refine AJ ?_)
  | (refine BE ?_)
  | (refine AC ?_)
  | (refine AA ?_)
  | (refine AE ?_)
  | (refine AH rfl rfl rfl ?_)
  | (focus ((refine A3 (inside_spec _ _) rfl rfl rdZ rfl rfl ?_; rintro v (⟨rfl,h⟩ | ⟨rfl,h⟩))))
  | (refine CD ?_; rintro _ _ ⟨b,rfl,rfl⟩)
  | (focus ((refine CM rfl rfl (cmp_eq _ _) rfl rfl (fun h=>?_) (fun h=>?_))))
  | (focus ((refine CM rfl rfl (cmp_lt _ _) rfl rfl (fun h=>?_) (fun h=>?_))))
  | fail)
 all_goals refine AI (res1 rfl rfl) rsubZ selZ ⟨rfl,?_⟩
 all_goals first
  | (rw [show okArc n a = true from by unfold okArc; rw [decide_eq_true_eq]; omega]; rfl)
  | (rw [show okArc n a = false from by unfold okArc; rw [decide_eq_false_iff_not]; omega]; rfl)

def idxOf {α:Type} (p:α → Bool) (l:List α):Int:=match l.findIdx? p with
 | some i=>i
 | none=>-1
theorem idxOf_ge {α:Type} (p:α → Bool) (l:List α):(0 ≤ idxOf p l ↔ l.any p = true):=by
 unfold idxOf
 cases h:l.findIdx? p with
 | none =>
  rw [List.findIdx?_eq_none_iff] at h
  simp; exact h
 | some i =>
  have:=List.findIdx?_isSome (xs:=l) (p:=p)
  rw [h] at this
  simp at this ⊢
  exact this
theorem indexArc_spec (ρ:PH) (v f:Value) (R1:List PH) (l:List Arc) (p:Arc → Bool) (hv:ArcsAt ρ v l) (hl:l.length ≤ 1000000) (hf:∀ a ∈ l,Ans Tryz.prog f [.agg (encA a).toArray] R1 (fun u=>u = .bool (p a))) :
  Ans Tryz.prog (fv 173) [v,f] (ρ :: R1) (fun u=>u = int (idxOf p l)):=by
 obtain ⟨q,c,rfl,hr⟩:=hv.val encA_len
 refine spec_in (cap:=[]) Tryz.func173 rfl rfl Tryz.ntmps173 rfl envZ (fun N β=>?_)
 refine Acy ?_
 refine BA [0,1,6,7] (0:Nat) (fun k=>k ≤ l.length ∧ ∀ x ∈ l.take k,p x = false) (fun k=>[(8,int k)]) (fun _=>[]) (fun k=>l.length - k) pickZ ⟨by omega,by simp⟩ covZ selZ ?_
 rintro k ⟨hk,hno⟩
 by_cases hlt:k < l.length
 ·have hx:=List.getElem?_eq_getElem hlt
  obtain ⟨b,o,rfl,hA,h0,h1,h2⟩:=arcRow hr hx
  have hfa:=hf l[k] (List.getElem_mem hlt)
  unfold encA at hfa;refine Ab3 ?_;refine Aa8 ?_;refine Aa1 ?_;refine Abc ?_
  refine A3 (hfa.rsub (R':=R1) (fun _ h=>h)) rfl rfl ?_ rfl rfl ?_
  ·intro σ hσ; left; simp [hσ]
  rintro u rfl;refine AE ?_
  refine jk_if rfl (fun hp=>?_) (fun hp=>?_)
  ·refine AC ?_
   refine AA ?_;refine AB ?_;refine Aaa ?_;refine AI (res1 rfl rfl) ?_ selZ ⟨rfl,?_⟩
   ·intro σ hσ; exact hσ
   ·have:l.findIdx? p = some k:=by
     rw [List.findIdx?_eq_some_iff_getElem]
     refine ⟨hlt,hp,fun j hj=>?_⟩
     have:=hno l[j] (List.mem_take_iff_getElem.2 ⟨j,by omega,rfl⟩)
     simp [this]
    unfold idxOf; rw [this]
  ·refine AK ?_
   refine Aa0 ?_
   refine AX (k + 1) ⟨by omega,fun x hx'=>?_⟩ (by omega) covZ selZ
   rw [List.take_succ_eq_append_getElem hlt] at hx'
   rcases List.mem_append.1 hx' with hx' | hx'
   ·exact hno x hx'
   ·rw [List.mem_singleton.1 hx']; exact hp
 ·refine AC ?_
  refine Adz ?_;refine Aak ?_;refine AI (res1 rfl rfl) ?_ selZ ⟨rfl,?_⟩
  ·intro σ hσ; exact hσ
  ·have hkl:k = l.length:=by omega
   subst hkl;rw [List.take_length] at hno
   have:l.findIdx? p = none:=by rw [List.findIdx?_eq_none_iff]; exact hno
   unfold idxOf; rw [this]
theorem containsArc_spec (ρ:PH) (v f:Value) (R1:List PH) (l:List Arc) (p:Arc → Bool) (hv:ArcsAt ρ v l) (hl:l.length ≤ 1000000) (hf:∀ a ∈ l,Ans Tryz.prog f [.agg (encA a).toArray] R1 (fun u=>u = .bool (p a))) :
  Ans Tryz.prog (fv 122) [v,f] (ρ :: R1) (fun u=>u = .bool (l.any p)):=by
 refine spec_in (cap:=[]) Tryz.func122 rfl rfl Tryz.ntmps122 rfl envZ (fun N β=>?_)
 refine Aak ?_;refine Abn ?_;refine A3 (indexArc_spec ρ v f R1 l p hv hl hf) rfl rfl ?_ rfl rfl ?_
 ·intro σ hσ; left; simp at hσ ⊢; right; exact hσ
 rintro u rfl
 have hi:=idxOf_ge p l
 by_cases hc:0 ≤ idxOf p l
 all_goals
  repeat' (first
   | (refine AD ?_)
   | (refine CL ?_)
   | (refine BL ?_)
   | (refine AE ?_)
   | fail)
  refine AI (res1 rfl rfl) (by intro σ hσ; exact hσ) selZ ⟨rfl,?_⟩
 ·rw [hi.1 hc]
 ·have:l.any p = false:=by
   cases h:l.any p with
   | false=>rfl
   | true=>exact absurd (hi.2 h) hc
  rw [this]

theorem check_spec (ρ:PH) (v:Value) (n:Int) (l:List Arc) (hv:ArcsAt ρ v l) (hl:l.length ≤ 1000000) :
  Ans Tryz.prog (fv 62) [int n,v] [ρ] (fun u=>u = int (chk n l)):=by
 obtain ⟨q,c,rfl,hr⟩:=hv.val encA_len
 refine spec_in (cap:=[]) Tryz.func62 rfl rfl Tryz.ntmps62 rfl envZ (fun N β=>?_)
 repeat' (first
  | (refine AB ?_)
  | (refine AD ?_)
  | (refine AF ?_)
  | (refine AN ?_)
  | (refine AJ ?_)
  | (refine AV ?_)
  | (refine CA ?_)
  | (refine AC ?_)
  | (refine AA ?_)
  | (refine AE ?_)
  | (refine AK ?_)
  | (refine AM rfl ?_)
  | (refine AL rfl ?_)
  | (refine AH rfl rfl rfl ?_)
  | (focus ((refine A3 (containsArc_spec ρ _ _ [_] l (fun a=>!okArc n a) hv hl (fun a _=>check1_spec _ _ n a)) rfl rfl rdZ rfl rfl ?_; rintro u rfl)))
  | (refine EL ?_; rintro _ _ ⟨b,rfl,rfl⟩)
  | (focus ((refine CM rfl rfl (cmp_lt _ _) rfl rfl (fun h=>?_) (fun h=>?_))))
  | (focus ((refine jk_if rfl (fun h=>?_) (fun h=>?_))))
  | fail)
 all_goals refine AI (res1 rfl rfl) rsubZ selZ ⟨rfl,?_⟩
 all_goals unfold chk
 ·rw [if_pos (by omega)]
 ·rw [if_neg (by omega),if_pos (by omega)]
 ·rw [if_neg (by omega),if_pos (by omega)]
 ·rename_i h
  rw [if_neg (by omega),if_neg (by omega),if_neg (fun h2=>?_)]
  simp only [List.all_eq_true,List.any_eq_true,Bool.not_eq_true'] at h h2
  obtain ⟨x,hx,e⟩:=h
  rw [h2 x hx] at e
  simp at e
 ·rename_i h
  rw [if_neg (by omega),if_neg (by omega),if_pos ?_]
  rw [List.all_eq_true];rw [List.any_eq_false] at h
  intro x hx
  simpa using h x hx

end Go.Proofs.YtjehnjhkcmobcaaGreat
/- Values of flows, capacities of cuts, equal lists: what the functions answer. -/
namespace Go.Proofs.YtjehnjhkcmobcaaGreat
open Go.Eng Go.Flow
set_option maxRecDepth 100000
set_option maxHeartbeats 4000000

theorem value_spec (ρ σ:PH) (v u:Value) (s:Int) (l:List Arc) (fl:List Int) (hv:ArcsAt ρ v l) (hu:IntsAt σ u fl) (hl:l.length ≤ 20000) (hfl:fl.length = l.length) (hs:small fl) :
  Ans Tryz.prog (fv 121) [v,u,int s] [ρ,σ] (fun r=>r = int (fval s l fl)):=by
 obtain ⟨q,c,rfl,hr⟩:=hv.val encA_len
 obtain ⟨q2,c2,rfl,hr2⟩:=hu.val Eng.encI_len
 refine spec_in (cap:=[]) Tryz.func121 rfl rfl Tryz.ntmps121 rfl envZ (fun N β=>?_)
 refine Aek ?_
 refine BA [0,1,2,10,11] ((0,0):Nat × Int) (fun x=>x.1 ≤ l.length ∧ x.2 = fval s (l.take x.1) (fl.take x.1)) (fun x=>[(7,int x.2),(12,int x.1)]) (fun _=>[]) (fun x=>l.length - x.1) pickZ ⟨by simp,by simp [fval]⟩ covZ selZ ?_
 rintro ⟨k,y⟩ ⟨hk,hy⟩;simp only at hk hy
 by_cases hlt:k < l.length
 ·have hx:=List.getElem?_eq_getElem hlt
  obtain ⟨b,o,rfl,hA,h0,h1,h2⟩:=arcRow hr hx
  have hx2:=List.getElem?_eq_getElem (show k < fl.length by omega)
  obtain ⟨b2,o2,rfl,g0⟩:=hr2.int hx2
  have hbd:=fval_bd s (l.take k) (fl.take k) (small_take hs k)
  have hlen:(fl.take k).length = k:=by simp; omega
  rw [← hy,hlen] at hbd
  have hx3:=hs fl[k] (List.getElem_mem _)
  have hstep:fval s (l.take (k + 1)) (fl.take (k + 1)) = y + ((if l[k].f = s then fl[k] else 0) - (if l[k].t = s then fl[k] else 0)):=by
   rw [take_snoc' hlt,take_snoc' (show k < fl.length by omega),fval_snoc _ _ _ _ _ (by simp; omega),hy]
  repeat' (first
   | (refine AB ?_)
   | (refine AD ?_)
   | (refine AF ?_)
   | (refine AG ?_)
   | (refine BU ?_)
   | (refine A9 ?_)
   | (refine A7 ?_)
   | (refine BB ?_)
   | (refine CG ?_)
   | (refine CN ?_)
   | (refine AS ?_)
   | (refine AC ?_)
   | (refine AA ?_)
   | (refine AE ?_)
   | (refine AO ?_)
   | (refine A2 ?_)
   | (refine AK ?_)
   | (refine AM rfl ?_)
   | (refine AL rfl ?_)
   | (refine AY ?_; rintro _ _ ⟨b,rfl,rfl⟩)
   | (refine AU ?_; rintro _ _ ⟨rfl,rfl⟩)
   | (focus ((refine CM rfl rfl (cmp_eq _ _) rfl rfl (fun h=>?_) (fun h=>?_))))
   | fail)
  all_goals refine AX (k + 1,_) ⟨by simp only; omega,?_⟩ (by simp only; omega) covZ selZ
  all_goals simp only
  all_goals rw [hstep]
  all_goals (repeat (first | rw [if_pos (by assumption)] | rw [if_neg (by assumption)]))
  all_goals omega
 ·refine AC ?_
  refine Adz ?_;refine Abs ?_;refine AI (res1 rfl rfl) rsubZ selZ ⟨rfl,?_⟩
  rw [hy,List.take_of_length_le (by omega),List.take_of_length_le (by omega)]

theorem capacity_spec (ρ:PH) (v:Value) (n b cp:Nat) (T:TypeId) (l:List Arc) (m:List Bool) (hv:ArcsAt ρ v l) (hl:l.length ≤ 20000) (hok:∀ a ∈ l,okArc n a = true) (hm:m.length = n) :
  Ans Tryz.prog (fv 66) [v,.slice (some ⟨b,0,none⟩) n cp] [ρ,sng b (.cells (bools m) T (0,0))] (fun r=>r = int (capOf (fun j=>m.getD j false) l)):=by
 obtain ⟨q,c,rfl,hr⟩:=hv.val encA_len
 refine spec_in (cap:=[]) Tryz.func66 rfl rfl Tryz.ntmps66 rfl envZ (fun N β=>?_)
 refine Aek ?_
 refine BA [0,1,8,9] ((0,0):Nat × Int) (fun x=>x.1 ≤ l.length ∧ x.2 = capOf (fun j=>m.getD j false) (l.take x.1)) (fun x=>[(5,int x.2),(10,int x.1)]) (fun _=>[]) (fun x=>l.length - x.1) pickZ ⟨by simp,by simp [capOf]⟩ covZ selZ ?_
 rintro ⟨k,y⟩ ⟨hk,hy⟩;simp only at hk hy
 by_cases hlt:k < l.length
 ·have hx:=List.getElem?_eq_getElem hlt
  obtain ⟨b',o,rfl,hA,h0,h1,h2⟩:=arcRow hr hx
  have hbd:=capOf_bd n (fun j=>m.getD j false) (l.take k) (fun a ha=>hok a (List.mem_of_mem_take ha))
  have hlen:(l.take k).length = k:=by simp; omega
  rw [← hy,hlen] at hbd
  obtain ⟨g1,g2,g3,g4,g5,g6,g7⟩:=okArc_iff.1 (hok l[k] (List.getElem_mem hlt))
  have hstep:capOf (fun j=>m.getD j false) (l.take (k + 1)) = y + (if m.getD l[k].f.toNat false = true ∧ m.getD l[k].t.toNat false = false then l[k].c else 0):=by
   rw [take_snoc' hlt,capOf_snoc,hy]
  obtain ⟨f,hf⟩:=Int.eq_ofNat_of_zero_le g1
  obtain ⟨t,ht⟩:=Int.eq_ofNat_of_zero_le g3
  rw [hf,ht] at hA hstep;rw [hf] at g2;rw [ht] at g4
  have e1:m[f]? = some (m.getD f false):=by
   have:f < m.length:=by omega
   simp [this]
  have e2:m[t]? = some (m.getD t false):=by
   have:t < m.length:=by omega
   simp [this]
  simp only [Int.toNat_natCast] at hstep
  cases c1:m.getD f false with
  | false =>
   rw [c1] at e1
   rw [if_neg (by rw [c1]; simp),Int.add_zero] at hstep
   refine Ab1 ?_;refine AY ?_; rintro _ _ ⟨b,rfl,rfl⟩;refine AU ?_; rintro _ _ ⟨rfl,rfl⟩;refine Adh ?_;refine Aac ?_;refine Ad8 ?_;refine Ac0 ?_;refine Abh ?_;refine Aa0 ?_
   exact AX (k + 1,_) ⟨by simp only; omega,hstep.symm⟩ (by simp only; omega) covZ selZ
  | true =>
   rw [c1] at e1
   cases c2:m.getD t false with
   | false =>
    rw [c2] at e2;rw [if_pos ⟨c1,c2⟩] at hstep;refine Ab1 ?_;refine AY ?_; rintro _ _ ⟨b,rfl,rfl⟩;refine AU ?_; rintro _ _ ⟨rfl,rfl⟩;refine Adh ?_;refine Aac ?_;refine B9 ?_;refine Ach ?_;refine Aag ?_;refine Ad8 ?_;refine BE ?_;refine AN ?_;refine Aah ?_;refine AA ?_;refine Aag ?_;refine CG ?_;refine Adp ?_
    exact AX (k + 1,_) ⟨by simp only; omega,hstep.symm⟩ (by simp only; omega) covZ selZ
   | true =>
    rw [c2] at e2
    rw [if_neg (by rw [c2]; simp),Int.add_zero] at hstep
    refine Ab1 ?_;refine AY ?_; rintro _ _ ⟨b,rfl,rfl⟩;refine AU ?_; rintro _ _ ⟨rfl,rfl⟩;refine Adh ?_;refine Aac ?_;refine B9 ?_;refine Ach ?_;refine Aag ?_;refine Ad8 ?_;refine BE ?_;refine AN ?_;refine Ac5 ?_
    exact AX (k + 1,_) ⟨by simp only; omega,hstep.symm⟩ (by simp only; omega) covZ selZ
 ·refine AC ?_
  refine Adz ?_;refine Abs ?_;refine AI (res1 rfl rfl) rsubZ selZ ⟨rfl,?_⟩
  rw [hy,List.take_of_length_le (by omega)]

end Go.Proofs.YtjehnjhkcmobcaaGreat
/- Links, rooms, and the iterator that yields the links with room. -/
namespace Go.Proofs.YtjehnjhkcmobcaaGreat
open Go.Eng Go.Flow
set_option maxRecDepth 100000
set_option maxHeartbeats 4000000

def encL (x:Lk):List Value:=[int x.k,int x.f,int x.t]
theorem encL_len (x:Lk):(encL x).length = 3:=rfl
theorem lkRow {ρ:PH} {p:Option Addr} {l:List Lk} (h:RowsE encL 3 ρ p l) {i:Nat} {x:Lk} (hx:l[i]? = some x) :
  ∃ b o,p = some ⟨b,o,none⟩ ∧ RdN ρ b (o + i * 3) [int x.k,int x.f,int x.t]:=by
 obtain ⟨b,o,e,hr⟩:=h i x hx
 exact ⟨b,o,e,hr⟩
def openL (rm:Nat → Int) (l:List Lk):List Lk:=l.filter (fun x=>decide (0 < rm x.k))
theorem openL_snoc (rm:Nat → Int) (l:List Lk) (x:Lk):openL rm (l ++ [x]) = openL rm l ++ (if 0 < rm x.k then [x] else []):=by
 unfold openL;rw [List.filter_append]
 by_cases h:0 < rm x.k <;> simp [h]
theorem openL_take {rm:Nat → Int} {l:List Lk} {k:Nat} (h:k < l.length) (hp:0 < rm l[k].k):(openL rm l)[(openL rm (l.take k)).length]? = some l[k]:=by
 have e:l = l.take k ++ (l[k] :: l.drop (k + 1)):=by
  rw [← List.drop_eq_getElem_cons h,List.take_append_drop]
 conv=>lhs; rw [e]
 unfold openL
 rw [List.filter_append,List.getElem?_append_right (by simp)]
 have:List.filter (fun x=>decide (0 < rm x.k)) (l[k] :: l.drop (k + 1)) = l[k] :: List.filter (fun x=>decide (0 < rm x.k)) (l.drop (k + 1)):=by
  rw [List.filter_cons,if_pos (by simpa using hp)]
 rw [this]
 have hl:(List.take k (List.take k l ++ l[k] :: List.drop (k + 1) l)) = List.take k l:=by rw [← e]
 rw [hl]
 simp

theorem open_spec (g l:Value) (hl1:l.oneCell' = true) (hg1:g.oneCell' = true) :
  Eng.Spec Tryz.prog (fv 65) [g,l] [] [] (fun v H'=>∃ bl bg,v = .func (.func 126) #[] #[.pointer (some ⟨bl,0,none⟩),.pointer (some ⟨bg,0,none⟩)] ∧
   H' = [sng bl (.cells #[l] 129 (0,0)),sng bg (.cells #[g] 122 (0,0))]):=by
 refine spec_in (cap:=[]) Tryz.func65 rfl rfl Tryz.ntmps65 rfl envZ (fun N β=>?_)
 refine Aa ?_;refine BH (DC rfl hg1) rfl rfl rfl ?_;rintro _ _ ⟨bg,rfl,rfl⟩;refine BH (DC rfl hl1) rfl rfl rfl ?_;rintro _ _ ⟨bl,rfl,rfl⟩;refine Aaa ?_;refine Aa ?_;refine CA ?_;refine Aaa ?_;exact AI (res1 rfl rfl) rsubZ selZ ⟨bl,bg,rfl,rfl⟩

theorem open_iter (γ:PH) (gb bl bg:Nat) (lv room:Value) (ls:List Lk) (rm:Nat → Int) (Rr:List PH) (hls:SlE encL 3 γ lv ls) (hlen:ls.length ≤ 1000000) (hroom:rdc γ gb 2 = some room)
  (hrm:∀ x ∈ ls,Ans Tryz.prog room [int x.k] Rr (fun v=>v = int (rm x.k))) :
  Iter Tryz.prog (.func (.func 126) #[] #[.pointer (some ⟨bl,0,none⟩),.pointer (some ⟨bg,0,none⟩)])
   ([sng bl (.cells #[lv] 129 (0,0)),sng bg (.cells #[.pointer (some ⟨gb,0,none⟩)] 122 (0,0)),γ] ++ Rr) ((openL rm ls).map (fun x=>[.agg (encL x).toArray])):=by
 intro y S Own Inv Stop Ry hy hyl σ0 h0
 obtain ⟨yl,rfl⟩:=hyl
 obtain ⟨p,c,rfl,hr⟩:=hls.val encL_len
 have c1:rdc (sng bl (.cells #[.slice p ls.length c] 129 (0,0))) bl 0 = some (.slice p ls.length c):=by rw [rdc_sng]; rfl
 have c2:rdc (sng bg (.cells #[.pointer (some ⟨gb,0,none⟩)] 122 (0,0))) bg 0 = some (.pointer (some ⟨gb,0,none⟩)):=by rw [rdc_sng]; rfl
 simp only [List.cons_append,List.nil_append]
 refine spec_in (cap:=[.pointer (some ⟨bl,0,none⟩),.pointer (some ⟨bg,0,none⟩)]) Tryz.func126 rfl rfl Tryz.ntmps126 rfl envZ (fun N β=>?_)
 refine Abk ?_;refine Ada ?_
 refine BA [0,1,2,6,7] ((0,σ0):Nat × S) (fun x=>x.1 ≤ ls.length ∧ Inv (openL rm (ls.take x.1)).length x.2) (fun x=>[(8,int x.1)]) (fun x=>Own x.2) (fun x=>ls.length - x.1) pickZ ⟨by simp,by simpa [openL] using h0⟩ covZ Sel.refl ?_
 rintro ⟨k,σ⟩ ⟨hk,hI⟩;simp only at hk hI
 by_cases hlt:k < ls.length
 ·obtain ⟨b',o,rfl,hA⟩:=lkRow hr (List.getElem?_eq_getElem hlt)
  have hrk:=hrm ls[k] (List.getElem_mem hlt)
  have hsn:=openL_snoc rm (ls.take k) ls[k]
  rw [← take_snoc' hlt] at hsn;refine Ab1 ?_;refine AY ?_; rintro _ _ ⟨b,rfl,rfl⟩;refine AU ?_; rintro _ _ ⟨rfl,rfl⟩;refine Aal ?_
  by_cases hp:0 < rm ls[k].k
  ·have hget:=openL_take hlt hp
   have hyk:=hy (openL rm (ls.take k)).length σ [.agg (encL ls[k]).toArray] (by rw [List.getElem?_map,hget]; rfl) hI
   rw [if_pos hp] at hsn
   refine A8 (.q 0 (.q 1 (.q 2 (.q 3 (.q 4 (.q 5 (.l 6 .e (.q 7 (.q 8 (.q 9 (.q 10 (.l 11 .b (.q 12 (.q 13 .nil)))))))))))))) [] rfl (by kernel_rfl) Sel.nil ?_
   refine AR ?_;refine Ab6 ?_;refine Aar ?_
   refine B7 (CC rfl hrk rfl rfl (fun τ hτ=>.inl (by simp [hτ])) rfl rfl ?_)
   rintro _ rfl;refine DW ?_;refine Aa7 ?_;refine BQ ?_
   refine B7 (D6 rfl hyk rfl rfl (Takes.skip Takes.all) (fun τ hτ=>.inl (by simp [hτ])) rfl rfl (fun _ _ _ w hw=>hw.sel Sel.nil) ?_)
   rintro v H' ⟨σ',rfl,⟨rfl,hI'⟩ | ⟨rfl,hS⟩⟩
   ·refine CV ?_
    refine BV ?_;refine Aex ?_
    refine AX (k + 1,σ') ⟨by simp only; omega,?_⟩ (by simp only; omega) covZ Sel.left
    simp only;rw [hsn]
    simpa using hI'
   ·refine CV ?_
    refine BV ?_;refine Ab0 ?_
    exact AI (res0 rfl) (fun _ h=>h) Sel.left ⟨σ',rfl,.inr hS⟩
  ·rw [if_neg hp,List.append_nil] at hsn
   refine A8 (.q 0 (.q 1 (.q 2 (.q 3 (.q 4 (.q 5 (.l 6 .e (.q 7 (.q 8 (.q 9 (.q 10 (.q 11 (.q 12 (.q 13 .nil)))))))))))))) [] rfl (by kernel_rfl) Sel.nil ?_
   refine AR ?_;refine Ab6 ?_;refine Aar ?_
   refine B7 (CC rfl hrk rfl rfl (fun τ hτ=>.inl (by simp [hτ])) rfl rfl ?_)
   rintro _ rfl;refine DO ?_;refine Adk ?_;refine BZ ?_;refine Aex ?_
   refine AX (k + 1,σ) ⟨by simp only; omega,?_⟩ (by simp only; omega) covZ (Sel.skip Sel.refl)
   simp only;rw [hsn]; exact hI
 ·refine AC ?_
  refine Adz ?_
  refine CO (res0 rfl) (fun _ h=>h) Sel.refl ⟨σ,rfl,.inl ?_⟩
  rw [List.take_of_length_le (by omega)] at hI
  simpa using hI
end Go.Proofs.YtjehnjhkcmobcaaGreat
/- Distances by a queue. -/
namespace Go.Proofs.YtjehnjhkcmobcaaGreat
open Go.Eng Go.Flow
set_option maxRecDepth 100000
set_option maxHeartbeats 4000000

theorem next_spec (bq:Nat) (qv:Value) (x:Value) (k:Nat) (xs:List Value) (ρq:PH) (hq:OwnO 3 1 qv (k + 1) (x :: xs) ρq) :
  Eng.Spec Tryz.prog (.func (.func 177) #[] #[.pointer (some ⟨bq,0,none⟩)]) [] [] [sng bq (.cells #[qv] 22 (0,0)),ρq]
   (fun v H'=>v = x ∧ ∃ qv',OwnO 3 1 qv' k xs ρq ∧ qv'.oneCell' = true ∧ H' = [sng bq (.cells #[qv'] 22 (0,0)),ρq]):=by
 obtain ⟨b,o,cap,rfl,h0,h1⟩:=hq.head
 refine spec_in (cap:=[.pointer (some ⟨bq,0,none⟩)]) Tryz.func177 rfl rfl Tryz.ntmps177 rfl envZ (fun N β=>?_)
 refine Aak ?_;refine Abk ?_;refine G2 ?_;refine AF ?_;refine Aaa ?_;refine Abk ?_
 focus ((refine' CH _ rfl rfl rfl _; rotate_left; (apply EO (i:=1); exact rfl; exact rfl; exact rfl; exact rfl; omega)))
 refine BF ?_; rintro _ _ ⟨rfl,rfl⟩;refine AE ?_;refine Abs ?_;exact AI (res1 rfl rfl) rsubZ selZ ⟨rfl,_,h1,rfl,rfl⟩

structure GAt (γ:PH) (gb n:Nat) (outs ins:Nat → List Lk) (room:Value):Prop where
 o:∃ ob c,rdc γ gb 0 = some (.slice (some ⟨ob,0,none⟩) n c) ∧ ∀ v,v < n → ∃ lv,rdc γ ob v = some lv ∧ SlE encL 3 γ lv (outs v)
 i:∃ ib c,rdc γ gb 1 = some (.slice (some ⟨ib,0,none⟩) n c) ∧ ∀ v,v < n → ∃ lv,rdc γ ib v = some lv ∧ SlE encL 3 γ lv (ins v)
 r:rdc γ gb 2 = some room
structure GOk (n:Nat) (outs ins:Nat → List Lk):Prop where
 n1:n ≤ 2000
 len:∀ v,(outs v).length ≤ 40000 ∧ (ins v).length ≤ 40000
 inT:∀ v x,v < n → x ∈ ins v → x.t = v ∧ x.f < n ∧ x.k ≤ 40000
 outF:∀ v x,v < n → x ∈ outs v → x.f = v ∧ x.t < n ∧ x.k ≤ 40000
 same:∀ x:Lk,x.f < n → x.t < n → (x ∈ outs x.f ↔ x ∈ ins x.t)
def opens (n:Nat) (ins:Nat → List Lk) (rm:Nat → Int) (x:Lk):Prop:=x.t < n ∧ x ∈ ins x.t ∧ 0 < rm x.k
theorem opens_lt {n:Nat} {outs ins:Nat → List Lk} {rm:Nat → Int} (h:GOk n outs ins) (x:Lk) (hx:opens n ins rm x):x.f < n ∧ x.t < n:=⟨(h.inT x.t x hx.1 hx.2.1).2.1,hx.1⟩
def qInts (q:List Nat):List Value:=q.map (fun (v:Nat)=>int (v:Int))
theorem fillL (n k:Nat) (h:k < n):(List.replicate k (-1:Int) ++ List.replicate (n - k) 0).set k (-1) = List.replicate (k + 1) (-1) ++ List.replicate (n - (k + 1)) 0:=by
 rw [List.set_append_right _ _ (by simp)]
 simp only [List.length_replicate,Nat.sub_self]
 obtain ⟨m,hm⟩:∃ m,n - k = m + 1:=⟨n - k - 1,by omega⟩
 rw [hm,List.replicate_succ,List.set_cons_zero,show n - (k + 1) = m from by omega,List.replicate_succ',List.append_assoc]
 rfl
theorem SlE.one {α:Type} {enc:α → List Value} {s:Nat} {ρ:PH} {v:Value} {l:List α} (h:SlE enc s ρ v l):v.oneCell' = true:=by
 obtain ⟨b,c,rfl⟩:=SlAt.cap h
 rfl
set_option maxHeartbeats 2000000 in
theorem distances_spec (γ:PH) (gb n t:Nat) (outs ins:Nat → List Lk) (room:Value) (rm:Nat → Int) (Rr:List PH) (hG:GAt γ gb n outs ins room) (hO:GOk n outs ins) (ht:t < n)
  (hrm:∀ v x,v < n → x ∈ ins v → Ans Tryz.prog room [int x.k] Rr (fun v=>v = int (rm x.k))) :
  Makes Tryz.prog (fv 130) [.pointer (some ⟨gb,0,none⟩),int t] (γ :: Rr) (fun v ρ=>∃ b D,v = .slice (some ⟨b,0,none⟩) n n ∧ ρ = sng b (.cells (ints D) 3 (0,0)) ∧ IsDist n t (opens n ins rm) D):=by
 have hn:=hO.n1
 obtain ⟨ob,oc,ho,_⟩:=hG.o
 obtain ⟨ib,ic,hi,hil⟩:=hG.i
 refine spec_in (cap:=[]) Tryz.func130 rfl rfl Tryz.ntmps130 rfl envZ (fun N β=>?_)
 refine BY ?_;refine Aak ?_;refine Aad ?_;refine BX ?_;refine Ac ?_;refine D3 ?_; rintro _ _ ⟨b,rfl,rfl⟩;refine B6 ?_; rintro _ _ ⟨b,rfl,rfl⟩;refine BF ?_; rintro _ _ ⟨rfl,rfl⟩;refine Aal ?_;refine Abk ?_;refine Ada ?_
 rename_i bd
 revert b; intro bo
 rw [show List.replicate n (0:Int) = List.replicate 0 (-1) ++ List.replicate (n - 0) 0 from by simp]
 refine BA [0,1,5,17,18] (0:Nat) (fun k=>k ≤ n) (fun k=>[(19,int k)]) (fun k=>[sng bo (.cells #[.slice (some ⟨bd,0,none⟩) n n] 22 (0,0)),sng bd (.cells (ints (List.replicate k (-1) ++ List.replicate (n - k) 0)) 3 (0,0)),emp]) (fun k=>n - k) pickZ (by omega) covZ selZ ?_
 intro k hk
 have hfl:(List.replicate k (-1:Int) ++ List.replicate (n - k) 0).length = n:=by simp; omega
 by_cases hlt:k < n
 ·have hf:=fillL n k hlt
  refine Aa3 ?_;refine Abs ?_;refine AA ?_;refine Ach ?_;refine B9 ?_;refine DF ?_; rintro _ _ ⟨rfl,rfl⟩;refine Adj ?_
  refine AX (k + 1) (by omega) (by omega) covZ ?_
  rw [← hf];exact selZ
 obtain rfl:k = n:=by omega
 rw [Nat.sub_self,List.replicate_zero,List.append_nil] at hfl ⊢;refine Abl ?_;refine Adi ?_;refine B9 ?_;refine DF ?_; rintro _ _ ⟨rfl,rfl⟩;refine Adh ?_;refine BD ?_; rintro _ _ ⟨b,rfl,rfl⟩;refine B6 ?_; rintro _ _ ⟨b,rfl,rfl⟩;refine BF ?_; rintro _ _ ⟨rfl,rfl⟩;refine AE ?_;refine Aa ?_;refine CA ?_;refine Aaa ?_;refine Aau ?_
 rename_i bi
 revert b; intro bq
 have hq0:OwnO 3 1 (.slice (some ⟨bi,0,none⟩) 1 1) 1 [int t] (sng bi (.cells [int (t:Int)].toArray 3 (0,0))):=OwnS.ownO (n:=1) rfl (by simp [maxLen])
 refine DZ [0,1,5,7,8] ((((List.replicate k (-1)).set t 0,[t]),(.slice (some ⟨bi,0,none⟩) 1 1,sng bi (.cells [int (t:Int)].toArray 3 (0,0)))),([],emp)) (X:=((List Int × List Nat) × (Value × PH)) × (List Nat × PH))
  (fun x=>x.2.1.map mk) (fun x=>BInv k t (opens k ins rm) x.1.1.1 x.1.1.2 ∧ OwnO 3 1 x.1.2.1 x.1.1.2.length (qInts x.1.1.2) x.1.2.2 ∧ x.1.1.2.length + unl x.1.1.1 ≤ k ∧ (∀ u,u < k → x.1.1.1.getD u 0 + unl x.1.1.1 ≤ (k:Int)) ∧ MkIn x.2.2 x.2.1)
  (fun _=>[]) (fun x=>[sng bo (.cells #[.slice (some ⟨bd,0,none⟩) k k] 22 (0,0)),sng bd (.cells (ints x.1.1.1) 3 (0,0)),sng bq (.cells #[x.1.2.1] 22 (0,0)),x.1.2.2,x.2.2]) (fun x=>2 * unl x.1.1.1 + x.1.1.2.length)
  pickZ rfl ⟨BInv.start ht,hq0,by have:=unl_start ht; simp only [List.length_singleton]; omega,fun u hu=>by have:=unl_start ht; dsimp only; rw [getD_set (by rw [List.length_replicate]; exact ht),getD_rep hu]; split <;> omega,MkIn.nil⟩ covZ selZ ?_
 rintro ⟨⟨⟨D,q⟩,⟨qv,ρq⟩⟩,⟨ms,μ⟩⟩ ⟨hB,hQ,hql,hub,hM⟩
 dsimp only at hB hQ hql hub hM ⊢
 cases q with
 | nil =>
  have hQ':OwnO 3 1 qv 0 [] ρq:=hQ
  obtain ⟨_,b1,o1,cap1,cur1,rfl,rfl,_⟩:=hQ'
  have hdist:=hB.dist (opens_lt hO)
  refine AC ?_;refine Abk ?_;refine Ad7 ?_;refine Ac3 ?_;refine Abk ?_;refine Aaa ?_;exact DX hM takeZ (res1 rfl rfl) rsubZ selZ ⟨_,⟨bd,D,rfl,rfl,hdist⟩,rfl⟩
 | cons v q =>
  have hQ':OwnO 3 1 qv (q.length + 1) (int v :: qInts q) ρq:=hQ
  have hV0:=hB.take
  have hvn:=hV0.vn
  obtain ⟨lv,hlv,hls⟩:=hil v hvn
  have hnx:=next_spec bq qv (int v) q.length (qInts q) ρq hQ'
  obtain ⟨b1,o1,cap1,rfl,_,_⟩:=hQ'.head
  simp only [List.length_cons] at hql;refine AC ?_;refine Abk ?_;refine AV ?_;refine CQ ?_;refine Aah ?_;refine AK ?_;refine AO ?_;refine Aad ?_;refine BC hnx rfl rfl takesZ rdZ rfl rfl ?_;rintro _ _ ⟨rfl,qv1,hQ1,hq1,rfl⟩;simp only [List.cons_append,List.nil_append];refine B6 ?_; rintro _ _ ⟨b,rfl,rfl⟩;refine BF ?_; rintro _ _ ⟨rfl,rfl⟩;refine Aal ?_
  revert b; intro b9
  refine A8 (.q 0 (.q 1 (.q 2 (.q 3 (.q 4 (.q 5 (.q 6 (.q 7 (.l 8 .e .nil))))))))) [] rfl (by kernel_rfl) selZ ?_
  refine Aa7 ?_;refine Ab6 ?_;refine AR ?_;refine Ad9 ?_;refine B7 (BJ rfl (open_spec _ _ (SlE.one hls) rfl) rfl rfl rdZ rfl rfl ?_);rintro _ _ ⟨bl,bg,rfl,rfl⟩;simp only [List.cons_append,List.nil_append];refine A5 ?_;refine AT (ρ:=sng bl _) takeZ ?_;refine AT (ρ:=sng bg _) takeZ ?_;refine AT (ρ:=sng b9 _) takeZ ?_
  have hvl:rdc (sng b9 (.cells #[int (v:Int)] 3 (0,0))) b9 0 = some (int v):=by rw [rdc_sng]; rfl
  refine AO ?_
  refine DB (gf:=126) (cap:=[.pointer (some ⟨bl,0,none⟩),.pointer (some ⟨bg,0,none⟩)]) (ps:=[46]) (X:=(List Int × List Nat) × (Value × PH)) rfl Tryz.func126 rfl rfl
   (open_iter γ gb bl bg lv room (ins v) rm Rr hls (by have:=(hO.len v).2; omega) hG.r (fun x hx=>hrm v x hvn hx)) ?_
   (fun i x=>VInv k t (opens k ins rm) x.1.1 v x.1.2 ((openL rm (ins v)).take i) ∧ OwnO 3 1 x.2.1 x.1.2.length (qInts x.1.2) x.2.2 ∧ x.1.2.length + unl x.1.1 + 1 ≤ k ∧ (∀ u,u < k → x.1.1.getD u 0 + unl x.1.1 ≤ (k:Int)) ∧ 2 * unl x.1.1 + x.1.2.length ≤ 2 * unl D + q.length)
   (fun x=>[sng bo (.cells #[.slice (some ⟨bd,0,none⟩) k k] 22 (0,0)),sng bd (.cells (ints x.1.1) 3 (0,0)),sng bq (.cells #[x.2.1] 22 (0,0)),x.2.2])
   (fun _ _=>False) ((D,q),(qv1,ρq)) rfl takesZ ⟨by simpa using hV0,hQ1,by simp only; omega,hub,by simp only; omega⟩ ?_ ?_ ?_
  ·intro σ hσ
   simp only [List.cons_append,List.nil_append,List.mem_cons] at hσ ⊢
   rcases hσ with h | h | h | h <;> simp [h]
  ·rintro l r i ⟨⟨D1,q1⟩,⟨qv2,ρ2⟩⟩ vs hvs ⟨hV,hQ2,hlq,hub2,hms⟩ hps has hbd hst hpe hfr
   dsimp only at hV hQ2 hlq hub2 hms ⊢
   obtain ⟨st,pe,fnn,tm,prm,asg,bdy,df⟩:=r
   simp only at hps has hbd hst hpe hfr;subst hps has hbd hst hpe;rw [List.getElem?_map] at hvs
   obtain ⟨x,hx,rfl⟩:=Option.map_eq_some_iff.1 hvs
   have hlt:i < (openL rm (ins v)).length:=(List.getElem?_eq_some_iff.1 hx).1
   have hxe:(openL rm (ins v))[i] = x:=(List.getElem?_eq_some_iff.1 hx).2
   have hxm:x ∈ openL rm (ins v):=List.mem_of_getElem? hx
   have hxi:x ∈ ins v ∧ 0 < rm x.k:=by unfold openL at hxm; simpa using hxm
   obtain ⟨hxt,hxf,hxk⟩:=hO.inT v x hvn hxi.1
   have htk:(openL rm (ins v)).take (i + 1) = (openL rm (ins v)).take i ++ [x]:=by rw [take_snoc' hlt,hxe]
   have hDl:D1.length = k:=hV.len
   have hv0:=hV.v0
   have hvub:=hub2 v hvn
   refine yield_spec hfr rfl (by intro p hp; simp at hp; omega) putiZ (fun N' β'=>?_)
   unfold encL;refine AA ?_;refine AY ?_; rintro _ _ ⟨b,rfl,rfl⟩;refine AU ?_; rintro _ _ ⟨rfl,rfl⟩;refine Aev ?_;refine C7 takeZ rfl ?_
   by_cases hneg:D1.getD x.f 0 < 0
   ·have hE:opens k ins rm x:=⟨by omega,by rw [hxt]; exact hxi.1,hxi.2⟩
    have hp:=hV.push hE hxf hxt hneg
    have hu:=unl_set (D:=D1) (i:=x.f) (x:=D1.getD v 0 + 1) (by omega) hneg (by omega)
    refine AO ?_;refine Abk ?_;refine Aac ?_;refine Ad8 ?_;refine BB ?_;refine Aah ?_;refine AC ?_
    refine A8 (.q 0 (.q 1 (.q 2 (.q 3 (.q 4 (.q 5 (.q 6 (.q 7 (.q 8 (.l 9 .b .nil)))))))))) [] rfl (by kernel_rfl) selZ ?_
    refine AR ?_;refine Aar ?_;refine AR ?_;refine AR ?_;refine Ad9 ?_;refine DK ?_;refine CP ?_;refine EB ?_; rintro _ _ ⟨rfl,rfl⟩;refine A5 ?_;refine AA ?_;refine AF ?_;refine Aac ?_;refine BD ?_; rintro _ _ ⟨b,rfl,rfl⟩
    refine' BH (ER (by_:=8) (s:=1) (news:=[int (x.f:Int)]) rfl rfl rfl rfl rfl rfl rfl hQ2 takeZ (cells_own memZ) rfl (by (repeat (first | exact (fun v hv=>absurd hv List.not_mem_nil) | (refine List.forall_mem_cons.2 ⟨?_,?_⟩; (focus (first | exact rfl | assumption))))); first | done | fail) (by simp only [maxLen]; omega) (by omega)) rfl rfl rfl _
    rintro q9 _ ⟨ρ3,hQ3,rfl⟩
    have hq9:q9.oneCell' = true:=by obtain ⟨_,_,_,_,_,rfl,_⟩:=hQ3; rfl
    have hQ4:OwnO 3 1 q9 (q1 ++ [x.f]).length (qInts (q1 ++ [x.f])) ρ3:=by
     have:qInts (q1 ++ [x.f]) = qInts q1 ++ [int (x.f:Int)]:=by simp [qInts]
     rw [this,List.length_append];exact hQ3
    refine BF ?_; rintro _ _ ⟨rfl,rfl⟩;refine Aer ?_;refine B4 takeZ rsubZ selZ ⟨((D1.set x.f (D1.getD v 0 + 1),q1 ++ [x.f]),(q9,ρ3)),.inl ⟨rfl,⟨?_,hQ4,?_,?_,?_⟩,rfl⟩⟩
    ·dsimp only
     rw [htk];exact hp
    ·dsimp only
     rw [List.length_append,List.length_singleton]; omega
    ·intro u hu'
     dsimp only
     have:=hub2 u hu'
     rw [getD_set (by omega)]
     split <;> omega
    ·dsimp only
     rw [List.length_append,List.length_singleton]; omega
   ·refine AO ?_
    refine Abk ?_;refine Aac ?_;refine Ad8 ?_;refine Aeh ?_;refine A2 ?_;refine B4 takeZ rsubZ selZ ⟨((D1,q1),(qv2,ρ2)),.inl ⟨rfl,⟨?_,hQ2,hlq,hub2,hms⟩,rfl⟩⟩;simp only;rw [htk]
    exact hV.seen (by omega)
  ·rintro b2 ⟨⟨D1,q1⟩,⟨qv2,ρ2⟩⟩ ⟨hV,hQ2,hlq,hub2,hms⟩
   dsimp only at hV hQ2 hlq hub2 hms ⊢
   simp only [List.cons_append,List.nil_append]
   refine DY (R':=β :: γ :: Rr) (by intro σ hσ; simp at hσ ⊢; rcases hσ with h | h | h <;> simp [h]) ?_
   refine C5 (b:=b2) takeZ (μ:=μ) takeZ hM ?_
   intro μ2 hM2
   refine A2 ?_;refine A2 ?_
   refine DM (((D1,q1),(qv2,ρ2)),(b2 :: ms,μ2)) rfl ⟨hV.done (opens_lt hO) (fun x hx hxt=>?_),hQ2,by simp only; omega,hub2,hM2⟩ (by simp only [List.length_cons]; omega) covZ selZ
   have hmem:x ∈ openL rm (ins v):=by
    unfold openL;rw [List.mem_filter]
    have:=hx.2.1
    rw [hxt] at this
    exact ⟨this,by simpa using hx.2.2⟩
   simpa [List.length_map] using hmem
  ·rintro _ _ _ h; exact h.elim
end Go.Proofs.YtjehnjhkcmobcaaGreat
/- The first shortest path, and the least room on it. -/
namespace Go.Proofs.YtjehnjhkcmobcaaGreat
open Go.Eng Go.Flow
set_option maxRecDepth 100000
set_option maxHeartbeats 4000000

def ksOf (p:List Lk):List Int:=p.map (fun (x:Lk)=>(x.k:Int))
def nxO (outs:Nat → List Lk) (rm:Nat → Int) (D:List Int) (v:Nat):Option Lk:=(openL rm (outs v)).find? (near D v)
theorem nxO_some {n t:Nat} {outs ins:Nat → List Lk} {rm:Nat → Int} {D:List Int} (hO:GOk n outs ins) (hD:IsDist n t (opens n ins rm) D) {v:Nat} (hv:v < n) (hd:0 < D.getD v 0) :
  ∃ x,nxO outs rm D v = some x ∧ x.f = v ∧ x.t < n ∧ x.k ≤ 40000 ∧ D.getD x.t 0 = D.getD v 0 - 1 ∧ opens n ins rm x:=by
 obtain ⟨y,hy,hyf,hyt⟩:=hD.step v hv hd
 have hyn:=opens_lt hO y hy
 have hyo:y ∈ outs v:=by
  have:=(hO.same y hyn.1 hyn.2).2 hy.2.1
  rwa [hyf] at this
 have hmem:y ∈ openL rm (outs v):=by
  unfold openL;rw [List.mem_filter]
  exact ⟨hyo,by simpa using hy.2.2⟩
 cases e:nxO outs rm D v with
 | none =>
  unfold nxO at e;rw [List.find?_eq_none] at e
  exact absurd (by unfold near; rw [hyt]; simp) (e y hmem)
 | some x =>
  have hm:=List.mem_of_find?_eq_some e
  have hp:=List.find?_some e
  unfold openL at hm;rw [List.mem_filter] at hm
  obtain ⟨h1,h2,h3⟩:=hO.outF v x hv hm.1
  refine ⟨x,rfl,h1,h2,h3,by simpa [near] using hp,h2,(hO.same x (by omega) h2).1 (by rw [h1]; exact hm.1),by simpa using hm.2⟩
set_option maxHeartbeats 2000000 in
theorem path_spec (γ:PH) (gb n s t:Nat) (outs ins:Nat → List Lk) (room:Value) (rm:Nat → Int) (Rr:List PH) (hG:GAt γ gb n outs ins room) (hO:GOk n outs ins) (hs:s < n) (ht:t < n)
  (hrm:∀ v x,v < n → x ∈ ins v → Ans Tryz.prog room [int x.k] Rr (fun v=>v = int (rm x.k))) :
  Makes Tryz.prog (fv 76) [.pointer (some ⟨gb,0,none⟩),int s,int t] (γ :: Rr) (fun v ρ=>∃ D pv,IsDist n t (opens n ins rm) D ∧ v = .tuple #[pv,.bool (decide (0 ≤ D.getD s 0))] ∧
   OwnS 3 1 pv (pathD (nxO outs rm D) D s).length ((ksOf (pathD (nxO outs rm D) D s)).map int) ρ):=by
 have hn:=hO.n1
 obtain ⟨ob,oc,ho,hol⟩:=hG.o
 refine spec_in (cap:=[]) Tryz.func76 rfl rfl Tryz.ntmps76 rfl envZ (fun N β=>?_)
 refine BY ?_;refine Acj ?_;refine Abn ?_;refine CB (distances_spec γ gb n t outs ins room rm Rr hG hO ht hrm) rfl rfl rdZ rfl rfl ?_;rintro _ ρD ⟨bD,D,rfl,rfl,hD⟩
 have hDl:=hD.len
 refine B6 ?_; rintro _ _ ⟨b,rfl,rfl⟩;refine BF ?_; rintro _ _ ⟨rfl,rfl⟩;refine Aal ?_;refine Adi ?_;refine Ad8 ?_
 revert b; intro b8
 by_cases hneg:D.getD s 0 < 0
 ·refine BB ?_
  refine Aah ?_;refine Acj ?_;refine AI (res2 rfl rfl rfl) rsubZ selZ ⟨emp,⟨D,.slice none 0 0,hD,?_,?_⟩,rfl⟩
  ·rw [show decide (0 ≤ D.getD s 0) = false from decide_eq_false (by omega)]
  ·rw [pathD_end (by omega)]
   exact OwnS.nil _ _
 refine Aeh ?_;refine Aa ?_;refine B6 ?_; rintro _ _ ⟨b,rfl,rfl⟩;refine AE ?_;refine Aai ?_;refine B6 ?_; rintro _ _ ⟨b,rfl,rfl⟩;refine BF ?_; rintro _ _ ⟨rfl,rfl⟩;refine AE ?_;refine AO ?_
 rename_i b9
 revert b; intro b10
 refine AT (ρ:=sng b8 _) takeZ ?_;refine AT (ρ:=sng bD _) takeZ ?_
 have c8:rdc (sng b8 (.cells #[.slice (some ⟨bD,0,none⟩) n n] 22 (0,0))) b8 0 = some (.slice (some ⟨bD,0,none⟩) n n):=by rw [rdc_sng]; rfl
 have hub:=hD.lt (opens_lt hO) ht hs
 refine BY ?_
 refine DZ [0,1,2,8,9] (((([]:List Lk),s),((.slice none 0 0,emp),b10)),([],emp)) (X:=((List Lk × Nat) × ((Value × PH) × Nat)) × (List Nat × PH))
  (fun x=>x.2.1.map mk) (fun x=>x.1.1.2 < n ∧ 0 ≤ D.getD x.1.1.2 0 ∧ pathD (nxO outs rm D) D s = x.1.1.1 ++ pathD (nxO outs rm D) D x.1.1.2 ∧ OwnS 3 1 x.1.2.1.1 x.1.1.1.length ((ksOf x.1.1.1).map int) x.1.2.1.2 ∧ x.1.1.1.length + (D.getD x.1.1.2 0).toNat ≤ n ∧ MkIn x.2.2 x.2.1)
  (fun x=>[(10,.pointer (some ⟨x.1.2.2,0,none⟩))]) (fun x=>[sng x.1.2.2 (.cells #[int (x.1.1.2:Int)] 3 (0,0)),sng b9 (.cells #[x.1.2.1.1] 22 (0,0)),x.1.2.1.2,x.2.2]) (fun x=>(D.getD x.1.1.2 0).toNat)
  pickZ rfl ⟨hs,by dsimp only; omega,rfl,OwnS.nil _ _,by dsimp only [List.length_nil]; omega,MkIn.nil⟩ covZ selZ ?_
 rintro ⟨⟨⟨pre,v⟩,⟨⟨pv,ρp⟩,bv⟩⟩,⟨ms,μ⟩⟩ ⟨hv,hd0,hpre,hP,hln,hM⟩
 dsimp only at hv hd0 hpre hP hln hM ⊢
 by_cases hvt:v = t
 ·refine AC ?_
  refine Adi ?_;refine BG ?_;refine Ac3 ?_;refine Abk ?_;refine Aan ?_;refine DX hM takeZ (res2 rfl rfl rfl) rsubZ selZ ⟨ρp,⟨D,pv,hD,?_,?_⟩,rfl⟩
  ·rw [show decide (0 ≤ D.getD s 0) = true from decide_eq_true (by omega)]
   rfl
  ·rw [hpre,pathD_end (by rw [hvt,hD.at0]; omega),List.append_nil]
   exact hP
 ·have hdv:0 < D.getD v 0:=by
   by_cases h0:D.getD v 0 = 0
   ·exact absurd (hD.zero v hv h0) hvt
   ·omega
  obtain ⟨x0,hx0,hx0f,hx0t,hx0k,hx0d,_⟩:=nxO_some hO hD hv hdv
  obtain ⟨lv,hlv,hls⟩:=hol v hv
  refine AC ?_;refine Adi ?_;refine Ab9 ?_;refine Aav ?_;refine AC ?_
  refine A8 (.q 0 (.q 1 (.q 2 (.q 3 (.q 4 (.q 5 (.q 6 (.q 7 (.l 8 .e .nil))))))))) [] rfl (by kernel_rfl) selZ ?_
  refine Aa7 ?_;refine Ab6 ?_;refine AR ?_;refine Ad9 ?_;refine B7 (BJ rfl (open_spec _ _ (SlE.one hls) rfl) rfl rfl rdZ rfl rfl ?_);rintro _ _ ⟨bl,bg,rfl,rfl⟩;simp only [List.cons_append,List.nil_append];refine A5 ?_;refine AT (ρ:=sng bl _) takeZ ?_;refine AT (ρ:=sng bg _) takeZ ?_;refine AO ?_
  refine DB (gf:=126) (cap:=[.pointer (some ⟨bl,0,none⟩),.pointer (some ⟨bg,0,none⟩)]) (ps:=[33]) (X:=(Value × PH) × Nat) rfl Tryz.func126 rfl rfl
   (open_iter γ gb bl bg lv room (outs v) rm Rr hls (by have:=(hO.len v).1; omega) hG.r (fun x hx=>by
    obtain ⟨h1,h2,_⟩:=hO.outF v x hv hx
    exact hrm x.t x h2 ((hO.same x (by omega) h2).1 (by rw [h1]; exact hx)))) ?_
   (fun i x=>x = ((pv,ρp),v) ∧ ∀ y ∈ (openL rm (outs v)).take i,near D v y = false)
   (fun x=>[sng bv (.cells #[int (x.2:Int)] 3 (0,0)),sng b9 (.cells #[x.1.1] 22 (0,0)),x.1.2])
   (fun c x=>c = .exit 2 ∧ x.2 = x0.t ∧ OwnS 3 1 x.1.1 (pre ++ [x0]).length ((ksOf (pre ++ [x0])).map int) x.1.2) ((pv,ρp),v) rfl takesZ ⟨rfl,by simp⟩ ?_ ?_ ?_
  ·intro σ hσ
   simp only [List.cons_append,List.nil_append,List.mem_cons] at hσ ⊢
   rcases hσ with h | h | h | h <;> simp [h]
  ·rintro l r i x' vs hvs ⟨rfl,hno⟩ hps has hbd hst hpe hfr
   dsimp only at hno ⊢
   obtain ⟨st,pe,fnn,tm,prm,asg,bdy,df⟩:=r
   simp only at hps has hbd hst hpe hfr;subst hps has hbd hst hpe;rw [List.getElem?_map] at hvs
   obtain ⟨x,hx,rfl⟩:=Option.map_eq_some_iff.1 hvs
   have hlt:i < (openL rm (outs v)).length:=(List.getElem?_eq_some_iff.1 hx).1
   have hxe:(openL rm (outs v))[i] = x:=(List.getElem?_eq_some_iff.1 hx).2
   have hxm:x ∈ openL rm (outs v):=List.mem_of_getElem? hx
   have hxi:x ∈ outs v ∧ 0 < rm x.k:=by unfold openL at hxm; simpa using hxm
   obtain ⟨hxf,hxt,hxk⟩:=hO.outF v x hv hxi.1
   have htk:(openL rm (outs v)).take (i + 1) = (openL rm (outs v)).take i ++ [x]:=by rw [take_snoc' hlt,hxe]
   have hvub:=hD.lt (opens_lt hO) ht hv
   have hxlo:=hD.low x.t hxt
   have hxub:=hD.lt (opens_lt hO) ht hxt
   refine yield_spec hfr rfl (by intro p hp; simp at hp; omega) putiZ (fun N' β'=>?_)
   unfold encL;refine AA ?_;refine AY ?_; rintro _ _ ⟨b,rfl,rfl⟩;refine AU ?_; rintro _ _ ⟨rfl,rfl⟩;refine Aev ?_;refine C7 takeZ rfl ?_;refine AO ?_;refine AC ?_
   refine A8 (.q 0 (.q 1 (.q 2 (.q 3 (.q 4 (.q 5 (.q 6 (.q 7 (.q 8 (.q 9 (.q 10 .nil))))))))))) [] rfl (by kernel_rfl) selZ ?_
   by_cases hnr:D.getD x.t 0 = D.getD v 0 - 1
   ·have hfx:nxO outs rm D v = some x:=find_of_take hx (by unfold near; rw [hnr]; simp) hno
    obtain rfl:x0 = x:=by rw [hfx] at hx0; exact (Option.some.inj hx0).symm
    refine AR ?_;refine Aar ?_;refine Ad9 ?_;refine AR ?_;refine AR ?_;refine Ad9 ?_;refine FE ?_;refine D9 ?_;refine Ab0 ?_;refine AC ?_
    have hpv:pv.oneCell' = true:=SlE.one (ownInts (e:=3) (l:=ksOf pre) (ρ:=ρp) (by rw [show (ksOf pre).length = pre.length from by simp [ksOf]]; exact hP))
    refine A8 (.q 0 (.q 1 (.q 2 (.p 5 (.p 6 (.l 3 .e (.l 4 .b (.l 7 .b (.l 8 .b .nil))))))))) [sng b (.cells #[int (x0.k:Int),int (x0.f:Int),int (x0.t:Int)] 135 (0,0))] rfl (by kernel_rfl) selZ ?_
    refine AR ?_;refine Aar ?_;refine FX ?_;refine FW ?_;refine BK ?_; rintro _ _ ⟨b,rfl,rfl⟩;refine B7 ?_;refine' a_b rfl _ rfl rfl rfl _ _
    rotate_left
    ·exact B8 (by_:=8) (s:=1) (news:=[int (x0.k:Int)]) rfl rfl rfl rfl rfl rfl rfl hP takeZ (cells_own memZ) rfl (by (repeat (first | exact (fun v hv=>absurd hv List.not_mem_nil) | (refine List.forall_mem_cons.2 ⟨?_,?_⟩; (focus (first | exact rfl | assumption))))); first | done | fail) (by omega) (by simp only [maxLen]; omega) (by omega)
    ·rintro _ _ ⟨_,_,rfl⟩ w hw; exact hw.sel selZ
    rintro q9 _ ⟨ρ3,hQ3,rfl⟩
    have hQ4:OwnS 3 1 q9 (pre ++ [x0]).length ((ksOf (pre ++ [x0])).map int) ρ3:=by
     have:(ksOf (pre ++ [x0])).map int = (ksOf pre).map int ++ [int (x0.k:Int)]:=by simp [ksOf]
     rw [this,List.length_append];exact hQ3
    have hq9:q9.oneCell' = true:=SlE.one (ownInts (e:=3) (l:=ksOf (pre ++ [x0])) (ρ:=ρ3) (by rw [show (ksOf (pre ++ [x0])).length = (pre ++ [x0]).length from by simp [ksOf]]; exact hQ4))
    refine DQ ?_; rintro _ _ ⟨rfl,rfl⟩;refine DQ ?_; rintro _ _ ⟨rfl,rfl⟩;refine A5 ?_
    skip
    exact EQ rfl takeZ rsubZ selZ ⟨((q9,ρ3),x0.t),.inr ⟨rfl,.exit 2,⟨rfl,rfl,hQ4⟩,rfl⟩⟩
   ·refine AR ?_
    refine Aar ?_;refine Ad9 ?_;refine AR ?_;refine AR ?_;refine Ad9 ?_;refine FE ?_;refine DD ?_;refine Ab5 ?_;refine A2 ?_;refine B4 takeZ rsubZ selZ ⟨((pv,ρp),v),.inl ⟨rfl,⟨rfl,?_⟩,rfl⟩⟩;rw [htk]
    intro y hy
    rcases List.mem_append.1 hy with hy | hy
    ·exact hno y hy
    ·rw [List.mem_singleton.1 hy]
     exact decide_eq_false hnr
  ·rintro b2 x' ⟨rfl,hno⟩
   exfalso
   have hm:=List.mem_of_find?_eq_some hx0
   have hp:=List.find?_some hx0
   rw [hno x0 (by simpa [List.length_map] using hm)] at hp
   simp at hp
  ·rintro b2 c ⟨⟨pv2,ρ2⟩,v2⟩ ⟨rfl,hv2,hP2⟩
   dsimp only at hv2 hP2 ⊢
   subst hv2;simp only [List.cons_append,List.nil_append]
   refine DY (R':=sng bD (.cells (ints D) 3 (0,0)) :: sng b8 (.cells #[.slice (some ⟨bD,0,none⟩) n n] 22 (0,0)) :: β :: γ :: Rr) (by intro σ hσ; simp at hσ ⊢; rcases hσ with h | h | h | h | h <;> simp [h]) ?_
   refine C5 (b:=b2) takeZ (μ:=μ) takeZ hM ?_
   intro μ2 hM2
   refine A6 rfl ?_;refine A2 ?_;refine Abk ?_;refine Adt ?_;refine B6 ?_; rintro _ _ ⟨b,rfl,rfl⟩;refine BF ?_; rintro _ _ ⟨rfl,rfl⟩;refine AE ?_
   refine DM (((pre ++ [x0],x0.t),((pv2,ρ2),b)),(b2 :: ms,μ2)) rfl ⟨hx0t,by dsimp only; omega,?_,hP2,?_,hM2⟩ (by dsimp only; omega) covZ selZ
   ·dsimp only
    rw [hpre,pathD_step hx0 hdv hx0d,List.append_assoc]; rfl
   ·dsimp only
    rw [List.length_append,List.length_singleton]; omega
end Go.Proofs.YtjehnjhkcmobcaaGreat
/- The least room on a path; graphs: new, a link added; the room of a residual arc. -/
namespace Go.Proofs.YtjehnjhkcmobcaaGreat
open Go.Eng Go.Flow
set_option maxRecDepth 100000
set_option maxHeartbeats 4000000

theorem least_spec (γ ρ:PH) (gb:Nat) (room pv:Value) (rm:Nat → Int) (Rr:List PH) (p:List Lk) (hG:rdc γ gb 2 = some room) (hp:IntsAt ρ pv (ksOf p)) (hl:p.length ≤ 100000)
  (hrm:∀ x ∈ p,Ans Tryz.prog room [int x.k] Rr (fun v=>v = int (rm x.k))) :
  Ans Tryz.prog (fv 77) [.pointer (some ⟨gb,0,none⟩),pv] (γ :: ρ :: Rr) (fun v=>v = int (leastR rm p)):=by
 obtain ⟨q,c,rfl,hr⟩:=hp.val Eng.encI_len
 have hkl:(ksOf p).length = p.length:=by simp [ksOf]
 refine spec_in (cap:=[]) Tryz.func77 rfl rfl Tryz.ntmps77 rfl envZ (fun N β=>?_)
 refine Aek ?_
 refine BA [0,1,8,9] ((0,1099511627776):Nat × Int) (fun x=>x.1 ≤ p.length ∧ x.2 = leastR rm (p.take x.1)) (fun x=>[(5,int x.2),(10,int x.1)]) (fun _=>[]) (fun x=>p.length - x.1) pickZ ⟨by simp,by simp [leastR]⟩ covZ selZ ?_
 rintro ⟨k,y⟩ ⟨hk,hy⟩;simp only at hk hy
 by_cases hlt:k < p.length
 ·have hx:(ksOf p)[k]? = some (p[k].k:Int):=by simp [ksOf,hlt]
  obtain ⟨b,o,rfl,h0⟩:=hr.int hx
  have hcall:=hrm p[k] (List.getElem_mem hlt)
  refine Ac6 ?_;refine Aaa ?_;refine Acv ?_;refine Aet ?_;refine AB ?_
  focus ((refine A3 hcall rfl rfl (fun τ hτ=>.inl (by simp [hτ])) rfl rfl ?_; rintro v rfl))
  refine FH ?_;refine Adp ?_
  refine AX (k + 1,_) ⟨by simp only; omega,?_⟩ (by simp only; omega) covZ selZ
  simp only;rw [take_snoc' hlt,leastR_snoc,← hy]
 ·refine AC ?_
  refine Adz ?_;refine Abs ?_;refine AI (res1 rfl rfl) rsubZ selZ ⟨rfl,?_⟩
  rw [hy,List.take_of_length_le (by omega)]

abbrev gHead (gb ob ib n:Nat) (room:Value):PH:=sng gb (.cells #[.slice (some ⟨ob,0,none⟩) n n,.slice (some ⟨ib,0,none⟩) n n,room] 133 (0,0))
abbrev gRow (b:Nat) (vs:List Value):PH:=sng b (.cells vs.toArray 129 (0,0))
theorem newGraph_spec (n:Nat) (f:Nat) (cap:List Value) (hn:n ≤ 2000) :
  Eng.Spec Tryz.prog (fv 73) [int n,.func (.func f) #[] cap.toArray] [] [] (fun v H'=>∃ gb ob ib,v = .pointer (some ⟨gb,0,none⟩) ∧
   H' = [gHead gb ob ib n (.func (.func f) #[] cap.toArray),gRow ob (List.replicate n (.slice none 0 0)),gRow ib (List.replicate n (.slice none 0 0))]):=by
 refine spec_in (cap:=[]) Tryz.func73 rfl rfl Tryz.ntmps73 rfl envZ (fun N β=>?_)
 refine Aak ?_;refine AC ?_
 refine A8 (.q 0 (.q 2 (.q 4 (.l2 1 .e (.l 3 .e (.q 5 (.l 6 .e (.q 7 .nil)))) 3 .e (.l 1 .e (.q 5 (.l 6 .e (.q 7 .nil)))))))) [] rfl (by kernel_rfl) selZ ?_
 repeat' (first
  | (refine AQ ?_)
  | (refine BT ?_)
  | (refine C4 ?_)
  | (refine A5 ?_)
  | (refine C8 ?_ ?_)
  | (refine GF ?_; rintro _ _ ⟨b,rfl,rfl⟩)
  | (refine F0 ?_; rintro _ _ ⟨b,rfl,rfl⟩)
  | (refine GE ?_; rintro _ _ ⟨b,rfl,rfl⟩)
  | fail)
 repeat' (first
  | fail)
 all_goals exact AI (res1 rfl rfl) rsubZ selZ ⟨_,_,_,rfl,rfl⟩
theorem OwnS.one {e:TypeId} {size:Nat} {v:Value} {n:Nat} {xs:List Value} {ρ:PH} (h:OwnS e size v n xs ρ):v.oneCell' = true:=by
 obtain ⟨b,c,rfl⟩:=h.at.cap
 rfl
set_option maxHeartbeats 4000000 in
theorem add_spec (gb ob ib n k f t:Nat) (room:Value) (ov iv:List Value) (lo li:List Lk) (ρo ρi:PH) (hov:ov.length = n) (hiv:iv.length = n) (hf:f < n) (ht:t < n)
  (ho:∃ u,ov[f]? = some u ∧ OwnS 135 3 u lo.length (lo.flatMap encL) ρo) (hi:∃ u,iv[t]? = some u ∧ OwnS 135 3 u li.length (li.flatMap encL) ρi) (hlo:lo.length ≤ 40000) (hli:li.length ≤ 40000) :
  Eng.Spec Tryz.prog (fv 75) [.pointer (some ⟨gb,0,none⟩),int k,int f,int t] [] [gHead gb ob ib n room,gRow ob ov,gRow ib iv,ρo,ρi] (fun v H'=>v = .tuple #[] ∧ ∃ q1 q2 ρ1 ρ2,
   OwnS 135 3 q1 (lo ++ [(⟨k,f,t⟩:Lk)]).length ((lo ++ [(⟨k,f,t⟩:Lk)]).flatMap encL) ρ1 ∧ OwnS 135 3 q2 (li ++ [(⟨k,f,t⟩:Lk)]).length ((li ++ [(⟨k,f,t⟩:Lk)]).flatMap encL) ρ2 ∧
   H' = [gHead gb ob ib n room,gRow ob (ov.set f q1),gRow ib (iv.set t q2),ρ1,ρ2]):=by
 obtain ⟨uo,huo,hO⟩:=ho
 obtain ⟨ui,hui,hI⟩:=hi
 have co:rdc (gRow ob ov) ob f = some uo:=by rw [rdc_sng]; simpa using huo
 have ci:rdc (gRow ib iv) ib t = some ui:=by rw [rdc_sng]; simpa using hui
 refine spec_in (cap:=[]) Tryz.func75 rfl rfl Tryz.ntmps75 rfl envZ (fun N β=>?_)
 refine Aad ?_;refine Aa1 ?_;refine BR ?_;refine AY ?_; rintro _ _ ⟨b,rfl,rfl⟩;refine AU ?_; rintro _ _ ⟨rfl,rfl⟩;refine AE ?_
 refine A8 (.p 0 (.p 1 (.p 2 (.p 3 (.p 4 (.p 5 (.p 6 (.p 7 (.p 8 (.p 9 (.q 10 (.q 11 (.q 12 (.q 13 (.q 14 (.q 15 (.q 16 (.q 17 (.p 20 (.p 21 (.p 22 (.p 23 (.p 24 (.p 25 (.p 26 (.p 27 (.l2 18 .e (.l2 19 .b (.l 28 .e (.l 29 .b (.q 30 (.l 31 .b (.q 32 (.l 33 .b .nil)))))) 28 .e (.l 19 .b (.l 29 .b (.q 30 (.l 31 .b (.q 32 (.l 33 .b .nil))))))) 28 .e (.l 18 .e (.l 19 .b (.l 29 .b (.q 30 (.l 31 .b (.q 32 (.l 33 .b .nil)))))))))))))))))))))))))))))))))) [gHead gb ob ib n room,gRow ib iv,sng b (.cells #[int (k:Int),int (f:Int),int (t:Int)] 135 (0,0))] rfl (by kernel_rfl) selZ ?_
 repeat' (first
  | (refine AQ ?_)
  | (refine AR ?_)
  | (refine AW ?_)
  | (refine CP ?_)
  | (refine A4 ?_)
  | (refine BQ ?_)
  | (refine FV ?_)
  | (refine FW ?_)
  | (refine FX ?_)
  | (refine G1 ?_)
  | (refine E5 ?_)
  | (refine GA ?_)
  | (refine C8 ?_ ?_)
  | (refine BK ?_; rintro _ _ ⟨b,rfl,rfl⟩)
  | (refine BP ?_; rintro _ _ ⟨b,rfl,rfl⟩)
  | fail)
 all_goals (try refine B7 ?_)
 all_goals (refine' a_b rfl _ rfl rfl rfl _ _; rotate_left; (focus (exact B8 (by_:=24) (s:=3) (news:=[int (k:Int),int (f:Int),int (t:Int)]) rfl rfl rfl rfl rfl rfl rfl hO takeZ (cells_own memZ) rfl (by (repeat (first | exact (fun v hv=>absurd hv List.not_mem_nil) | (refine List.forall_mem_cons.2 ⟨?_,?_⟩; (focus (first | exact rfl | assumption))))); first | done | fail) (by omega) (by simp only [maxLen]; omega) (by omega))); (focus (rintro _ _ ⟨_,_,rfl⟩ w hw; exact hw.sel selZ)); rintro q1 _ ⟨ρ1,hQ1,rfl⟩)
 repeat' (first
  | (refine BK ?_; rintro _ _ ⟨b,rfl,rfl⟩)
  | fail)
 all_goals (refine B7 ?_; refine' a_b rfl _ rfl rfl rfl _ _; rotate_left; (focus (exact B8 (by_:=24) (s:=3) (news:=[int (k:Int),int (f:Int),int (t:Int)]) rfl rfl rfl rfl rfl rfl rfl hI takeZ (cells_own memZ) rfl (by (repeat (first | exact (fun v hv=>absurd hv List.not_mem_nil) | (refine List.forall_mem_cons.2 ⟨?_,?_⟩; (focus (first | exact rfl | assumption))))); first | done | fail) (by omega) (by simp only [maxLen]; omega) (by omega))); (focus (rintro _ _ ⟨_,_,rfl⟩ w hw; exact hw.sel selZ)); rintro q2 _ ⟨ρ2,hQ2,rfl⟩)
 all_goals have h1:q1.oneCell' = true:=OwnS.one hQ1
 all_goals have h2:q2.oneCell' = true:=OwnS.one hQ2
 repeat' (first
  | (refine CP ?_)
  | (refine GG ?_; rintro _ _ ⟨rfl,rfl⟩)
  | fail)
 all_goals (refine B7 ?_; refine' a_full rfl _ rfl (.inr ⟨rfl,rfl⟩) (by kernel_rfl) (Hf':=[]) _ _; rotate_left; (focus (apply DL; exact rfl; exact rfl; exact h2; exact rfl; exact takeZ; (simp; omega))); (focus (rintro _ _ ⟨_,rfl⟩ w hw; exact hw.sel selZ)); rintro _ _ ⟨rfl,rfl⟩)
 repeat' (first
  | (refine A5 ?_)
  | fail)
 repeat' (first
  | fail)
 all_goals have e1:sng ob (.cells (ov.toArray.setIfInBounds f q1) 129 (0,0)) = gRow ob (ov.set f q1):=by simp [gRow]
 all_goals have e2:sng ib (.cells (iv.toArray.setIfInBounds t q2) 129 (0,0)) = gRow ib (iv.set t q2):=by simp [gRow]
 all_goals rw [e1,e2]
 all_goals refine CO (H':=[gHead gb ob ib n room,gRow ob (ov.set f q1),gRow ib (iv.set t q2),ρ1,ρ2]) (res0 rfl) rsubZ selZ ⟨rfl,q1,q2,ρ1,ρ2,?_,?_,rfl⟩
 all_goals first
  | (rw [List.flatMap_append,List.length_append]; exact hQ1)
  | (rw [List.flatMap_append,List.length_append]; exact hQ2)

end Go.Proofs.YtjehnjhkcmobcaaGreat
/- The rooms of residual arcs; residual graphs. -/
namespace Go.Proofs.YtjehnjhkcmobcaaGreat
open Go.Eng Go.Flow
set_option maxRecDepth 100000
set_option maxHeartbeats 4000000

theorem residual1_spec (ρ:PH) (v:Value) (b1 b2 bf m c k:Nat) (T1 T2 T3:TypeId) (l:List Arc) (fl:List Int) (hv:ArcsAt ρ v l) (hfl:fl.length = l.length) (hm:m = l.length) (hk:k < 2 * l.length) (hl:l.length ≤ 20000)
  (hc:inCap l fl = true) (hok:∀ a ∈ l,0 ≤ a.c ∧ a.c ≤ 1099511627776) :
  Ans Tryz.prog (.func (.func 174) #[] #[.pointer (some ⟨b1,0,none⟩),.pointer (some ⟨b2,0,none⟩)]) [int k] [ρ,sng b1 (.cells #[v] T1 (0,0)),sng b2 (.cells #[.slice (some ⟨bf,0,none⟩) m c] T2 (0,0)),sng bf (.cells (ints fl) T3 (0,0))]
   (fun r=>r = int (rmR l fl k)):=by
 obtain ⟨q,c',rfl,hr⟩:=hv.val encA_len
 subst hm
 have c1:rdc (sng b1 (.cells #[.slice q l.length c'] T1 (0,0))) b1 0 = some (.slice q l.length c'):=by rw [rdc_sng]; rfl
 have c2:rdc (sng b2 (.cells #[.slice (some ⟨bf,0,none⟩) l.length c] T2 (0,0))) b2 0 = some (.slice (some ⟨bf,0,none⟩) l.length c):=by rw [rdc_sng]; rfl
 have hlt:k / 2 < l.length:=by omega
 have hx:=List.getElem?_eq_getElem hlt
 obtain ⟨b,o,rfl,hA,h0,h1,h2⟩:=arcRow hr hx
 have hfx:fl.getD (k / 2) 0 = fl[k / 2]:=by simp [List.getD_eq_getElem?_getD,show k / 2 < fl.length by omega]
 have hfy:=inCap_get l fl hc (k / 2) l[k / 2] fl[k / 2] hx (List.getElem?_eq_getElem (by omega))
 have hcy:=hok l[k / 2] (List.getElem_mem hlt)
 have hdef:l.getD (k / 2) default = l[k / 2]:=by simp [List.getD_eq_getElem?_getD,hlt]
 have e2:((k:Int) / 2) = ((k / 2:Nat):Int):=by omega
 have e3:((k:Int) % 2) = ((k % 2:Nat):Int):=by omega
 refine spec_in (cap:=[.pointer (some ⟨b1,0,none⟩),.pointer (some ⟨b2,0,none⟩)]) Tryz.func174 rfl rfl Tryz.ntmps174 rfl envZ (fun N β=>?_)
 by_cases hp:k % 2 = 0
 ·refine AC ?_
  refine AA ?_;refine Adx ?_;refine FG ?_;refine Aea ?_;refine AC ?_
  refine A8 (.q 0 (.q 1 (.q 2 (.q 3 (.q 4 (.q 5 (.q 6 (.q 7 (.q 8 (.q 9 (.q 10 (.q 11 (.q 12 .nil))))))))))))) [] rfl (by kernel_rfl) selZ ?_
  refine AR ?_;refine AQ ?_;refine FZ ?_;refine BI ?_;refine Ab8 ?_;refine AR ?_;refine AQ ?_;refine FZ ?_;refine Ad9 ?_;refine FE ?_;refine Adm ?_
  skip
  refine AI (res1 rfl rfl) rsubZ selZ ⟨rfl,?_⟩;unfold rmR;rw [if_pos hp,hdef]
 ·refine AC ?_
  refine AA ?_;refine Adx ?_;refine FG ?_;refine CI ?_;refine Aaj ?_;refine Adi ?_;refine E6 ?_;refine Ad8 ?_;refine Aaa ?_;refine AI (res1 rfl rfl) rsubZ selZ ⟨rfl,?_⟩;unfold rmR;rw [if_neg hp]
end Go.Proofs.YtjehnjhkcmobcaaGreat
/- A graph that is built link by link; the residual graph. -/
namespace Go.Proofs.YtjehnjhkcmobcaaGreat
open Go.Eng Go.Flow
set_option maxRecDepth 100000
set_option maxHeartbeats 4000000

def RowOK (n:Nat) (vs:List Value) (cs:List PH) (lf:Nat → List Lk):Prop:=
 vs.length = n ∧ cs.length = n ∧ ∀ v,v < n → ∃ u ρ,vs[v]? = some u ∧ cs[v]? = some ρ ∧ OwnS 135 3 u (lf v).length ((lf v).flatMap encL) ρ
theorem RowOK.set {n:Nat} {vs:List Value} {cs:List PH} {lf lf':Nat → List Lk} (h:RowOK n vs cs lf) {f:Nat} {u:Value} {ρ:PH} (hu:OwnS 135 3 u (lf' f).length ((lf' f).flatMap encL) ρ) (he:∀ v,v ≠ f → lf' v = lf v) :
  RowOK n (vs.set f u) (cs.set f ρ) lf':=by
 obtain ⟨h1,h2,h3⟩:=h
 refine ⟨by simp [h1],by simp [h2],fun v hv=>?_⟩
 by_cases e:v = f
 ·subst e
  exact ⟨u,ρ,by simp [h1,hv],by simp [h2,hv],hu⟩
 ·obtain ⟨u',ρ',g1,g2,g3⟩:=h3 v hv
  rw [← he v e] at g3
  exact ⟨u',ρ',by rw [List.getElem?_set_ne (Ne.symm e)]; exact g1,by rw [List.getElem?_set_ne (Ne.symm e)]; exact g2,g3⟩
def GBl (gb ob ib n:Nat) (room:Value) (ls:List Lk) (H:List PH):Prop:=
 ∃ ov iv oc ic,RowOK n ov oc (outsOf ls) ∧ RowOK n iv ic (insOf ls) ∧ H = gHead gb ob ib n room :: gRow ob ov :: gRow ib iv :: (oc ++ ic)
theorem add_bl {gb ob ib n:Nat} {room:Value} {ls:List Lk} {H:List PH} (h:GBl gb ob ib n room ls H) (k f t:Nat) (hf:f < n) (ht:t < n) (hl:ls.length ≤ 40000) :
  Eng.Spec Tryz.prog (fv 75) [.pointer (some ⟨gb,0,none⟩),int k,int f,int t] [] H (fun v H'=>v = .tuple #[] ∧ GBl gb ob ib n room (ls ++ [(⟨k,f,t⟩:Lk)]) H'):=by
 obtain ⟨ov,iv,oc,ic,ho,hi,rfl⟩:=h
 obtain ⟨uo,ρo,a1,a2,a3⟩:=ho.2.2 f hf
 obtain ⟨ui,ρi,c1,c2,c3⟩:=hi.2.2 t ht
 have hs:=add_spec gb ob ib n k f t room ov iv (outsOf ls f) (insOf ls t) ρo ρi ho.1 hi.1 hf ht ⟨uo,a1,a3⟩ ⟨ui,c1,c3⟩ (filter_le _ _ hl) (filter_le _ _ hl)
 refine Spec.perm ?_ (hs.frame (oc.eraseIdx f ++ ic.eraseIdx t)) ?_
 ·simp only [List.cons_append,List.nil_append]
  refine ((List.Perm.trans ?_ ((erase_get_perm a2).append (erase_get_perm c2)).symm).cons _).cons _ |>.cons _;simp only [List.cons_append];exact (List.perm_middle.symm).cons _
 ·rintro v H1 ⟨H2,rfl,rfl,q1,q2,ρ1,ρ2,hq1,hq2,rfl⟩
  refine ⟨gHead gb ob ib n room :: gRow ob (ov.set f q1) :: gRow ib (iv.set t q2) :: (oc.set f ρ1 ++ ic.set t ρ2),?_,rfl,ov.set f q1,iv.set t q2,oc.set f ρ1,ic.set t ρ2,?_,?_,rfl⟩
  ·simp only [List.cons_append,List.nil_append]
   refine ((List.Perm.trans ?_ ((erase_set_perm ρ1 (by rw [ho.2.1]; exact hf)).append (erase_set_perm ρ2 (by rw [hi.2.1]; exact ht))).symm).cons _).cons _ |>.cons _
   simp only [List.cons_append];exact (List.perm_middle.symm).cons _
  ·refine ho.set (lf':=outsOf (ls ++ [(⟨k,f,t⟩:Lk)])) ?_ (fun v hv=>by rw [outsOf_snoc,if_neg (Ne.symm hv),List.append_nil])
   rw [outsOf_snoc,if_pos rfl]; exact hq1
  ·refine hi.set (lf':=insOf (ls ++ [(⟨k,f,t⟩:Lk)])) ?_ (fun v hv=>by rw [insOf_snoc,if_neg (Ne.symm hv),List.append_nil])
   rw [insOf_snoc,if_pos rfl]; exact hq2
theorem GBl.at {gb ob ib n:Nat} {room:Value} {ls:List Lk} {H:List PH} (h:GBl gb ob ib n room ls H) {γ:PH} (hs:∀ ρ ∈ H,PH.sub ρ γ):GAt γ gb n (outsOf ls) (insOf ls) room:=by
 obtain ⟨ov,iv,oc,ic,ho,hi,rfl⟩:=h
 have hh:=hs (gHead gb ob ib n room) (by simp)
 have hr1:=hs (gRow ob ov) (by simp)
 have hr2:=hs (gRow ib iv) (by simp)
 refine ⟨⟨ob,n,hh.rdc (by rw [rdc_sng]; rfl),fun v hv=>?_⟩,⟨ib,n,hh.rdc (by rw [rdc_sng]; rfl),fun v hv=>?_⟩,hh.rdc (by rw [rdc_sng]; rfl)⟩
 ·obtain ⟨u,ρ,g1,g2,g3⟩:=ho.2.2 v hv
  refine ⟨u,hr1.rdc (by rw [rdc_sng]; simpa using g1),(hs ρ ?_).slE g3.at⟩
  have:=List.mem_of_getElem? g2
  simp [this]
 ·obtain ⟨u,ρ,g1,g2,g3⟩:=hi.2.2 v hv
  refine ⟨u,hr2.rdc (by rw [rdc_sng]; simpa using g1),(hs ρ ?_).slE g3.at⟩
  have:=List.mem_of_getElem? g2
  simp [this]
theorem GOk_of {n:Nat} {ls:List Lk} (hn:n ≤ 2000) (hl:ls.length ≤ 40000) (hx:∀ x ∈ ls,x.f < n ∧ x.t < n ∧ x.k ≤ 40000):GOk n (outsOf ls) (insOf ls) where
 n1:=hn
 len:=fun _=>⟨filter_le _ _ hl,filter_le _ _ hl⟩
 inT:=fun v x _ hm=>by
  unfold insOf at hm; rw [List.mem_filter] at hm
  have:=hx x hm.1
  exact ⟨by simpa using hm.2,this.1,this.2.2⟩
 outF:=fun v x _ hm=>by
  unfold outsOf at hm; rw [List.mem_filter] at hm
  have:=hx x hm.1
  exact ⟨by simpa using hm.2,this.2.1,this.2.2⟩
 same:=fun x _ _=>by unfold insOf outsOf; simp
theorem GBl_new (gb ob ib n:Nat) (room:Value):GBl gb ob ib n room [] (gHead gb ob ib n room :: gRow ob (List.replicate n (.slice none 0 0)) :: gRow ib (List.replicate n (.slice none 0 0)) :: (List.replicate n emp ++ List.replicate n emp)):=by
 have h:∀ lf:Nat → List Lk,(∀ v,lf v = []) → RowOK n (List.replicate n (.slice none 0 0)) (List.replicate n emp) lf:=fun lf hl=>by
  refine ⟨by simp,by simp,fun v hv=>⟨.slice none 0 0,emp,by simp [hv],by simp [hv],?_⟩⟩
  rw [hl v];exact OwnS.nil _ _
 exact ⟨_,_,_,_,h _ (fun _=>rfl),h _ (fun _=>rfl),rfl⟩

abbrev roomR (b1 b2:Nat):Value:=.func (.func 174) #[] #[.pointer (some ⟨b1,0,none⟩),.pointer (some ⟨b2,0,none⟩)]
set_option maxHeartbeats 2000000 in
theorem residual_spec (ρ:PH) (v fs:Value) (n:Nat) (l:List Arc) (hv:ArcsAt ρ v l) (hfs:fs.oneCell' = true) (hn:n ≤ 2000) (hl:l.length ≤ 20000) (hok:∀ a ∈ l,okArc n a = true) :
  Eng.Spec Tryz.prog (fv 125) [int n,v,fs] [ρ] [] (fun r H'=>∃ gb b1 b2 γ,r = .pointer (some ⟨gb,0,none⟩) ∧ GAt γ gb n (outsOf (rlinks l)) (insOf (rlinks l)) (roomR b1 b2) ∧
   H' = [γ,sng b1 (.cells #[v] 73 (0,0)),sng b2 (.cells #[fs] 22 (0,0))]):=by
 have hv1:=SlE.one hv
 obtain ⟨q,c,rfl,hr⟩:=hv.val encA_len
 refine spec_in (cap:=[]) Tryz.func125 rfl rfl Tryz.ntmps125 rfl envZ (fun N β=>?_)
 refine Aa ?_;refine BH (DC rfl rfl) rfl rfl rfl ?_;rintro _ _ ⟨b1,rfl,rfl⟩;refine BH (DC rfl hfs) rfl rfl rfl ?_;rintro _ _ ⟨b2,rfl,rfl⟩;refine Aa8 ?_;refine CA ?_;refine BC (newGraph_spec n 174 [.pointer (some ⟨b1,0,none⟩),.pointer (some ⟨b2,0,none⟩)] hn) rfl rfl takesZ rdZ rfl rfl ?_;rintro _ _ ⟨gb,ob,ib,rfl,rfl⟩;simp only [List.cons_append,List.nil_append]
 have hG0:=GBl_new gb ob ib n (roomR b1 b2)
 refine ES (n + n) ?_;simp only [List.cons_append,List.nil_append];refine Abi ?_;refine Abk ?_;refine Ada ?_
 refine BA [0,4,5,7,13,14] (X:=Nat × List PH) (0,_) (fun x=>x.1 ≤ l.length ∧ GBl gb ob ib n (roomR b1 b2) (rlinks (l.take x.1)) x.2) (fun x=>[(15,int x.1)])
  (fun x=>sng b1 (.cells #[.slice q l.length c] 73 (0,0)) :: sng b2 (.cells #[fs] 22 (0,0)) :: x.2) (fun x=>l.length - x.1) pickZ ⟨by simp,hG0⟩ covZ ?_ ?_
 ·refine Sel.cons takeZ (Sel.cons takeZ (Sel.cons takeZ (Sel.cons takeZ (Sel.cons takeZ ?_))))
  rw [List.replicate_append_replicate];exact Sel.refl
 rintro ⟨k,Hg⟩ ⟨hk,hG⟩
 dsimp only at hk hG ⊢
 by_cases hlt:k < l.length
 ·have hx:=List.getElem?_eq_getElem hlt
  obtain ⟨b',o,rfl,hA,h0,h1,h2⟩:=arcRow hr hx
  obtain ⟨g1,g2,g3,g4,g5,g6,g7⟩:=okArc_iff.1 (hok l[k] (List.getElem_mem hlt))
  obtain ⟨f,hf⟩:=Int.eq_ofNat_of_zero_le g1
  obtain ⟨t,ht⟩:=Int.eq_ofNat_of_zero_le g3
  have hlr:=rlinks_len (l.take k)
  have hlk:(l.take k).length = k:=by simp; omega
  have hsn:=rlinks_snoc (l.take k) l[k]
  rw [← take_snoc' hlt,hlk,hf,ht] at hsn;simp only [Int.toNat_natCast] at hsn;rw [hf,ht] at hA
  have a1:=add_bl hG (2 * k) f t (by omega) (by omega) (by omega)
  refine Ado ?_;refine AY ?_; rintro _ _ ⟨b,rfl,rfl⟩;refine AD ?_;refine AU ?_; rintro _ _ ⟨rfl,rfl⟩;refine AE ?_;refine Abn ?_;refine FF ?_;refine Aco ?_;refine BC a1 rfl rfl (Takes.skips [_,_,_] Takes.all) rdZ rfl rfl ?_;rintro _ H1 ⟨rfl,hG1⟩
  refine CS (H':=sng b (.cells #[int (f:Int),int (t:Int),int l[k].c] 157 (0,0)) :: sng b1 (.cells #[.slice (some ⟨b',o,none⟩) l.length c] 73 (0,0)) :: sng b2 (.cells #[fs] 22 (0,0)) :: H1) (by simpa using List.perm_append_comm (l₁:=H1) (l₂:=[_,_,_])) ?_
  have a2:=add_bl hG1 (2 * k + 1) t f (by omega) (by omega) (by rw [List.length_append]; simp only [List.length_singleton]; omega)
  refine AE ?_;refine Acv ?_;refine FF ?_;refine CG ?_;refine Aco ?_;refine BC a2 rfl rfl (Takes.skips [_,_,_] Takes.all) rdZ rfl rfl ?_;rintro _ H2 ⟨rfl,hG2⟩
  refine CS (H':=sng b (.cells #[int (f:Int),int (t:Int),int l[k].c] 157 (0,0)) :: sng b1 (.cells #[.slice (some ⟨b',o,none⟩) l.length c] 73 (0,0)) :: sng b2 (.cells #[fs] 22 (0,0)) :: H2) (by simpa using List.perm_append_comm (l₁:=H2) (l₂:=[_,_,_])) ?_
  refine Adj ?_
  refine AX (k + 1,H2) ⟨by dsimp only; omega,?_⟩ (by dsimp only; omega) covZ (Sel.cons takeZ (Sel.cons takeZ (Sel.skip Sel.refl)))
  dsimp only
  rw [hsn]
  simpa using hG2
 ·rw [List.take_of_length_le (by omega)] at hG
  refine Ael ?_
  refine CS (H':=Hg ++ [sng b1 (.cells #[.slice q l.length c] 73 (0,0)),sng b2 (.cells #[fs] 22 (0,0))]) (by simpa using List.perm_append_comm (l₂:=Hg) (l₁:=[_,_])) ?_
  refine DU (fun γ hγ=>?_)
  exact AI (res1 rfl rfl) rsubZ selZ ⟨gb,b1,b2,γ,rfl,hG.at hγ,rfl⟩
end Go.Proofs.YtjehnjhkcmobcaaGreat
/- The maximum flow: paths as long as there are any. -/
namespace Go.Proofs.YtjehnjhkcmobcaaGreat
open Go.Eng Go.Flow
set_option maxRecDepth 100000
set_option maxHeartbeats 4000000

theorem opens_opn {n:Nat} {ls:List Lk} (hls:∀ x ∈ ls,x.f < n ∧ x.t < n) (rm:Nat → Int):opens n (insOf ls) rm = opn ls rm:=opens_eq hls rm
theorem nxO_nxt (ls:List Lk) (rm:Nat → Int) (D:List Int):nxO (outsOf ls) rm D = nxt ls rm D:=nxt_eq ls rm D
def MaxLeft (n:Nat) (l:List Arc) (s t:Nat) (v fs gv:Value) (F:List Int) (H:List PH):Prop:=
 ∃ bf gb b1 b2 γ,fs = .slice (some ⟨bf,0,none⟩) l.length l.length ∧ gv = .pointer (some ⟨gb,0,none⟩) ∧ GAt γ gb n (outsOf (rlinks l)) (insOf (rlinks l)) (roomR b1 b2) ∧ RunR n l s t (List.replicate l.length 0) F ∧
  H = [sng bf (.cells (ints F) 3 (0,0)),γ,sng b1 (.cells #[v] 73 (0,0)),sng b2 (.cells #[.slice (some ⟨bf,0,none⟩) l.length l.length] 22 (0,0))]
set_option maxHeartbeats 4000000 in
theorem maximum_spec (ρ:PH) (v:Value) (n:Nat) (l:List Arc) (s t:Nat) (hv:ArcsAt ρ v l) (hn:n ≤ 2000) (hl:l.length ≤ 20000) (hok:∀ a ∈ l,okArc n a = true) (hs:s < n) (ht:t < n) (hst:s ≠ t) :
  Eng.Spec Tryz.prog (fv 64) [int n,v,int s,int t] [ρ] [] (fun r H'=>∃ fs gv F,r = .tuple #[fs,gv] ∧ MaxLeft n l s t v fs gv F H'):=by
 have hv1:=SlE.one hv
 have hrl:=rl_lt hok
 have hGok:GOk n (outsOf (rlinks l)) (insOf (rlinks l)):=GOk_of hn (by rw [rlinks_len]; omega) (fun x hx=>by have:=rlinks_mem hok hx; omega)
 have hcap:∀ a ∈ l,0 ≤ a.c ∧ a.c ≤ 1099511627776:=fun a ha=>by have:=okArc_iff.1 (hok a ha); omega
 obtain ⟨q,c,rfl,hr⟩:=hv.val encA_len
 refine spec_in (cap:=[]) Tryz.func64 rfl rfl Tryz.ntmps64 rfl envZ (fun N β=>?_)
 refine Acj ?_;refine Aad ?_;refine AV ?_;refine D3 ?_; rintro _ _ ⟨b,rfl,rfl⟩;refine Aa8 ?_;refine Aa1 ?_
 revert b; intro bf
 refine BC (residual_spec ρ _ (.slice (some ⟨bf,0,none⟩) l.length l.length) n l hv rfl hn hl hok) rfl rfl takesZ rdZ rfl rfl ?_;rintro _ _ ⟨gb,b1,b2,γ,rfl,hG,rfl⟩;simp only [List.cons_append,List.nil_append];refine Aaa ?_;refine AO ?_
 refine BA [0,1,2,3,10,11] (List.replicate l.length (0:Int)) (fun fl=>Flw n l s t fl ∧ ∀ F,RunR n l s t fl F → RunR n l s t (List.replicate l.length 0) F) (fun _=>[])
  (fun fl=>[sng bf (.cells (ints fl) 3 (0,0)),γ,sng b1 (.cells #[.slice q l.length c] 73 (0,0)),sng b2 (.cells #[.slice (some ⟨bf,0,none⟩) l.length l.length] 22 (0,0))])
  (fun fl=>(1099511627776 * (2 * (l.length:Int)) - fval s l fl).toNat) pickZ ⟨flw_zeros hok,fun _ h=>h⟩ covZ selZ ?_
 rintro fl ⟨hF,hrun⟩
 have hrm:∀ v x,v < n → x ∈ insOf (rlinks l) v → Ans Tryz.prog (roomR b1 b2) [int x.k] [ρ,sng b1 (.cells #[.slice q l.length c] 73 (0,0)),sng b2 (.cells #[.slice (some ⟨bf,0,none⟩) l.length l.length] 22 (0,0)),sng bf (.cells (ints fl) 3 (0,0))] (fun r=>r = int (rmR l fl x.k)):=fun v x _ hx=>by
  have hm:x ∈ rlinks l:=by unfold insOf at hx; exact (List.mem_filter.1 hx).1
  exact residual1_spec ρ _ b1 b2 bf l.length l.length x.k _ _ _ l fl hv hF.len.symm rfl (rlinks_mem hok hm).2.2 hl hF.cap hcap
 refine AO ?_;refine Aad ?_;refine Aa1 ?_;refine CB (path_spec γ gb n s t (outsOf (rlinks l)) (insOf (rlinks l)) (roomR b1 b2) (rmR l fl) _ hG hGok hs ht hrm) rfl rfl rdZ rfl rfl ?_;rintro _ ρp ⟨D,pv,hD,rfl,hP⟩;rw [opens_opn hrl] at hD;rw [nxO_nxt] at hP
 by_cases h0:0 ≤ D.getD s 0
 rotate_left
 ·rw [decide_eq_false h0]
  refine Acc ?_;refine Ad1 ?_;refine Abn ?_;refine Aan ?_
  exact AI (res2 rfl rfl rfl) rsubZ selZ ⟨_,_,fl,rfl,bf,gb,b1,b2,γ,rfl,rfl,hG,hrun fl (.done hD (by omega)),rfl⟩
 rw [decide_eq_true h0]
 obtain ⟨hN1,hN2,hN3⟩:=rNext_ok hok hs hst hF hD h0
 obtain ⟨k0,hk0⟩:=Int.eq_ofNat_of_zero_le h0
 have hDn:=hD.lt (fun x hx=>hrl x hx.1) ht hs
 have hPl:(rP l fl D s).length = k0:=path_len hrl hD k0 s hs hk0
 have hPm:∀ x ∈ rP l fl D s,x ∈ rlinks l:=fun x hx=>((path_chn hrl hD k0 s hs hk0).all x hx).1.1
 have hroom:leastR (rmR l fl) (rP l fl D s) ≤ 1099511627776:=(leastR_le _ _ _).1
 have hIn:IntsAt ρp pv (ksOf (rP l fl D s)):=ownInts (e:=3) (by rw [show (ksOf (rP l fl D s)).length = (rP l fl D s).length from by simp [ksOf]]; exact hP)
 have hlst:=least_spec γ ρp gb (roomR b1 b2) pv (rmR l fl) _ (rP l fl D s) hG.r hIn (by omega) (fun x hx=>hrm x.t x (hrl x (hPm x hx)).2 (by unfold insOf; rw [List.mem_filter]; exact ⟨hPm x hx,by simp⟩))
 obtain ⟨q2,c2,rfl,hr2⟩:=hIn.val Eng.encI_len
 have hkl:(ksOf (rP l fl D s)).length = (rP l fl D s).length:=by simp [ksOf]
 have hmu:=fval_bd s l (rNext l fl D s) (inCap_small l _ hN1.len hN1.cap hok)
 rw [← hN1.len] at hmu;refine Acc ?_;refine Acb ?_;refine Abn ?_;refine A3 hlst rfl rfl rdZ rfl rfl ?_;rintro _ rfl;refine Aa8 ?_;refine Ada ?_
 refine BA [0,1,2,3,10,11,14,38,39] (0:Nat) (fun i=>i ≤ (rP l fl D s).length) (fun i=>[(40,int i)])
  (fun i=>[sng bf (.cells (ints (augAll (leastR (rmR l fl) (rP l fl D s)) fl ((rP l fl D s).take i))) 3 (0,0)),γ,sng b1 (.cells #[.slice q l.length c] 73 (0,0)),sng b2 (.cells #[.slice (some ⟨bf,0,none⟩) l.length l.length] 22 (0,0)),ρp])
  (fun i=>(rP l fl D s).length - i) pickZ (by omega) covZ selZ ?_
 intro i hi
 by_cases hlt:i < (rP l fl D s).length
 ·have hx:(ksOf (rP l fl D s))[i]? = some ((rP l fl D s)[i].k:Int):=by simp [ksOf,hlt]
  obtain ⟨b,o,rfl,g0⟩:=hr2.int hx
  have hxm:=hPm _ (List.getElem_mem hlt)
  have hxk:=(rlinks_mem hok hxm).2.2
  have hal:(augAll (leastR (rmR l fl) (rP l fl D s)) fl ((rP l fl D s).take i)).length = l.length:=by rw [augAll_len]; exact hF.len.symm
  have hic:=inCap_get l _ (rTake_cap hok hs hF hD h0 i) ((rP l fl D s)[i].k / 2) (l[(rP l fl D s)[i].k / 2]'(by omega)) ((augAll (leastR (rmR l fl) (rP l fl D s)) fl ((rP l fl D s).take i)).getD ((rP l fl D s)[i].k / 2) 0) (List.getElem?_eq_getElem (by omega)) (by rw [List.getD_eq_getElem?_getD,List.getElem?_eq_getElem (by omega)]; rfl)
  have hcc:=hcap _ (List.getElem_mem (show (rP l fl D s)[i].k / 2 < l.length by omega))
  have hsn:=augAll_snoc (leastR (rmR l fl) (rP l fl D s)) fl ((rP l fl D s).take i) (rP l fl D s)[i]
  rw [← take_snoc' hlt] at hsn;unfold augR at hsn
  by_cases hp:(rP l fl D s)[i].k % 2 = 0
  ·rw [if_pos hp] at hsn
   refine Aew ?_;refine FG ?_;refine Aea ?_;refine Acv ?_;refine E6 ?_;refine B9 ?_;refine Ach ?_;refine CG ?_;refine B9 ?_;refine DF ?_; rintro _ _ ⟨rfl,rfl⟩;refine Adj ?_
   refine AX (i + 1) (by omega) (by omega) covZ ?_
   rw [hsn];exact selZ
  ·rw [if_neg hp] at hsn
   refine Aew ?_;refine FG ?_;refine CI ?_;refine AE ?_;refine AL rfl ?_;refine Acv ?_;refine E6 ?_;refine B9 ?_;refine Ach ?_;refine CN ?_;refine B9 ?_;refine DF ?_; rintro _ _ ⟨rfl,rfl⟩;refine Adj ?_
   refine AX (i + 1) (by omega) (by omega) covZ ?_
   rw [hsn];exact selZ
 ·refine AC ?_
  refine Adz ?_;refine A2 ?_
  refine AX (rNext l fl D s) ⟨hN1,fun F hR=>hrun F (.step hD h0 hR)⟩ (by omega) covZ ?_
  rw [List.take_of_length_le (by omega)]
  exact selZ
end Go.Proofs.YtjehnjhkcmobcaaGreat
/- Max and Cut of the program. -/
namespace Go.Proofs.YtjehnjhkcmobcaaGreat
open Go.Eng Go.Flow
set_option maxRecDepth 100000
set_option maxHeartbeats 4000000

theorem flowMax_spec (ρ:PH) (v:Value) (n s t:Int) (l:List Arc) (hv:ArcsAt ρ v l) (hl:l.length ≤ 1000000) :
  Makes Tryz.prog (fv 61) [int n,v,int s,int t] [ρ] (fun r σ=>∃ fs F m e,r = .tuple #[fs,int m,int e] ∧ IntsAt σ fs F ∧ MaxOK n l s t F m e):=by
 have hnil:IntsAt emp (.slice none 0 0) []:=⟨rfl,.inl ⟨rfl,none,0,rfl⟩⟩
 refine spec_in (cap:=[]) Tryz.func61 rfl rfl Tryz.ntmps61 rfl envZ (fun N β=>?_)
 refine Aa ?_;refine Acf ?_;refine Ad ?_
 focus ((refine A3 (check_spec ρ v n l hv hl) rfl rfl rdZ rfl rfl ?_; rintro _ rfl))
 refine Aa8 ?_
 by_cases hc:chk n l = 0
 rotate_left
 ·refine CK ?_
  refine Aah ?_;refine Aad ?_;refine Acf ?_;refine BY ?_
  exact AI (res3 rfl rfl rfl rfl) rsubZ selZ ⟨emp,⟨_,[],0,_,rfl,hnil,.inl ⟨by unfold maxErr; rw [if_pos hc]; exact hc,by unfold maxErr; rw [if_pos hc],rfl,rfl⟩⟩,rfl⟩
 refine Abb ?_;refine Aai ?_;refine Aa1 ?_
 focus ((refine A3 (ends_spec _ _ _) rfl rfl rdZ rfl rfl ?_; rintro _ rfl))
 refine Aa8 ?_
 have hme:maxErr n l s t = if okEnds n s t = true then 0 else 2:=by unfold maxErr; rw [if_neg (by rw [hc]; simp)]
 cases he:okEnds n s t with
 | false =>
  rw [he] at hme;simp only [Bool.false_eq_true,if_false] at hme ⊢;refine Ab9 ?_;refine Aad ?_;refine Acf ?_;refine BY ?_
  exact AI (res3 rfl rfl rfl rfl) rsubZ selZ ⟨emp,⟨_,[],0,_,rfl,hnil,.inl ⟨by rw [hme]; simp,by rw [hme],rfl,rfl⟩⟩,rfl⟩
 | true =>
  rw [he] at hme;simp only [if_true] at hme ⊢
  obtain ⟨n',s',t',g⟩:=maxErr_good hme
  obtain ⟨rfl,rfl,rfl⟩:=And.intro g.en (And.intro g.es g.et)
  refine Abb ?_;refine Aad ?_;refine Adg ?_;refine BC (maximum_spec ρ v n' l s' t' hv g.n2 g.l2 g.ok g.sn g.tn g.ne) rfl rfl takesZ rdZ rfl rfl ?_;rintro _ _ ⟨_,_,F,rfl,bf,gb,b1,b2,γ,rfl,rfl,_,hR,rfl⟩
  have hF:=(hR.flw g.ok g.sn g.ne (flw_zeros g.ok)).1
  have hIn:IntsAt (sng bf (.cells (ints F) 3 (0,0))) (.slice (some ⟨bf,0,none⟩) l.length l.length) F:=by rw [hF.len]; exact intsAt_sng
  simp only [List.cons_append,List.nil_append];refine Ac7 ?_;refine Adg ?_;refine A3 (value_spec ρ _ v _ s' l F hv hIn g.l2 hF.len.symm (inCap_small l F hF.len hF.cap g.ok)) rfl rfl rdZ rfl rfl ?_;rintro _ rfl;refine Acf ?_;exact AI (res3 rfl rfl rfl rfl) rsubZ selZ ⟨_,⟨_,F,_,_,rfl,hIn,.inr ⟨hme,rfl,hR,rfl⟩⟩,rfl⟩

set_option maxHeartbeats 8000000 in
theorem flowCut_spec (ρ:PH) (v:Value) (n s t:Int) (l:List Arc) (hv:ArcsAt ρ v l) (hl:l.length ≤ 1000000) :
  Makes Tryz.prog (fv 29) [int n,v,int s,int t] [ρ] (fun r σ=>∃ fs side c e,r = .tuple #[fs,int c,int e] ∧ IntsAt σ fs side ∧ CutOK n l s t side c e):=by
 have hnil:IntsAt emp (.slice none 0 0) []:=⟨rfl,.inl ⟨rfl,none,0,rfl⟩⟩
 refine spec_in (cap:=[]) Tryz.func29 rfl rfl Tryz.ntmps29 rfl envZ (fun N β=>?_)
 refine Aa ?_;refine Acf ?_;refine Ad ?_
 focus ((refine A3 (check_spec ρ v n l hv hl) rfl rfl rdZ rfl rfl ?_; rintro _ rfl))
 refine Aa8 ?_
 by_cases hc:chk n l = 0
 rotate_left
 ·refine CK ?_
  refine Aah ?_;refine Aad ?_;refine Acf ?_;refine BY ?_
  exact AI (res3 rfl rfl rfl rfl) rsubZ selZ ⟨emp,⟨_,[],0,_,rfl,hnil,.inl ⟨by unfold maxErr; rw [if_pos hc]; exact hc,by unfold maxErr; rw [if_pos hc],rfl,rfl⟩⟩,rfl⟩
 refine Abb ?_;refine Aai ?_;refine Aa1 ?_
 focus ((refine A3 (ends_spec _ _ _) rfl rfl rdZ rfl rfl ?_; rintro _ rfl))
 refine Aa8 ?_
 have hme:maxErr n l s t = if okEnds n s t = true then 0 else 2:=by unfold maxErr; rw [if_neg (by rw [hc]; simp)]
 cases he:okEnds n s t with
 | false =>
  rw [he] at hme;simp only [Bool.false_eq_true,if_false] at hme ⊢;refine Ab9 ?_;refine Aad ?_;refine Acf ?_;refine BY ?_
  exact AI (res3 rfl rfl rfl rfl) rsubZ selZ ⟨emp,⟨_,[],0,_,rfl,hnil,.inl ⟨by rw [hme]; simp,by rw [hme],rfl,rfl⟩⟩,rfl⟩
 | true =>
  rw [he] at hme;simp only [if_true] at hme ⊢
  obtain ⟨n',s',t',g⟩:=maxErr_good hme
  obtain ⟨rfl,rfl,rfl⟩:=And.intro g.en (And.intro g.es g.et)
  have hrep:(List.replicate n' false).length = n':=by simp
  have hn2:=g.n2
  have hsn:=g.sn
  have hrl:=rl_lt g.ok
  have hGok:GOk n' (outsOf (rlinks l)) (insOf (rlinks l)):=GOk_of g.n2 (by rw [rlinks_len]; have:=g.l2; omega) (fun x hx=>by have:=rlinks_mem g.ok hx; have:=g.l2; omega)
  have hcap:∀ a ∈ l,0 ≤ a.c ∧ a.c ≤ 1099511627776:=fun a ha=>by have:=okArc_iff.1 (g.ok a ha); omega
  refine Abb ?_;refine Aad ?_;refine Adg ?_;refine BC (maximum_spec ρ v n' l s' t' hv g.n2 g.l2 g.ok g.sn g.tn g.ne) rfl rfl takesZ rdZ rfl rfl ?_;rintro _ _ ⟨_,_,F,rfl,bf,gb,b1,b2,γ,rfl,rfl,hG,hR,rfl⟩
  have hF:=(hR.flw g.ok g.sn g.ne (flw_zeros g.ok)).1
  obtain ⟨ob,oc,ho,hol⟩:=hG.o
  have hrm:∀ x,x ∈ rlinks l → Ans Tryz.prog (roomR b1 b2) [int x.k] [ρ,sng b1 (.cells #[v] 73 (0,0)),sng b2 (.cells #[.slice (some ⟨bf,0,none⟩) l.length l.length] 22 (0,0)),sng bf (.cells (ints F) 3 (0,0))] (fun r=>r = int (rmR l F x.k)):=fun x hx =>
   residual1_spec ρ _ b1 b2 bf l.length l.length x.k _ _ _ l F hv hF.len.symm rfl (rlinks_mem g.ok hx).2.2 g.l2 hF.cap hcap
  simp only [List.cons_append,List.nil_append];refine AT (ρ:=sng bf _) takeZ ?_;refine AT (ρ:=γ) takeZ ?_;refine AT (ρ:=sng b1 _) takeZ ?_;refine AT (ρ:=sng b2 _) takeZ ?_;refine Ac7 ?_;refine FJ ?_; rintro _ _ ⟨b,rfl,rfl⟩;refine B6 ?_; rintro _ _ ⟨b,rfl,rfl⟩;refine BF ?_; rintro _ _ ⟨rfl,rfl⟩;refine AE ?_;refine Adi ?_;refine B9 ?_;refine DP ?_; rintro _ _ ⟨rfl,rfl⟩;refine AE ?_;refine Aai ?_;refine BD ?_; rintro _ _ ⟨b,rfl,rfl⟩;refine B6 ?_; rintro _ _ ⟨b,rfl,rfl⟩;refine BF ?_; rintro _ _ ⟨rfl,rfl⟩;refine AE ?_;refine AO ?_
  rename_i bm bB bi
  revert b; intro bq
  have hq0:OwnO 3 1 (.slice (some ⟨bi,0,none⟩) 1 1) 1 [int s'] (sng bi (.cells [int (s':Int)].toArray 3 (0,0))):=OwnS.ownO (n:=1) rfl (by simp [maxLen])
  refine BY ?_
  refine DZ [0,1,2,3,14,15] ((((List.replicate n' false).set s' true,[s']),((.slice (some ⟨bi,0,none⟩) 1 1,sng bi (.cells [int (s':Int)].toArray 3 (0,0))),bq)),([],emp)) (X:=((List Bool × List Nat) × ((Value × PH) × Nat)) × (List Nat × PH))
   (fun x=>x.2.1.map mk) (fun x=>RInv n' s' (rE l F) x.1.1.1 x.1.1.2 ∧ OwnO 3 1 x.1.2.1.1 x.1.1.2.length (qInts x.1.1.2) x.1.2.1.2 ∧ x.1.1.2.length + unm x.1.1.1 ≤ n' ∧ MkIn x.2.2 x.2.1)
   (fun x=>[(16,.pointer (some ⟨x.1.2.2,0,none⟩))]) (fun x=>[sng bB (.cells #[.slice (some ⟨bm,0,none⟩) n' n'] 125 (0,0)),sng bm (.cells (bools x.1.1.1) 4 (0,0)),sng x.1.2.2 (.cells #[x.1.2.1.1] 22 (0,0)),x.1.2.1.2,x.2.2]) (fun x=>2 * unm x.1.1.1 + x.1.1.2.length)
   pickZ rfl ⟨RInv.start hsn,hq0,by have:=unm_start hsn; dsimp only [List.length_singleton]; omega,MkIn.nil⟩ covZ selZ ?_
  rintro ⟨⟨⟨B,q⟩,⟨⟨qv,ρq⟩,bq2⟩⟩,⟨ms,μ⟩⟩ ⟨hB,hQ,hql,hM⟩
  dsimp only at hB hQ hql hM ⊢
  have hBl:=hB.len
  cases q with
  | nil =>
   have hQ':OwnO 3 1 qv 0 [] ρq:=hQ
   obtain ⟨_,b1',o1,cap1,cur1,rfl,rfl,_⟩:=hQ'
   have hreach:=hB.reach (fun x hx=>hrl x hx.1) hsn
   refine BY ?_;refine AC ?_;refine Abk ?_;refine Ad7 ?_;refine Ac3 ?_;refine Aak ?_;refine AC ?_;refine Abk ?_;refine Ada ?_
   refine BA [0,1,15,82,83] (X:=Nat × (Value × PH)) (0,(.slice none 0 0,emp)) (fun x=>x.1 ≤ n' ∧ OwnS 3 1 x.2.1 (sideOf B x.1).length ((sideOf B x.1).map int) x.2.2) (fun x=>[(18,x.2.1),(84,int x.1)])
    (fun x=>[sng bB (.cells #[.slice (some ⟨bm,0,none⟩) n' n'] 125 (0,0)),sng bm (.cells (bools B) 4 (0,0)),x.2.2,μ]) (fun x=>n' - x.1) pickZ ⟨by dsimp only; omega,OwnS.nil _ _⟩ covZ selZ ?_
   rintro ⟨k,⟨sv,ρs⟩⟩ ⟨hk,hS⟩
   dsimp only at hk hS ⊢
   have hsl:=sideOf_len B k
   have hsu:=sideOf_succ B k
   by_cases hlt:k < n'
   ·have hbk:=bget_some (B:=B) (v:=k) (by omega)
    cases hb:bget B k with
    | true =>
     rw [hb] at hbk hsu;rw [if_pos rfl] at hsu;refine Ab3 ?_;refine Ad8 ?_;refine Aan ?_;refine Aad ?_;refine Aah ?_;refine Acv ?_;refine BD ?_; rintro _ _ ⟨b,rfl,rfl⟩
     refine BH (B8 (by_:=8) (s:=1) (news:=[int (k:Int)]) rfl rfl rfl rfl rfl rfl rfl hS takeZ (cells_own memZ) rfl (by (repeat (first | exact (fun v hv=>absurd hv List.not_mem_nil) | (refine List.forall_mem_cons.2 ⟨?_,?_⟩; (focus (first | exact rfl | assumption))))); first | done | fail) (by omega) (by simp only [maxLen]; omega) (by omega)) rfl rfl rfl ?_
     rintro q9 _ ⟨ρ3,hQ3,rfl⟩;refine Adp ?_
     refine AX (k + 1,(q9,ρ3)) ⟨by dsimp only; omega,?_⟩ (by dsimp only; omega) covZ selZ
     dsimp only
     rw [hsu,List.map_append,List.length_append];exact hQ3
    | false =>
     rw [hb] at hbk hsu
     rw [if_neg (by simp),List.append_nil] at hsu
     refine Ab3 ?_;refine Ad8 ?_;refine Aan ?_;refine Aad ?_;refine Ac5 ?_
     refine AX (k + 1,(sv,ρs)) ⟨by dsimp only; omega,?_⟩ (by dsimp only; omega) covZ selZ
     dsimp only
     rw [hsu];exact hS
   ·obtain rfl:k = n':=by omega
    refine Abl ?_;refine Abn ?_;refine AF ?_;refine A3 (capacity_spec ρ v k bm k 4 l B hv g.l2 g.ok hBl) rfl rfl rdZ rfl rfl ?_;rintro _ rfl;refine Acf ?_;exact DX hM takeZ (res3 rfl rfl rfl rfl) rsubZ selZ ⟨_,⟨sv,sideOf B k,_,_,rfl,ownInts (e:=3) hS,.inr ⟨hme,rfl,F,B,hR,hreach,rfl,rfl⟩⟩,rfl⟩
  | cons v1 q =>
   have hQ':OwnO 3 1 qv (q.length + 1) (int v1 :: qInts q) ρq:=hQ
   have hV0:=hB.take
   have hvn:=hV0.vn
   obtain ⟨lv,hlv,hls⟩:=hol v1 hvn
   obtain ⟨b1',o1,cap1,rfl,hh0,_⟩:=hQ'.head
   simp only [List.length_cons] at hql ⊢;refine AC ?_;refine Abk ?_;refine AV ?_;refine CQ ?_;refine Acm ?_;refine AC ?_
   refine A8 (.q 0 (.q 1 (.q 2 (.q 3 (.q 4 (.q 5 (.q 6 (.q 7 (.q 8 (.q 9 (.l 10 .e .nil))))))))))) [] rfl (by kernel_rfl) selZ ?_
   refine Aa7 ?_;refine Ab6 ?_;refine AR ?_;refine G3 ?_;refine AR ?_;refine Ad9 ?_;refine B7 (BJ rfl (open_spec _ _ (SlE.one hls) rfl) rfl rfl rdZ rfl rfl ?_);rintro _ _ ⟨bl,bg,rfl,rfl⟩;simp only [List.cons_append,List.nil_append];refine A5 ?_;refine AT (ρ:=sng bl _) takeZ ?_;refine AT (ρ:=sng bg _) takeZ ?_;refine AO ?_
   refine DB (gf:=126) (cap:=[.pointer (some ⟨bl,0,none⟩),.pointer (some ⟨bg,0,none⟩)]) (ps:=[65]) (X:=(List Bool × List Nat) × (Value × PH)) rfl Tryz.func126 rfl rfl
    (open_iter γ gb bl bg lv (roomR b1 b2) (outsOf (rlinks l) v1) (rmR l F) _ hls (by have:=(hGok.len v1).1; omega) hG.r (fun x hx=>hrm x (by unfold outsOf at hx; exact (List.mem_filter.1 hx).1))) ?_
    (fun i x=>RVInv n' s' (rE l F) x.1.1 v1 x.1.2 ((openL (rmR l F) (outsOf (rlinks l) v1)).take i) ∧ OwnO 3 1 x.2.1 (x.1.2.length + 1) (int v1 :: qInts x.1.2) x.2.2 ∧ x.1.2.length + unm x.1.1 + 1 ≤ n' ∧ 2 * unm x.1.1 + x.1.2.length ≤ 2 * unm B + q.length)
    (fun x=>[sng bB (.cells #[.slice (some ⟨bm,0,none⟩) n' n'] 125 (0,0)),sng bm (.cells (bools x.1.1) 4 (0,0)),sng bq2 (.cells #[x.2.1] 22 (0,0)),x.2.2])
    (fun _ _=>False) ((B,q),(.slice (some ⟨b1',o1,none⟩) (q.length + 1) cap1,ρq)) rfl takesZ ⟨by simpa using hV0,hQ',by dsimp only; omega,by dsimp only; omega⟩ ?_ ?_ ?_
   ·intro σ hσ
    simp only [List.cons_append,List.nil_append,List.mem_cons,List.not_mem_nil,or_false] at hσ ⊢
    rcases hσ with h | h | h | h | h | h | h <;> simp [h]
   ·rintro lp r i ⟨⟨B1,q1⟩,⟨qv2,ρ2⟩⟩ vs hvs ⟨hV,hQ2,hlq,hms⟩ hps has hbd hst hpe hfr
    dsimp only at hV hQ2 hlq hms ⊢
    obtain ⟨st,pe,fnn,tm,prm,asg,bdy,df⟩:=r
    simp only at hps has hbd hst hpe hfr;subst hps has hbd hst hpe;rw [List.getElem?_map] at hvs
    obtain ⟨x,hx,rfl⟩:=Option.map_eq_some_iff.1 hvs
    have hlt:i < (openL (rmR l F) (outsOf (rlinks l) v1)).length:=(List.getElem?_eq_some_iff.1 hx).1
    have hxe:(openL (rmR l F) (outsOf (rlinks l) v1))[i] = x:=(List.getElem?_eq_some_iff.1 hx).2
    have hxm:x ∈ openL (rmR l F) (outsOf (rlinks l) v1):=List.mem_of_getElem? hx
    have hxi:(x ∈ rlinks l ∧ x.f = v1) ∧ 0 < rmR l F x.k:=by
     unfold openL outsOf at hxm
     obtain ⟨k1,k2⟩:=List.mem_filter.1 hxm
     obtain ⟨k3,k4⟩:=List.mem_filter.1 k1
     exact ⟨⟨k3,by simpa using k4⟩,by simpa using k2⟩
    have hxt:=(hrl x hxi.1.1).2
    have htk:(openL (rmR l F) (outsOf (rlinks l) v1)).take (i + 1) = (openL (rmR l F) (outsOf (rlinks l) v1)).take i ++ [x]:=by rw [take_snoc' hlt,hxe]
    have hBl1:B1.length = n':=hV.len
    have hbx:=bget_some (B:=B1) (v:=x.t) (by omega)
    refine yield_spec hfr rfl (by intro p hp; simp at hp; omega) putiZ (fun N' β'=>?_)
    unfold encL;refine AA ?_;refine AY ?_; rintro _ _ ⟨b,rfl,rfl⟩;refine AU ?_; rintro _ _ ⟨rfl,rfl⟩;refine Aev ?_;refine C7 takeZ rfl ?_
    cases hb:bget B1 x.t with
    | false =>
     rw [hb] at hbx
     have hp:=hV.push (x:=x) ⟨hxi.1.1,hxi.2⟩ hxt hxi.1.2
     have hu:=unm_set (B:=B1) (i:=x.t) (by omega) hb
     refine AO ?_;refine Abk ?_;refine Aac ?_;refine Ad8 ?_;refine Ad1 ?_;refine Abk ?_;refine Aac ?_;refine B9 ?_;refine DP ?_; rintro _ _ ⟨rfl,rfl⟩;refine Adt ?_;refine AF ?_;refine Aac ?_;refine BD ?_; rintro _ _ ⟨b,rfl,rfl⟩
     refine BH (ER (by_:=8) (s:=1) (news:=[int (x.t:Int)]) rfl rfl rfl rfl rfl rfl rfl hQ2 takeZ (cells_own memZ) rfl (by (repeat (first | exact (fun v hv=>absurd hv List.not_mem_nil) | (refine List.forall_mem_cons.2 ⟨?_,?_⟩; (focus (first | exact rfl | assumption))))); first | done | fail) (by simp only [maxLen]; omega) (by omega)) rfl rfl rfl ?_
     rintro q9 _ ⟨ρ3,hQ3,rfl⟩
     have hq9:q9.oneCell' = true:=by obtain ⟨_,_,_,_,_,rfl,_⟩:=hQ3; rfl
     have hQ4:OwnO 3 1 q9 ((q1 ++ [x.t]).length + 1) (int v1 :: qInts (q1 ++ [x.t])) ρ3:=by
      have:int v1 :: qInts (q1 ++ [x.t]) = (int v1 :: qInts q1) ++ [int (x.t:Int)]:=by simp [qInts]
      rw [this,List.length_append];exact hQ3
     refine BF ?_; rintro _ _ ⟨rfl,rfl⟩;refine Aer ?_;refine B4 takeZ rsubZ selZ ⟨((B1.set x.t true,q1 ++ [x.t]),(q9,ρ3)),.inl ⟨rfl,⟨?_,hQ4,?_,?_⟩,rfl⟩⟩
     ·dsimp only
      rw [htk];exact hp
     ·dsimp only
      rw [List.length_append,List.length_singleton]; omega
     ·dsimp only
      rw [List.length_append,List.length_singleton]; omega
    | true =>
     rw [hb] at hbx;refine AO ?_;refine Abk ?_;refine Aac ?_;refine Ad8 ?_;refine Acb ?_;refine A2 ?_;refine B4 takeZ rsubZ selZ ⟨((B1,q1),(qv2,ρ2)),.inl ⟨rfl,⟨?_,hQ2,hlq,hms⟩,rfl⟩⟩;simp only;rw [htk];exact hV.seen hb
   ·rintro b2' ⟨⟨B1,q1⟩,⟨qv2,ρ2⟩⟩ ⟨hV,hQ2,hlq,hms⟩
    dsimp only at hV hQ2 hlq hms ⊢
    simp only [List.cons_append,List.nil_append]
    refine DY (R':=sng b2 (.cells #[.slice (some ⟨bf,0,none⟩) l.length l.length] 22 (0,0)) :: sng b1 (.cells #[v] 73 (0,0)) :: γ :: sng bf (.cells (ints F) 3 (0,0)) :: β :: [ρ]) (by intro σ hσ; simp at hσ ⊢; rcases hσ with h | h | h | h | h | h <;> simp [h]) ?_
    refine C5 (b:=b2') takeZ (μ:=μ) takeZ hM ?_
    intro μ2 hM2
    obtain ⟨b5,o5,cap5,rfl,_,hh1⟩:=hQ2.head
    refine A2 ?_;refine A2 ?_;refine AC ?_;refine Abk ?_;refine Adt ?_;refine B6 ?_; rintro _ _ ⟨b,rfl,rfl⟩;refine BF ?_; rintro _ _ ⟨rfl,rfl⟩;refine Adt ?_;refine AF ?_
    focus ((refine' CH _ rfl rfl rfl _; rotate_left; (apply EO (i:=1); exact rfl; exact rfl; exact rfl; exact rfl; omega)))
    refine BF ?_; rintro _ _ ⟨rfl,rfl⟩;refine AE ?_
    refine DM (((B1,q1),((_,ρ2),b)),(b2' :: ms,μ2)) rfl ⟨hV.done (fun x hx hxt=>?_),hh1,by dsimp only; omega,hM2⟩ (by dsimp only [List.length_cons]; omega) covZ selZ
    have hmem:x ∈ openL (rmR l F) (outsOf (rlinks l) v1):=by
     unfold openL outsOf;rw [List.mem_filter,List.mem_filter]
     exact ⟨⟨hx.1,by simpa using hxt⟩,by simpa using hx.2⟩
    simpa [List.length_map] using hmem
   ·rintro _ _ _ h; exact h.elim
end Go.Proofs.YtjehnjhkcmobcaaGreat
/- Searches in slices of numbers; the example of the chapter. -/
namespace Go.Proofs.YtjehnjhkcmobcaaGreat
open Go.Eng Go.Flow
set_option maxRecDepth 100000
set_option maxHeartbeats 4000000

end Go.Proofs.YtjehnjhkcmobcaaGreat
/- Intervals with the same number of bytes. -/
namespace Go.Proofs.YtjehnjhkcmobcaaGreat
open Go.Eng Go.Step
set_option maxRecDepth 100000
set_option maxHeartbeats 4000000

theorem spL_step {f:List Lv} {k:Nat} {x:Lv} (h:f[k]? = some x):spL (f.take (k + 2)) = spL (f.take (k + 1)) ++ (if 0 < x.v ∧ k + 1 < f.length then [((x.a,(f.getD (k + 1) ⟨0,0⟩).a),x.v)] else []):=by
 by_cases hk:k + 1 < f.length
 ·have h2:=List.getElem?_eq_getElem hk
  rw [spL_next h h2,List.getD_eq_getElem?_getD,h2,Option.getD_some]
  by_cases hv:0 < x.v
  ·rw [if_pos hv,if_pos ⟨hv,hk⟩]
  ·rw [if_neg hv,if_neg (fun c=>hv c.1)]
 ·rw [if_neg (fun c=>hk c.2),List.append_nil,List.take_of_length_le (by omega),List.take_of_length_le (by omega)]
theorem filt_snoc (l:List (Int × Int)) (e:Int × Int):((l ++ [e]).filter (fun e=>decide (e.2 ≠ 0))).map (fun e=>e.1) = (l.filter (fun e=>decide (e.2 ≠ 0))).map (fun e=>e.1) ++ (if e.2 ≠ 0 then [e.1] else []):=by
 rw [List.filter_append,List.map_append]
 congr 1
 by_cases h:e.2 = 0 <;> simp [h]
theorem spL_short {f:List Lv} (h:f.length ≤ 1):spL f = []:=by
 match f,h with
 | [],_=>rfl
 | [x],_=>rfl
 | _ :: _ :: _,h=>simp at h
theorem nodup_len {a b:List Int} (hn:a.Nodup) (h:∀ x ∈ a,x ∈ b):a.length ≤ b.length:=by
 induction a generalizing b with
 | nil=>simp
 | cons x a ih =>
  obtain ⟨h1,h2⟩:=List.nodup_cons.1 hn
  have hx:=h x (by simp)
  have:=ih h2 (b:=b.erase x) (fun y hy=>(List.mem_erase_of_ne (fun e=>h1 (by rw [← e]; exact hy))).2 (h y (by simp [hy])))
  rw [List.length_erase_of_mem hx] at this
  have:=List.length_pos_of_mem hx
  simp only [List.length_cons];omega
theorem evE_len (cs:List Ct) (n:Int):∀ l:List Sh,(evE cs n l).length ≤ 2 * l.length
 | []=>by simp [evE]
 | x :: l=>by
  have ih:=evE_len cs n l
  have e:evE cs n (x :: l) = ((if (ctOf cs x).f = n then [(x.t,-x.n)] else []) ++ (if (ctOf cs x).t = n then [(arrOf cs x,x.n)] else [])) ++ evE cs n l:=rfl
  rw [e,List.length_append,List.length_append,List.length_cons]
  have h1:(if (ctOf cs x).f = n then [(x.t,-x.n)] else []).length ≤ 1:=by split <;> simp
  have h2:(if (ctOf cs x).t = n then [(arrOf cs x,x.n)] else []).length ≤ 1:=by split <;> simp
  omega
set_option maxHeartbeats 64000000 in
theorem intervals_spec (cs:List Ct) (n:Int) (l:List Sh) (bm:Nat) (m:List (Int × Int)) (hE:EvM (evE cs n l) m) (hok:∀ x ∈ l,ShB cs x) (hll:l.length ≤ 500000) :
  Eng.Spec Tryz.prog (fv 84) [.map (some bm)] [sng bm (mapO m)] [] (fun r H'=>∃ u1 u2 ok σ1 σ2,r = .tuple #[u1,u2,.bool ok] ∧ H' = [σ1,σ2] ∧ ((ok = false ∧ ∃ y ∈ lvN cs n l,y.v < 0) ∨ (ok = true ∧ (∀ y ∈ lvN cs n l,0 ≤ y.v) ∧ OwnS 152 2 u1 ((spL (lvN cs n l)).map (fun p=>p.1)).length (((spL (lvN cs n l)).map (fun p=>p.1)).flatMap encS) σ1 ∧ OwnS 3 1 u2 ((spL (lvN cs n l)).map (fun p=>p.2)).length (((spL (lvN cs n l)).map (fun p=>p.2)).flatMap Eng.encI) σ2))):=by
 have hml:m.length ≤ 2 * l.length:=by
  have hnd:=hE.nd
  have hsub:∀ t ∈ m.map (·.1),t ∈ (evE cs n l).map (·.1):=fun t ht=>by
   obtain ⟨⟨a,b⟩,hab,e⟩:=List.mem_map.1 ht
   dsimp only at e
   subst e;exact ((hE.mem _ _).1 hab).1
  have h1:(m.map (·.1)).length ≤ ((evE cs n l).map (·.1)).length:=nodup_len hnd hsub
  rw [List.length_map,List.length_map] at h1;exact Nat.le_trans h1 (evE_len cs n l)
 refine spec_in (cap:=[]) Tryz.func84 rfl rfl Tryz.ntmps84 rfl envZ (fun N β=>?_)
 refine BY ?_;refine BY ?_;refine BY ?_;refine Aa ?_;refine Acf ?_;refine Aak ?_;refine Aai ?_;refine BH (G6 (l:=m) rfl rfl (mapAt_rd memZ)) rfl rfl rfl ?_;rintro _ _ ⟨ri,rfl,rfl⟩;refine AE ?_;refine AO ?_
 refine BA [0,14] (X:=Array Nat × List (Int × Int) × Value × PH) (#[],[],.slice none 0 0,emp) (fun x=>Came m x.1 x.2.1 ∧ OwnS 3 1 x.2.2.1 ((x.2.1.filter (fun e=>decide (e.2 ≠ 0))).map (fun e=>e.1)).length (((x.2.1.filter (fun e=>decide (e.2 ≠ 0))).map (fun e=>e.1)).flatMap Eng.encI) x.2.2.2) (fun x=>[(5,x.2.2.1)]) (fun x=>[sng ri (iterO bm m.length x.1),x.2.2.2,emp,emp]) (fun x=>m.length - x.1.size) pickZ ⟨Came.nil m,OwnS.nil _ _⟩ covZ selZ ?_
 rintro ⟨seen,done,u,σ⟩ ⟨hC,hO⟩
 dsimp only at hC hO ⊢
 have hlen:=hC.len
 have hfl:((done.filter (fun e=>decide (e.2 ≠ 0))).map (fun e=>e.1)).length ≤ done.length:=by rw [List.length_map]; exact List.length_filter_le _ _
 have hfl2:(done.filter (fun e=>decide (e.2 ≠ 0))).length ≤ done.length:=List.length_filter_le _ _
 refine Aa ?_;refine BH (l_next (l:=m) rfl (mapAt_rd memZ) takeZ) rfl rfl rfl ?_;rintro _ _ (⟨hall,rfl,rfl⟩ | ⟨i,hi,hni,rfl,rfl⟩)
 rotate_left
 ·have hC2:=hC.push hi hni
  have hfs:=filt_snoc done m[i]
  have hl2:=hC2.len
  rw [Array.size_push] at hl2;refine AP ?_;refine Aas ?_;refine AK ?_;refine AO ?_;refine Aa ?_;refine CH (G7 (l:=m) (seen:=seen) rfl (mapAt_rd memZ) memZ hi) rfl rfl rfl ?_
  generalize m[i] = e at hC2 hfs
  obtain ⟨ea,ev⟩:=e
  dsimp only at hfs
  by_cases h0:ev = 0
  ·rw [if_neg (fun h=>h h0),List.append_nil] at hfs
   refine Aa6 ?_;refine Aan ?_;refine Aad ?_;refine Abb ?_;refine A2 ?_
   exact AX (seen.push i,done ++ [(ea,ev)],u,σ) ⟨hC2,by dsimp only; rw [hfs]; exact hO⟩ (by dsimp only; rw [Array.size_push]; omega) covZ selZ
  ·rw [if_pos h0] at hfs
   refine Aa6 ?_;refine Aan ?_;refine Aad ?_;refine Ab9 ?_;refine Acv ?_;refine BD ?_; rintro _ _ ⟨b,rfl,rfl⟩
   refine BH (B8 (by_:=8) (s:=1) (news:=[int ea]) rfl rfl rfl rfl rfl rfl rfl hO takeZ (cells_own memZ) rfl (by (repeat (first | exact (fun v hv=>absurd hv List.not_mem_nil) | (refine List.forall_mem_cons.2 ⟨?_,?_⟩; (focus (first | exact rfl | assumption))))); first | done | fail) (by omega) (by simp only [maxLen,List.length_map]; omega) (by simp only [List.length_map]; omega)) rfl rfl rfl ?_
   rintro u1 _ ⟨σ1,hO1,rfl⟩;refine Aaa ?_;refine A2 ?_
   refine AX (seen.push i,done ++ [(ea,ev)],u1,σ1) ⟨hC2,?_⟩ (by dsimp only; rw [Array.size_push]; omega) covZ selZ
   dsimp only
   rw [hfs,List.length_append,List.flatMap_append];exact hO1
 have hperm:=hC.all hall
 obtain ⟨t1,t2⟩:=hE.times hperm
 have hT:=lvN_times t1 (fun t=>by rw [t2 t,evE_at])
 refine AP ?_;refine Aa9 ?_;refine Aad ?_
 refine BC (sortI_spec σ _ _ hO (by omega)) rfl rfl takesZ (fun τ hτ=>by simp at hτ) rfl rfl ?_
 rintro _ _ ⟨rfl,σs,hOs,rfl⟩;rw [← hT] at hOs
 have hIs:IntsAt σs u ((lvN cs n l).map (fun x=>x.a)):=hOs.at
 obtain ⟨pT,kT,rfl⟩:=hOs.form
 have hrs:=rowN Eng.encI_len hIs
 have hll2:=lvN_len cs n l
 refine AT (ρ:=σs) takeZ ?_
 have hvb:∀ y ∈ lvN cs n l,-1000000000 ≤ y.v ∧ y.v ≤ 1000000000:=fun y hy=>by
  have h1:=(((lvN_ok cs n l).2.1 y).1 hy).1
  have h2:=haveS_bd cs n y.a l (fun z hz=>(hok z hz).n)
  omega
 have hml0:(List.map (fun x=>x.a) (lvN cs n l)).length = (lvN cs n l).length:=List.length_map _
 rw [hml0];refine AE ?_;refine Aak ?_;refine Aek ?_
 refine BA [0,5,28,29] (X:=Nat × (Value × PH) × (Value × PH)) (0,(.slice none 0 0,emp),(.slice none 0 0,emp)) (fun x=>x.1 ≤ (lvN cs n l).length ∧ (∀ y ∈ (lvN cs n l).take x.1,0 ≤ y.v) ∧ OwnS 152 2 x.2.1.1 ((spL ((lvN cs n l).take (x.1 + 1))).map (fun p=>p.1)).length (((spL ((lvN cs n l).take (x.1 + 1))).map (fun p=>p.1)).flatMap encS) x.2.1.2 ∧ OwnS 3 1 x.2.2.1 ((spL ((lvN cs n l).take (x.1 + 1))).map (fun p=>p.2)).length (((spL ((lvN cs n l).take (x.1 + 1))).map (fun p=>p.2)).flatMap Eng.encI) x.2.2.2) (fun x=>[(30,int x.1),(10,int (if x.1 = 0 then 0 else ((lvN cs n l).getD (x.1 - 1) ⟨0,0⟩).v)),(8,x.2.1.1),(9,x.2.2.1)]) (fun x=>[x.2.1.2,x.2.2.2]) (fun x=>(lvN cs n l).length - x.1) pickZ ⟨by dsimp only; omega,by simp,by dsimp only; rw [spL_short (by rw [List.length_take]; omega)]; exact OwnS.nil _ _,by dsimp only; rw [spL_short (by rw [List.length_take]; omega)]; exact OwnS.nil _ _⟩ covZ selZ ?_
 rintro ⟨k,⟨u1,σ1⟩,⟨u2,σ2⟩⟩ ⟨hk,hnn,hO1,hO2⟩
 dsimp only at hk hnn hO1 hO2 ⊢
 by_cases hlt:k < (lvN cs n l).length
 rotate_left
 ·have hke:k = (lvN cs n l).length:=by omega
  rw [List.take_of_length_le (by omega)] at hO1 hO2 hnn
  refine Abl ?_;refine Abn ?_;refine Acf ?_;exact AI (res3 rfl rfl rfl rfl) rsubZ selZ ⟨_,_,true,σ1,σ2,rfl,rfl,.inr ⟨rfl,hnn,hO1,hO2⟩⟩
 have hx:=List.getElem?_eq_getElem hlt
 have hstp:=lvN_step hx
 have hsps:=spL_step hx
 have hxm:=List.getElem_mem hlt
 have hxv:=hvb _ hxm
 have hta:(lvN cs n l).take (k + 1) = (lvN cs n l).take k ++ [(lvN cs n l)[k]]:=List.take_succ_eq_append_getElem hlt
 have hpv:-1000000000 ≤ (if k = 0 then 0 else ((lvN cs n l).getD (k - 1) ⟨0,0⟩).v) ∧ (if k = 0 then 0 else ((lvN cs n l).getD (k - 1) ⟨0,0⟩).v) ≤ 1000000000:=by
  split
  ·omega
  ·have hk1:k - 1 < (lvN cs n l).length:=by omega
   rw [List.getD_eq_getElem?_getD,List.getElem?_eq_getElem hk1];exact hvb _ (List.getElem_mem hk1)
 have hnx:(if k + 1 = 0 then (0:Int) else ((lvN cs n l).getD (k + 1 - 1) ⟨0,0⟩).v) = (lvN cs n l)[k].v:=by
  rw [if_neg (by omega),Nat.add_sub_cancel,List.getD_eq_getElem?_getD,hx]
  rfl
 have hsl1:=spL_len ((lvN cs n l).take (k + 1))
 rw [List.length_take] at hsl1
 obtain ⟨b3,o3,rfl,g3⟩:=hrs.int (show ((lvN cs n l).map (fun x=>x.a))[k]? = some (lvN cs n l)[k].a by rw [List.getElem?_map,hx]; rfl)
 have g4:k + 1 < (lvN cs n l).length → rdc σs b3 (o3 + (k + 1)) = some (int ((lvN cs n l).getD (k + 1) ⟨0,0⟩).a):=fun h=>by
  have h2:=List.getElem?_eq_getElem h
  obtain ⟨b4,o4,e,g⟩:=hrs.int (show ((lvN cs n l).map (fun x=>x.a))[k + 1]? = some (lvN cs n l)[k + 1].a by rw [List.getElem?_map,h2]; rfl)
  simp only [Option.some.injEq,Addr.mk.injEq,and_true] at e
  obtain ⟨rfl,rfl⟩:=e
  rw [List.getD_eq_getElem?_getD,h2];exact g
 generalize (lvN cs n l).getD (k + 1) ⟨0,0⟩ = z at hsps g4
 obtain ⟨za,zv⟩:=z
 dsimp only at hsps g4
 generalize (if k = 0 then 0 else ((lvN cs n l).getD (k - 1) ⟨0,0⟩).v) = pv at hstp hpv
 generalize (lvN cs n l)[k] = x at hx hstp hsps hxm hxv hta hnx g3
 obtain ⟨xa,xv⟩:=x
 dsimp only at hstp hsps hxv hnx g3
 have hgx:=hE.get xa
 rw [evE_at,show chgS cs n xa l = xv - pv by omega] at hgx
 refine Ab3 ?_;refine Abx ?_;refine Aan ?_;refine Aad ?_;refine Aa1 ?_;refine CH (CX (k:=xa) (l:=m) rfl rfl rfl rfl rfl (mapAt_rd memZ)) rfl rfl rfl ?_;rw [hgx];refine CG ?_;refine Adx ?_
 rw [show pv + (xv - pv) = xv by omega]
 by_cases hneg:xv < 0
 ·refine BB ?_
  refine Aah ?_;refine Aa ?_;refine Acf ?_;exact AI (res3 rfl rfl rfl rfl) rsubZ selZ ⟨_,_,false,σ1,σ2,rfl,rfl,.inl ⟨rfl,_,hxm,hneg⟩⟩
 have hnn2:∀ y ∈ (lvN cs n l).take (k + 1),0 ≤ y.v:=fun y hy=>by
  rw [hta] at hy
  rcases List.mem_append.1 hy with hy | hy
  ·exact hnn y hy
  ·rw [List.mem_singleton] at hy
   rw [hy]
   show (0:Int) ≤ xv
   omega
 by_cases hpos:0 < xv
 ·by_cases hk1:k + 1 < (lvN cs n l).length
  ·rw [if_pos ⟨hpos,hk1⟩] at hsps
   have g5:=g4 hk1
   refine Aeh ?_;refine Aad ?_;refine CQ ?_;refine Aa1 ?_;refine A7 ?_;refine Abv ?_;refine BB ?_;refine AN ?_;refine Aah ?_;refine Acv ?_;refine Aa1 ?_;refine A7 ?_;refine Abx ?_;refine BR ?_;refine BD ?_; rintro _ _ ⟨b,rfl,rfl⟩
   refine BH (B8 (by_:=16) (s:=2) (news:=[int xa,int za]) rfl rfl rfl rfl rfl rfl rfl hO1 takeZ (cells_own memZ) rfl (by (repeat (first | exact (fun v hv=>absurd hv List.not_mem_nil) | (refine List.forall_mem_cons.2 ⟨?_,?_⟩; (focus (first | exact rfl | assumption))))); first | done | fail) (by omega) (by simp only [maxLen,List.length_map]; omega) (by simp only [List.length_map]; omega)) rfl rfl rfl ?_
   rintro u3 _ ⟨σ3,hO3,rfl⟩;refine Aa1 ?_;refine BD ?_; rintro _ _ ⟨b,rfl,rfl⟩
   refine BH (B8 (by_:=8) (s:=1) (news:=[int xv]) rfl rfl rfl rfl rfl rfl rfl hO2 takeZ (cells_own memZ) rfl (by (repeat (first | exact (fun v hv=>absurd hv List.not_mem_nil) | (refine List.forall_mem_cons.2 ⟨?_,?_⟩; (focus (first | exact rfl | assumption))))); first | done | fail) (by omega) (by simp only [maxLen,List.length_map]; omega) (by simp only [List.length_map]; omega)) rfl rfl rfl ?_
   rintro u4 _ ⟨σ4,hO4,rfl⟩;refine Aan ?_;refine Aa0 ?_
   refine AX (k + 1,(u3,σ3),(u4,σ4)) ⟨by dsimp only; omega,hnn2,?_,?_⟩ (by dsimp only; omega) ?_ selZ
   ·dsimp only
    rw [hsps,List.map_append,List.length_append,List.flatMap_append];exact hO3
   ·dsimp only
    rw [hsps,List.map_append,List.length_append,List.flatMap_append];exact hO4
   ·dsimp only
    rw [hnx];exact covZ
  ·rw [if_neg (fun c=>hk1 c.2),List.append_nil] at hsps
   refine Aeh ?_;refine Aad ?_;refine CQ ?_;refine Aa1 ?_;refine A7 ?_;refine Abv ?_;refine A0 ?_;refine AN ?_;refine Ac5 ?_
   refine AX (k + 1,(u1,σ1),(u2,σ2)) ⟨by dsimp only; omega,hnn2,by dsimp only; rw [hsps]; exact hO1,by dsimp only; rw [hsps]; exact hO2⟩ (by dsimp only; omega) ?_ selZ
   dsimp only
   rw [hnx];exact covZ
 ·rw [if_neg (fun c=>hpos c.1),List.append_nil] at hsps
  refine Aeh ?_;refine Aad ?_;refine B0 ?_;refine Abz ?_;refine Abh ?_;refine Aa0 ?_
  refine AX (k + 1,(u1,σ1),(u2,σ2)) ⟨by dsimp only; omega,hnn2,by dsimp only; rw [hsps]; exact hO1,by dsimp only; rw [hsps]; exact hO2⟩ (by dsimp only; omega) ?_ selZ
  dsimp only
  rw [hnx];exact covZ
end Go.Proofs.YtjehnjhkcmobcaaGreat
/- Slices of api.Booking: grown, put together. -/
namespace Go.Proofs.YtjehnjhkcmobcaaGreat
open Go.Eng Go.Step
set_option maxRecDepth 100000
set_option maxHeartbeats 4000000

theorem one_Bk (x:Bk):∀ u ∈ encB x,u.oneCell' = true:=by
 intro u hu
 simp only [encB,List.mem_cons,List.not_mem_nil,or_false] at hu
 rcases hu with rfl | rfl | rfl | rfl <;> rfl
theorem ones_Bk (l:List Bk):∀ u ∈ l.flatMap encB,u.oneCell' = true:=by
 intro u hu
 rw [List.mem_flatMap] at hu
 obtain ⟨a,_,hu⟩:=hu
 exact one_Bk a u hu
theorem growBk_spec (n:Nat) (hn:n ≤ 100000000):Makes Tryz.prog (fv 85) [.slice none 0 0,int n] [] (fun r σ=>OwnS 95 4 r 0 [] σ):=by
 refine spec_in (cap:=[]) Tryz.func85 rfl rfl Tryz.ntmps85 rfl envZ (fun N β=>?_)
 rcases Nat.eq_zero_or_pos n with h0 | h0
 ·subst h0
  refine BY ?_;refine Aak ?_;refine Aai ?_;refine Aeh ?_;refine Ad ?_;refine ED ?_;refine Abv ?_;refine CN ?_;refine CN ?_;refine Aa8 ?_;refine B0 ?_;refine Aaj ?_;refine Abs ?_;exact AI (res1 rfl rfl) rsubZ selZ ⟨emp,OwnS.nil _ _,rfl⟩
 ·have e0:(n:Int) - (((0:Nat):Int) - ((0:Nat):Int)) = (n:Int):=by omega
  refine Aak ?_;refine Aai ?_;refine Aeh ?_;refine Ad ?_;refine ED ?_;refine Abv ?_;refine CN ?_;refine CN ?_;refine Aa8 ?_;refine CQ ?_;refine Aah ?_;refine Acv ?_;refine ED ?_;refine D0 ?_;refine AB ?_
  focus ((rw [e0]))
  refine BH (EU (n:=n) (by_:=32) (s:=4) rfl rfl rfl rfl rfl rfl rfl rfl (by decide) h0 (by simp only [maxLen]; omega) (by omega)) rfl rfl rfl ?_
  rintro _ _ ⟨b,cap,cur,rfl,rfl,h1,h2,h3⟩
  have hcz:=cutP_zero b cap 4
  refine CH (EN rfl) rfl rfl rfl ?_;refine CH (F4 rfl rfl) rfl rfl rfl ?_
  refine CH (EI (i:=0) (s:=4) rfl rfl rfl rfl (by omega)) rfl rfl rfl ?_
  rw [hcz];refine Aa8 ?_;refine Aaa ?_;exact AI (res1 rfl rfl) rsubZ selZ ⟨_,OwnS.room h2 h3,rfl⟩
set_option maxHeartbeats 8000000 in
theorem concatBk_spec (τ:PH) (Rs:List PH) (v:Value) (vs:List Value) (ls:List (List Bk)) (hv:SlE encW 1 τ v vs) (hlen:vs.length = ls.length) (hall:∀ (i:Nat) (w:Value) (l:List Bk),vs[i]? = some w → ls[i]? = some l → ∃ σ ∈ Rs,SlE encB 4 σ w l) (hk:vs.length ≤ 1000) (ht:totL ls ≤ 1000000) :
  Makes Tryz.prog (fv 36) [v] (τ :: Rs) (fun r σ=>OwnS 95 4 r ls.flatten.length (ls.flatten.flatMap encB) σ):=by
 obtain ⟨q,c,rfl,hr⟩:=hv.val encW_len
 refine spec_in (cap:=[]) Tryz.func36 rfl rfl Tryz.ntmps36 rfl envZ (fun N β=>?_)
 refine Aek ?_
 refine BA [0,9,10] (0:Nat) (fun k=>k ≤ vs.length) (fun k=>[(11,int k),(3,int ((totL (ls.take k):Nat):Int))]) (fun _=>[]) (fun k=>vs.length - k) pickZ (by omega) ⟨rfl,rfl,trivial⟩ selZ ?_
 rintro k hkk
 by_cases hlt:k < vs.length
 ·obtain ⟨w,hw⟩:∃ w,vs[k]? = some w:=⟨_,List.getElem?_eq_getElem hlt⟩
  obtain ⟨l,hl⟩:∃ l,ls[k]? = some l:=⟨_,List.getElem?_eq_getElem (by omega)⟩
  obtain ⟨σ,hσ,hS⟩:=hall k w l hw hl
  obtain ⟨p2,c2,rfl,_⟩:=hS.val encB_len
  obtain ⟨b1,o1,rfl,hrd⟩:=hr k _ hw
  have g0:rdc τ b1 (o1 + k) = some (.slice p2 l.length c2):=by have:=hrd.get0; rwa [Nat.mul_one] at this
  have hst:=totL_take ls k l hl
  have hle:=totL_le ls (k + 1)
  have hsum:((totL (ls.take k):Nat):Int) + (l.length:Int) = ((totL (ls.take (k + 1)):Nat):Int):=by omega
  refine Aew ?_;refine Abv ?_;refine CG ?_;refine Aa8 ?_;refine A0 ?_;refine Ac5 ?_
  focus ((rw [hsum]))
  exact AX (k + 1) (by omega) (by omega) covZ selZ
 ·have hkl:k = vs.length:=by omega
  subst hkl
  rw [List.take_of_length_le (by omega)]
  refine Abl ?_;refine Aad ?_
  refine CB (growBk_spec (totL ls) (by omega)) rfl rfl rdZ rfl rfl ?_
  rintro u0 σ0 hO0;refine Ad5 ?_
  refine BA [25,26] (X:=Nat × (Value × PH)) (0,(u0,σ0)) (fun x=>x.1 ≤ vs.length ∧ OwnS 95 4 x.2.1 (ls.take x.1).flatten.length ((ls.take x.1).flatten.flatMap encB) x.2.2) (fun x=>[(27,int x.1),(6,x.2.1)]) (fun x=>[x.2.2]) (fun x=>vs.length - x.1) pickZ ⟨by dsimp only; omega,by simpa using hO0⟩ covZ selZ ?_
  rintro ⟨k,⟨u,σ1⟩⟩ ⟨hk2,hO⟩
  dsimp only at hk2 hO ⊢
  by_cases hlt2:k < vs.length
  ·obtain ⟨w,hw⟩:∃ w,vs[k]? = some w:=⟨_,List.getElem?_eq_getElem hlt2⟩
   obtain ⟨l,hl⟩:∃ l,ls[k]? = some l:=⟨_,List.getElem?_eq_getElem (by omega)⟩
   obtain ⟨σ,hσ,hS⟩:=hall k w l hw hl
   have hS2:=hS
   obtain ⟨p2,c2,rfl,_⟩:=hS.val encB_len
   obtain ⟨b1,o1,rfl,hrd⟩:=hr k _ hw
   have g0:rdc τ b1 (o1 + k) = some (.slice p2 l.length c2):=by have:=hrd.get0; rwa [Nat.mul_one] at this
   have hst:=totL_take ls k l hl
   have hle:=totL_le ls (k + 1)
   have hfl:=totL_flat (ls.take k)
   refine Ac6 ?_;refine Aaa ?_;refine Acv ?_
   refine BH (EV (by_:=32) (s:=4) (σ:=σ) (news:=l.flatMap encB) (m:=l.length) rfl rfl rfl rfl rfl rfl rfl hO takeZ hS2 (fun b o h=>cells_of_mem (List.mem_cons_of_mem _ (List.mem_cons_of_mem _ hσ)) h) (ones_Bk l) (by simp only [maxLen]; omega) (by omega)) rfl rfl rfl ?_
   rintro u1 _ ⟨σ2,hO2,rfl⟩;refine Adp ?_
   refine AX (k + 1,(u1,σ2)) ⟨by dsimp only; omega,?_⟩ (by dsimp only; omega) covZ selZ
   dsimp only
   rw [flat_succ ls k l hl,List.length_append,List.flatMap_append];exact hO2
  ·have hkl:k = vs.length:=by omega
   subst hkl
   rw [List.take_of_length_le (by omega)] at hO
   refine Ael ?_;exact AI (res1 rfl rfl) rsubZ selZ ⟨σ1,hO,rfl⟩
end Go.Proofs.YtjehnjhkcmobcaaGreat
