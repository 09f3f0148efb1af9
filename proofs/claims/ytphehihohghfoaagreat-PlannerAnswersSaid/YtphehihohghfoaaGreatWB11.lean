/- Texts of this proof, one after the other; no conditions. -/
import Derived.Test.YtphehihohghfoaaGreatWB10
import Derived.Test.YtphehihohghfoaaGreatWB3
import Derived.Test.YtphehihohghfoaaGreatWB6
import Derived.Test.YtphehihohghfoaaGreatWB9
import Derived.Test.YtphehihohghfoaaGreatWB8
import Derived.Test.YtphehihohghfoaaGreatWB5
import Derived.Test.YtphehihohghfoaaGreatWB7
import Derived.Test.YtphehihohghfoaaGreatWB2
import Derived.Test.YtphehihohghfoaaGreatWB4
set_option linter.all false
/- The maximum flow: paths as long as there are any. -/
namespace Go.Proofs.YtphehihohghfoaaGreat
open Go.Eng Go.Flow
set_option maxRecDepth 100000
set_option maxHeartbeats 4000000

theorem opens_opn {n:Nat} {ls:List Lk} (hls:∀ x ∈ ls,x.f < n ∧ x.t < n) (rm:Nat → Int):opens n (insOf ls) rm = opn ls rm:=opens_eq hls rm
theorem nxO_nxt (ls:List Lk) (rm:Nat → Int) (D:List Int):nxO (outsOf ls) rm D = nxt ls rm D:=nxt_eq ls rm D
def MaxLeft (n:Nat) (l:List Arc) (s t:Nat) (v fs gv:Value) (F:List Int) (H:List PH):Prop:=
 ∃ bf gb b1 b2 γ,fs = .slice (some ⟨bf,0,none⟩) l.length l.length ∧ gv = .pointer (some ⟨gb,0,none⟩) ∧ GAt γ gb n (outsOf (rlinks l)) (insOf (rlinks l)) (roomR b1 b2) ∧ RunR n l s t (List.replicate l.length 0) F ∧
  H = [sng bf (.cells (ints F) 3 (0,0)),γ,sng b1 (.cells #[v] 67 (0,0)),sng b2 (.cells #[.slice (some ⟨bf,0,none⟩) l.length l.length] 22 (0,0))]
set_option maxHeartbeats 4000000 in
theorem maximum_spec (ρ:PH) (v:Value) (n:Nat) (l:List Arc) (s t:Nat) (hv:ArcsAt ρ v l) (hn:n ≤ 2000) (hl:l.length ≤ 20000) (hok:∀ a ∈ l,okArc n a = true) (hs:s < n) (ht:t < n) (hst:s ≠ t) :
  Eng.Spec Tryz.prog (fv 58) [int n,v,int s,int t] [ρ] [] (fun r H'=>∃ fs gv F,r = .tuple #[fs,gv] ∧ MaxLeft n l s t v fs gv F H'):=by
 have hv1:=SlE.one hv
 have hrl:=rl_lt hok
 have hGok:GOk n (outsOf (rlinks l)) (insOf (rlinks l)):=GOk_of hn (by rw [rlinks_len]; omega) (fun x hx=>by have:=rlinks_mem hok hx; omega)
 have hcap:∀ a ∈ l,0 ≤ a.c ∧ a.c ≤ 1099511627776:=fun a ha=>by have:=okArc_iff.1 (hok a ha); omega
 obtain ⟨q,c,rfl,hr⟩:=hv.val encA_len
 refine spec_in (cap:=[]) Tryz.func58 rfl rfl Tryz.ntmps58 rfl envZ (fun N β=>?_)
 refine AD ?_;refine AA ?_;refine AC ?_;refine AC ?_;refine AE ?_;refine AD ?_;refine AA ?_;refine AB ?_;refine AV ?_;refine C8 ?_; rintro _ _ ⟨b,rfl,rfl⟩;refine AC ?_;refine AE ?_;refine AD ?_;refine AA ?_;refine AB ?_;refine AB ?_;refine AB ?_
 revert b; intro bf
 refine BG (residual_spec ρ _ (.slice (some ⟨bf,0,none⟩) l.length l.length) n l hv rfl hn hl hok) rfl rfl takesZ rdZ rfl rfl ?_;rintro _ _ ⟨gb,b1,b2,γ,rfl,hG,rfl⟩;simp only [List.cons_append,List.nil_append];refine AC ?_;refine AE ?_;refine AP ?_
 refine BB [0,1,2,3,10,11] (List.replicate l.length (0:Int)) (fun fl=>Flw n l s t fl ∧ ∀ F,RunR n l s t fl F → RunR n l s t (List.replicate l.length 0) F) (fun _=>[])
  (fun fl=>[sng bf (.cells (ints fl) 3 (0,0)),γ,sng b1 (.cells #[.slice q l.length c] 67 (0,0)),sng b2 (.cells #[.slice (some ⟨bf,0,none⟩) l.length l.length] 22 (0,0))])
  (fun fl=>(1099511627776 * (2 * (l.length:Int)) - fval s l fl).toNat) pickZ ⟨flw_zeros hok,fun _ h=>h⟩ covZ selZ ?_
 rintro fl ⟨hF,hrun⟩
 have hrm:∀ v x,v < n → x ∈ insOf (rlinks l) v → Ans Tryz.prog (roomR b1 b2) [int x.k] [ρ,sng b1 (.cells #[.slice q l.length c] 67 (0,0)),sng b2 (.cells #[.slice (some ⟨bf,0,none⟩) l.length l.length] 22 (0,0)),sng bf (.cells (ints fl) 3 (0,0))] (fun r=>r = int (rmR l fl x.k)):=fun v x _ hx=>by
  have hm:x ∈ rlinks l:=by unfold insOf at hx; exact (List.mem_filter.1 hx).1
  exact residual1_spec ρ _ b1 b2 bf l.length l.length x.k _ _ _ l fl hv hF.len.symm rfl (rlinks_mem hok hm).2.2 hl hF.cap hcap
 refine AP ?_;refine AD ?_;refine AA ?_;refine AB ?_;refine AB ?_;refine AB ?_;refine BM (path_spec γ gb n s t (outsOf (rlinks l)) (insOf (rlinks l)) (roomR b1 b2) (rmR l fl) _ hG hGok hs ht hrm) rfl rfl rdZ rfl rfl ?_;rintro _ ρp ⟨D,pv,hD,rfl,hP⟩;rw [opens_opn hrl] at hD;rw [nxO_nxt] at hP
 by_cases h0:0 ≤ D.getD s 0
 rotate_left
 ·rw [decide_eq_false h0]
  refine AB ?_;refine AM ?_;refine AM ?_;refine AC ?_;refine AC ?_;refine AE ?_;refine AD ?_;refine AD ?_;refine AA ?_;refine AB ?_;refine BJ ?_;refine AE ?_;refine AO rfl ?_;refine AD ?_;refine AA ?_;refine AB ?_;refine AB ?_;refine AC ?_;refine AC ?_;refine AE ?_
  exact AI (res2 rfl rfl rfl) rsubZ selZ ⟨_,_,fl,rfl,bf,gb,b1,b2,γ,rfl,rfl,hG,hrun fl (.done hD (by omega)),rfl⟩
 rw [decide_eq_true h0]
 obtain ⟨hN1,hN2,hN3⟩:=rNext_ok hok hs hst hF hD h0
 obtain ⟨k0,hk0⟩:=Int.eq_ofNat_of_zero_le h0
 have hDn:=hD.lt (fun x hx=>hrl x hx.1) ht hs
 have hPl:(rP l fl D s).length = k0:=path_len hrl hD k0 s hs hk0
 have hPm:∀ x ∈ rP l fl D s,x ∈ rlinks l:=fun x hx=>((path_chn hrl hD k0 s hs hk0).all x hx).1.1
 have hroom:leastR (rmR l fl) (rP l fl D s) ≤ 1099511627776:=(leastR_le _ _ _).1
 have hIn:IntsAt ρp pv (ksOf (rP l fl D s)):=ownInts (e:=3) (by rw [show (ksOf (rP l fl D s)).length = (rP l fl D s).length from by simp [ksOf]]; exact hP)
 have hlst:=least_spec γ ρp gb (roomR b1 b2) pv (rmR l fl) _ (rP l fl D s) hG.r hIn (by omega) (fun x hx=>hrm x.t x (hrl x (hPm x hx)).2 (by unfold insOf; rw [List.mem_filter]; exact ⟨hPm x hx,by simp⟩))
 obtain ⟨q2,c2,rfl,hr2⟩:=hIn.val Eng.encI_len
 have hkl:(ksOf (rP l fl D s)).length = (rP l fl D s).length:=by simp [ksOf]
 have hmu:=fval_bd s l (rNext l fl D s) (inCap_small l _ hN1.len hN1.cap hok)
 rw [← hN1.len] at hmu;refine AB ?_;refine AM ?_;refine AM ?_;refine AC ?_;refine AC ?_;refine AE ?_;refine AD ?_;refine AD ?_;refine AA ?_;refine AB ?_;refine BJ ?_;refine AE ?_;refine AN rfl ?_;refine AK ?_;refine AD ?_;refine AA ?_;refine AB ?_;refine AB ?_;refine A4 hlst rfl rfl rdZ rfl rfl ?_;rintro _ rfl;refine AC ?_;refine AE ?_;refine AD ?_;refine AA ?_;refine AB ?_;refine AV ?_;refine AB ?_;refine AE ?_;refine AP ?_
 refine BB [0,1,2,3,10,11,14,38,39] (0:Nat) (fun i=>i ≤ (rP l fl D s).length) (fun i=>[(40,int i)])
  (fun i=>[sng bf (.cells (ints (augAll (leastR (rmR l fl) (rP l fl D s)) fl ((rP l fl D s).take i))) 3 (0,0)),γ,sng b1 (.cells #[.slice q l.length c] 67 (0,0)),sng b2 (.cells #[.slice (some ⟨bf,0,none⟩) l.length l.length] 22 (0,0)),ρp])
  (fun i=>(rP l fl D s).length - i) pickZ (by omega) covZ selZ ?_
 intro i hi
 by_cases hlt:i < (rP l fl D s).length
 ·have hx:(ksOf (rP l fl D s))[i]? = some ((rP l fl D s)[i].k:Int):=by simp [ksOf,hlt]
  obtain ⟨b,o,rfl,g0⟩:=hr2.int hx
  have hxm:=hPm _ (List.getElem_mem hlt)
  have hxk:=(rlinks_mem hok hxm).2.2
  have hal:(augAll (leastR (rmR l fl) (rP l fl D s)) fl ((rP l fl D s).take i)).length = l.length:=by rw [augAll_len]; exact hF.len.symm
  have hic:=inCap_get l _ (rTake_cap hok hs hF hD h0 i) ((rP l fl D s)[i].k / 2) (l[(rP l fl D s)[i].k / 2]'(by omega)) ((augAll (leastR (rmR l fl) (rP l fl D s)) fl ((rP l fl D s).take i)).getD ((rP l fl D s)[i].k / 2) 0) (List.getElem?_eq_getElem (by omega)) (by rw [List.getD_eq_getElem?_getD,List.getElem?_eq_getElem (by omega)]; rfl)
  have hcc:=hcap _ (List.getElem_mem (show (rP l fl D s)[i].k / 2 < l.length by omega))
  have hsn:=augAll_snoc (leastR (rmR l fl) (rP l fl D s)) fl ((rP l fl D s).take i) (rP l fl D s)[i]
  rw [← take_snoc' hlt] at hsn;unfold augR at hsn
  by_cases hp:(rP l fl D s)[i].k % 2 = 0
  ·rw [if_pos hp] at hsn
   refine AD ?_;refine AA ?_;refine BD ?_;refine AE ?_;refine AD ?_;refine AO rfl ?_;refine AK ?_;refine AD ?_;refine AP ?_;refine AD ?_;refine AA ?_;refine BQ ?_;refine AF ?_;refine AC ?_;refine AE ?_;refine AD ?_;refine AA ?_;refine AB ?_;refine EE ?_;refine CJ ?_;refine AE ?_;refine AO rfl ?_;refine AA ?_;refine AB ?_;refine AB ?_;refine ED ?_;refine BH ?_;refine AF ?_;refine AB ?_;refine CC ?_;refine BH ?_;refine CQ ?_; rintro _ _ ⟨rfl,rfl⟩;refine AE ?_;refine AZ ?_;refine AA ?_;refine A7 ?_;refine AB ?_;refine AE ?_
   refine AU (i + 1) (by omega) (by omega) covZ ?_
   rw [hsn];exact selZ
  ·rw [if_neg hp] at hsn
   refine AD ?_;refine AA ?_;refine BD ?_;refine AE ?_;refine AD ?_;refine AO rfl ?_;refine AK ?_;refine AD ?_;refine AP ?_;refine AD ?_;refine AA ?_;refine BQ ?_;refine AF ?_;refine AC ?_;refine AE ?_;refine AD ?_;refine AA ?_;refine AB ?_;refine EE ?_;refine B8 ?_;refine AE ?_;refine AN rfl ?_;refine AA ?_;refine AB ?_;refine AB ?_;refine ED ?_;refine BH ?_;refine AF ?_;refine AB ?_;refine CY ?_;refine BH ?_;refine CQ ?_; rintro _ _ ⟨rfl,rfl⟩;refine AE ?_;refine AZ ?_;refine AA ?_;refine A7 ?_;refine AB ?_;refine AE ?_
   refine AU (i + 1) (by omega) (by omega) covZ ?_
   rw [hsn];exact selZ
 ·refine AD ?_
  refine AA ?_;refine AY ?_;refine AE ?_;refine AD ?_;refine AN rfl ?_;refine A5 rfl ?_;refine AZ ?_
  refine AU (rNext l fl D s) ⟨hN1,fun F hR=>hrun F (.step hD h0 hR)⟩ (by omega) covZ ?_
  rw [List.take_of_length_le (by omega)]
  exact selZ
end Go.Proofs.YtphehihohghfoaaGreat
/- What is reached: a search by a queue. What Max and Cut hand back. No program in sight. No conditions. -/
namespace Go.Flow
def bget (B:List Bool) (v:Nat):Bool:=B.getD v false
theorem bget_set {B:List Bool} {i j:Nat} {x:Bool} (hi:i < B.length):bget (B.set i x) j = if i = j then x else bget B j:=by
  unfold bget;rw [List.getD_eq_getElem?_getD,List.getD_eq_getElem?_getD,List.getElem?_set]
  split
  · rename_i h; subst h; simp [hi]
  · rfl
theorem bget_rep (n v:Nat):bget (List.replicate n false) v = false:=by
  unfold bget;rw [List.getD_eq_getElem?_getD,List.getElem?_replicate]
  split <;> rfl
theorem bget_some {B:List Bool} {v:Nat} (h:v < B.length):B[v]? = some (bget B v):=by simp [bget,h]
structure RInv (n s:Nat) (E:Lk → Prop) (B:List Bool) (q:List Nat):Prop where
  len:B.length = n
  src:bget B s = true
  snd:∀ v,v < n → bget B v = true → Rch E s v
  qn:∀ v ∈ q,v < n ∧ bget B v = true
  cl:∀ u,u < n → bget B u = true → u ∉ q → ∀ x,E x → x.f = u → bget B x.t = true
structure RVInv (n s:Nat) (E:Lk → Prop) (B:List Bool) (v:Nat) (q:List Nat) (pre:List Lk):Prop where
  len:B.length = n
  src:bget B s = true
  snd:∀ v,v < n → bget B v = true → Rch E s v
  vn:v < n
  v0:bget B v = true
  qn:∀ v ∈ q,v < n ∧ bget B v = true
  cl:∀ u,u < n → bget B u = true → u ∉ q → u ≠ v → ∀ x,E x → x.f = u → bget B x.t = true
  pre0:∀ x ∈ pre,bget B x.t = true
section
variable {n s:Nat} {E:Lk → Prop} {B:List Bool}
theorem RInv.start (hs:s < n):RInv n s E ((List.replicate n false).set s true) [s]:=by
  have hg:∀ v,bget ((List.replicate n false).set s true) v = true → v = s:=fun v h=>by
    rw [bget_set (by simpa using hs),bget_rep] at h
    split at h
    · rename_i e; exact e.symm
    · simp at h
  refine ⟨by simp,by rw [bget_set (by simpa using hs)]; simp,fun v _ h=>by rw [hg v h]; exact .refl,fun v hv=>?_,fun u _ h hq=>?_⟩
  · simp at hv; subst hv
    exact ⟨hs,by rw [bget_set (by simpa using hs)]; simp⟩
  · exact absurd (by rw [hg u h]; simp) hq
theorem RInv.take {v:Nat} {q:List Nat} (h:RInv n s E B (v :: q)):RVInv n s E B v q []:=
  ⟨h.len,h.src,h.snd,(h.qn v (by simp)).1,(h.qn v (by simp)).2,fun u hu=>h.qn u (by simp [hu]),fun u hu hb hq hne=>h.cl u hu hb (by simp [hq,hne]),by simp⟩
theorem RVInv.seen {v:Nat} {q:List Nat} {pre:List Lk} {x:Lk} (h:RVInv n s E B v q pre) (hx:bget B x.t = true):RVInv n s E B v q (pre ++ [x]):=
  ⟨h.len,h.src,h.snd,h.vn,h.v0,h.qn,h.cl,fun y hy=>by
    rcases List.mem_append.1 hy with hy | hy
    · exact h.pre0 y hy
    · rw [List.mem_singleton.1 hy]; exact hx⟩
theorem RVInv.push {v:Nat} {q:List Nat} {pre:List Lk} {x:Lk} (h:RVInv n s E B v q pre) (hE:E x) (hxt:x.t < n) (hxf:x.f = v):RVInv n s E (B.set x.t true) v (q ++ [x.t]) (pre ++ [x]):=by
  have hl:x.t < B.length:=by rw [h.len]; exact hxt
  have hg:∀ u,bget B u = true → bget (B.set x.t true) u = true:=fun u hu=>by rw [bget_set hl]; split <;> simp [hu]
  refine ⟨by simp [h.len],hg _ h.src,fun u hu hb=>?_,h.vn,hg _ h.v0,fun u hu=>?_,fun u hu hb hq hne y hy hyf=>?_,fun y hy=>?_⟩
  · rw [bget_set hl] at hb
    split at hb
    · rename_i e; rw [← e]
      exact .step (by rw [hxf]; exact h.snd v h.vn h.v0) hE
    · exact h.snd u hu hb
  · rcases List.mem_append.1 hu with hu | hu
    · exact ⟨(h.qn u hu).1,hg _ (h.qn u hu).2⟩
    · rw [List.mem_singleton.1 hu]
      exact ⟨hxt,by rw [bget_set hl]; simp⟩
  · simp only [List.mem_append,List.mem_singleton,not_or] at hq
    rw [bget_set hl] at hb
    split at hb
    · rename_i e; exact absurd e.symm hq.2
    · exact hg _ (h.cl u hu hb hq.1 hne y hy hyf)
  · rcases List.mem_append.1 hy with hy | hy
    · exact hg _ (h.pre0 y hy)
    · rw [List.mem_singleton.1 hy,bget_set hl]; simp
theorem RVInv.done {v:Nat} {q:List Nat} {pre:List Lk} (h:RVInv n s E B v q pre) (hall:∀ x,E x → x.f = v → x ∈ pre):RInv n s E B q:=
  ⟨h.len,h.src,h.snd,h.qn,fun u hu hb hq x hx hxf=>by
    by_cases e:u = v
    · subst e; exact h.pre0 x (hall x hx hxf)
    · exact h.cl u hu hb hq e x hx hxf⟩
theorem RInv.reach (hE:∀ x,E x → x.f < n ∧ x.t < n) (hs:s < n) (h:RInv n s E B []):IsReach n E s (bget B):=by
  intro v hv
  refine ⟨h.snd v hv,fun hr=>?_⟩
  exact hr.sub h.src (fun x hx hb=>h.cl x.f (hE x hx).1 hb (by simp) x hx rfl)
end
def unm (B:List Bool):Nat:=(B.filter (fun b=>!b)).length
theorem unm_set:∀ {B:List Bool} {i:Nat},i < B.length → bget B i = false → unm (B.set i true) + 1 = unm B
  | [],i,h,_=>by simp at h
  | b :: B,0,h,hb=>by
    simp [bget] at hb; subst hb
    simp [unm]
  | b :: B,i + 1,h,hb=>by
    have:=unm_set (B:=B) (i:=i) (by simpa using h) (by simpa [bget] using hb)
    unfold unm at this ⊢
    cases b <;> simp <;> omega
def sideOf (B:List Bool) (k:Nat):List Int:=((List.range k).filter (fun v=>bget B v)).map (fun (v:Nat)=>(v:Int))
theorem sideOf_succ (B:List Bool) (k:Nat):sideOf B (k + 1) = sideOf B k ++ (if bget B k = true then [(k:Int)] else []):=by
  unfold sideOf;rw [List.range_succ,List.filter_append,List.map_append]
  congr 1
  cases h:bget B k <;> simp [h]
theorem sideOf_len (B:List Bool) (k:Nat):(sideOf B k).length ≤ k:=by
  unfold sideOf;rw [List.length_map]
  have:=List.length_filter_le (fun v=>bget B v) (List.range k)
  simpa using this
theorem mem_sideOf {B:List Bool} {k:Nat} {x:Int}:x ∈ sideOf B k ↔ ∃ v:Nat,x = v ∧ v < k ∧ bget B v = true:=by
  unfold sideOf;rw [List.mem_map]
  constructor
  · rintro ⟨v,hv,rfl⟩
    rw [List.mem_filter] at hv
    exact ⟨v,rfl,by simpa using hv.1,hv.2⟩
  · rintro ⟨v,rfl,h1,h2⟩
    exact ⟨v,by rw [List.mem_filter]; exact ⟨by simpa using h1,h2⟩,rfl⟩
theorem capOf_congr {n:Nat} {p q:Nat → Bool} (h:∀ v,v < n → p v = q v):∀ l:List Arc,(∀ a ∈ l,okArc n a = true) → capOf p l = capOf q l
  | [],_=>rfl
  | a :: l,hok=>by
    obtain ⟨g1,g2,g3,g4,_⟩:=okArc_iff.1 (hok a (by simp))
    simp only [capOf]
    rw [capOf_congr h l (fun b hb=>hok b (by simp [hb])),h a.f.toNat (by omega),h a.t.toNat (by omega)]
def maxErr (n:Int) (l:List Arc) (s t:Int):Int:=if chk n l ≠ 0 then chk n l else if okEnds n s t = true then 0 else 2
def MaxOK (n:Int) (l:List Arc) (s t:Int) (F:List Int) (m e:Int):Prop:=
  (maxErr n l s t ≠ 0 ∧ e = maxErr n l s t ∧ F = [] ∧ m = 0) ∨
  (maxErr n l s t = 0 ∧ e = 0 ∧ RunR n.toNat l s.toNat t.toNat (List.replicate l.length 0) F ∧ m = fval s l F)
def CutOK (n:Int) (l:List Arc) (s t:Int) (side:List Int) (c e:Int):Prop:=
  (maxErr n l s t ≠ 0 ∧ e = maxErr n l s t ∧ side = [] ∧ c = 0) ∨
  (maxErr n l s t = 0 ∧ e = 0 ∧ ∃ F B,RunR n.toNat l s.toNat t.toNat (List.replicate l.length 0) F ∧ IsReach n.toNat (rE l F) s.toNat (bget B) ∧ side = sideOf B n.toNat ∧ c = capOf (bget B) l)
structure Good (n:Int) (l:List Arc) (s t:Int) (n' s' t':Nat):Prop where
  en:n = n'
  es:s = s'
  et:t = t'
  sn:s' < n'
  tn:t' < n'
  ne:s' ≠ t'
  n2:n' ≤ 2000
  l2:l.length ≤ 20000
  ok:∀ a ∈ l,okArc n' a = true
  chk:Flow.chk n l = 0
  ends:okEnds n s t = true
theorem maxErr_good {n s t:Int} {l:List Arc} (h:maxErr n l s t = 0):∃ n' s' t':Nat,Good n l s t n' s' t':=by
  unfold maxErr at h
  split at h
  · rename_i h1; exact absurd h h1
  · rename_i h1
    split at h
    · rename_i h2
      have hc:Flow.chk n l = 0:=by omega
      obtain ⟨a1,a2,a3,a4⟩:=chk_ok hc
      obtain ⟨b1,b2,b3,b4,b5⟩:=okEnds_iff.1 h2
      refine ⟨n.toNat,s.toNat,t.toNat,⟨by omega,by omega,by omega,by omega,by omega,by omega,by omega,a3,?_,hc,h2⟩⟩
      have e:((n.toNat:Nat):Int) = n:=by omega
      rw [e]; exact a4
    · simp at h
theorem MaxOK.uniq {n s t:Int} {l:List Arc} {F G:List Int} {m k e f:Int} (h1:MaxOK n l s t F m e) (h2:MaxOK n l s t G k f):F = G ∧ m = k ∧ e = f:=by
  rcases h1 with ⟨a1,a2,a3,a4⟩ | ⟨a1,a2,a3,a4⟩ <;> rcases h2 with ⟨b1,b2,b3,b4⟩ | ⟨b1,b2,b3,b4⟩
  · exact ⟨by rw [a3,b3],by rw [a4,b4],by rw [a2,b2]⟩
  · exact absurd b1 a1
  · exact absurd a1 b1
  · obtain ⟨n',s',t',g⟩:=maxErr_good a1
    obtain ⟨rfl,rfl,rfl⟩:=And.intro g.en (And.intro g.es g.et)
    simp only [Int.toNat_natCast] at a3 b3
    have e:=a3.uniq g.ok b3
    subst e
    exact ⟨rfl,by rw [a4,b4],by rw [a2,b2]⟩
theorem sideOf_congr {B C:List Bool} {n:Nat} (h:∀ v,v < n → bget B v = bget C v):sideOf B n = sideOf C n:=by
  unfold sideOf
  congr 1
  apply List.filter_congr
  intro v hv
  exact h v (by simpa using hv)
theorem reach_uniq {n s:Nat} {E:Lk → Prop} {p q:Nat → Bool} (h1:IsReach n E s p) (h2:IsReach n E s q):∀ v,v < n → p v = q v:=fun v hv=>by
  have a:=h1 v hv
  have b:=h2 v hv
  cases e1:p v <;> cases e2:q v <;> simp_all
theorem CutOK.uniq {n s t:Int} {l:List Arc} {F G:List Int} {m k e f:Int} (h1:CutOK n l s t F m e) (h2:CutOK n l s t G k f):F = G ∧ m = k ∧ e = f:=by
  rcases h1 with ⟨a1,a2,a3,a4⟩ | ⟨a1,a2,F1,B1,r1,i1,d1,c1⟩ <;> rcases h2 with ⟨b1,b2,b3,b4⟩ | ⟨b1,b2,F2,B2,r2,i2,d2,c2⟩
  · exact ⟨by rw [a3,b3],by rw [a4,b4],by rw [a2,b2]⟩
  · exact absurd b1 a1
  · exact absurd a1 b1
  · obtain ⟨n',s',t',g⟩:=maxErr_good a1
    obtain ⟨rfl,rfl,rfl⟩:=And.intro g.en (And.intro g.es g.et)
    simp only [Int.toNat_natCast] at *
    have e:=r1.uniq g.ok r2
    subst e
    have hb:=reach_uniq i1 i2
    exact ⟨by rw [d1,d2]; exact sideOf_congr hb,by rw [c1,c2]; exact capOf_congr hb l g.ok,by rw [a2,b2]⟩
end Go.Flow
namespace Go.Flow
theorem unm_rep (n:Nat):unm (List.replicate n false) = n:=by
  unfold unm;rw [List.filter_replicate]
  simp
theorem unm_start {n s:Nat} (hs:s < n):unm ((List.replicate n false).set s true) + 1 = n:=by
  have:=unm_set (B:=List.replicate n false) (i:=s) (by simpa using hs) (bget_rep n s)
  rw [unm_rep] at this;exact this
end Go.Flow
/- Max and Cut of the program. -/
namespace Go.Proofs.YtphehihohghfoaaGreat
open Go.Eng Go.Flow
set_option maxRecDepth 100000
set_option maxHeartbeats 4000000

theorem flowMax_spec (ρ:PH) (v:Value) (n s t:Int) (l:List Arc) (hv:ArcsAt ρ v l) (hl:l.length ≤ 1000000) :
  Makes Tryz.prog (fv 51) [int n,v,int s,int t] [ρ] (fun r σ=>∃ fs F m e,r = .tuple #[fs,int m,int e] ∧ IntsAt σ fs F ∧ MaxOK n l s t F m e):=by
 have hnil:IntsAt emp (.slice none 0 0) []:=⟨rfl,.inl ⟨rfl,none,0,rfl⟩⟩
 refine spec_in (cap:=[]) Tryz.func51 rfl rfl Tryz.ntmps51 rfl envZ (fun N β=>?_)
 refine AD ?_;refine AA ?_;refine AC ?_;refine AC ?_;refine AC ?_;refine AE ?_;refine AD ?_;refine AD ?_;refine AA ?_;refine AB ?_;refine AB ?_
 focus ((refine A4 (check_spec ρ v n l hv hl) rfl rfl rdZ rfl rfl ?_; rintro _ rfl))
 refine AC ?_;refine AE ?_;refine AD ?_;refine AA ?_;refine AB ?_
 by_cases hc:chk n l = 0
 rotate_left
 ·refine CG ?_
  refine AE ?_;refine AO rfl ?_;refine AD ?_;refine AA ?_;refine AB ?_;refine AC ?_;refine AC ?_;refine AC ?_;refine AE ?_;refine BV ?_
  exact AI (res3 rfl rfl rfl rfl) rsubZ selZ ⟨emp,⟨_,[],0,_,rfl,hnil,.inl ⟨by unfold maxErr; rw [if_pos hc]; exact hc,by unfold maxErr; rw [if_pos hc],rfl,rfl⟩⟩,rfl⟩
 refine BE ?_;refine AE ?_;refine AN rfl ?_;refine AK ?_;refine AD ?_;refine AD ?_;refine AA ?_;refine AB ?_;refine AB ?_;refine AB ?_
 focus ((refine A4 (ends_spec _ _ _) rfl rfl rdZ rfl rfl ?_; rintro _ rfl))
 refine AC ?_;refine AE ?_;refine AD ?_;refine AA ?_;refine AB ?_
 have hme:maxErr n l s t = if okEnds n s t = true then 0 else 2:=by unfold maxErr; rw [if_neg (by rw [hc]; simp)]
 cases he:okEnds n s t with
 | false =>
  rw [he] at hme;simp only [Bool.false_eq_true,if_false] at hme ⊢;refine CG ?_;refine AE ?_;refine AO rfl ?_;refine AD ?_;refine AA ?_;refine AB ?_;refine AC ?_;refine AC ?_;refine AC ?_;refine AE ?_;refine BV ?_
  exact AI (res3 rfl rfl rfl rfl) rsubZ selZ ⟨emp,⟨_,[],0,_,rfl,hnil,.inl ⟨by rw [hme]; simp,by rw [hme],rfl,rfl⟩⟩,rfl⟩
 | true =>
  rw [he] at hme;simp only [if_true] at hme ⊢
  obtain ⟨n',s',t',g⟩:=maxErr_good hme
  obtain ⟨rfl,rfl,rfl⟩:=And.intro g.en (And.intro g.es g.et)
  refine BE ?_;refine AE ?_;refine AN rfl ?_;refine AK ?_;refine AD ?_;refine AA ?_;refine AB ?_;refine AB ?_;refine AB ?_;refine AB ?_;refine BG (maximum_spec ρ v n' l s' t' hv g.n2 g.l2 g.ok g.sn g.tn g.ne) rfl rfl takesZ rdZ rfl rfl ?_;rintro _ _ ⟨_,_,F,rfl,bf,gb,b1,b2,γ,rfl,rfl,_,hR,rfl⟩
  have hF:=(hR.flw g.ok g.sn g.ne (flw_zeros g.ok)).1
  have hIn:IntsAt (sng bf (.cells (ints F) 3 (0,0))) (.slice (some ⟨bf,0,none⟩) l.length l.length) F:=by rw [hF.len]; exact intsAt_sng
  simp only [List.cons_append,List.nil_append];refine AB ?_;refine AM ?_;refine AM ?_;refine AC ?_;refine AC ?_;refine AE ?_;refine AD ?_;refine AA ?_;refine AB ?_;refine AB ?_;refine AB ?_;refine AB ?_;refine A4 (value_spec ρ _ v _ s' l F hv hIn g.l2 hF.len.symm (inCap_small l F hF.len hF.cap g.ok)) rfl rfl rdZ rfl rfl ?_;rintro _ rfl;refine AC ?_;refine AC ?_;refine AC ?_;refine AE ?_;exact AI (res3 rfl rfl rfl rfl) rsubZ selZ ⟨_,⟨_,F,_,_,rfl,hIn,.inr ⟨hme,rfl,hR,rfl⟩⟩,rfl⟩

set_option maxHeartbeats 8000000 in
theorem flowCut_spec (ρ:PH) (v:Value) (n s t:Int) (l:List Arc) (hv:ArcsAt ρ v l) (hl:l.length ≤ 1000000) :
  Makes Tryz.prog (fv 30) [int n,v,int s,int t] [ρ] (fun r σ=>∃ fs side c e,r = .tuple #[fs,int c,int e] ∧ IntsAt σ fs side ∧ CutOK n l s t side c e):=by
 have hnil:IntsAt emp (.slice none 0 0) []:=⟨rfl,.inl ⟨rfl,none,0,rfl⟩⟩
 refine spec_in (cap:=[]) Tryz.func30 rfl rfl Tryz.ntmps30 rfl envZ (fun N β=>?_)
 refine AD ?_;refine AA ?_;refine AC ?_;refine AC ?_;refine AC ?_;refine AE ?_;refine AD ?_;refine AD ?_;refine AA ?_;refine AB ?_;refine AB ?_
 focus ((refine A4 (check_spec ρ v n l hv hl) rfl rfl rdZ rfl rfl ?_; rintro _ rfl))
 refine AC ?_;refine AE ?_;refine AD ?_;refine AA ?_;refine AB ?_
 by_cases hc:chk n l = 0
 rotate_left
 ·refine CG ?_
  refine AE ?_;refine AO rfl ?_;refine AD ?_;refine AA ?_;refine AB ?_;refine AC ?_;refine AC ?_;refine AC ?_;refine AE ?_;refine BV ?_
  exact AI (res3 rfl rfl rfl rfl) rsubZ selZ ⟨emp,⟨_,[],0,_,rfl,hnil,.inl ⟨by unfold maxErr; rw [if_pos hc]; exact hc,by unfold maxErr; rw [if_pos hc],rfl,rfl⟩⟩,rfl⟩
 refine BE ?_;refine AE ?_;refine AN rfl ?_;refine AK ?_;refine AD ?_;refine AD ?_;refine AA ?_;refine AB ?_;refine AB ?_;refine AB ?_
 focus ((refine A4 (ends_spec _ _ _) rfl rfl rdZ rfl rfl ?_; rintro _ rfl))
 refine AC ?_;refine AE ?_;refine AD ?_;refine AA ?_;refine AB ?_
 have hme:maxErr n l s t = if okEnds n s t = true then 0 else 2:=by unfold maxErr; rw [if_neg (by rw [hc]; simp)]
 cases he:okEnds n s t with
 | false =>
  rw [he] at hme;simp only [Bool.false_eq_true,if_false] at hme ⊢;refine CG ?_;refine AE ?_;refine AO rfl ?_;refine AD ?_;refine AA ?_;refine AB ?_;refine AC ?_;refine AC ?_;refine AC ?_;refine AE ?_;refine BV ?_
  exact AI (res3 rfl rfl rfl rfl) rsubZ selZ ⟨emp,⟨_,[],0,_,rfl,hnil,.inl ⟨by rw [hme]; simp,by rw [hme],rfl,rfl⟩⟩,rfl⟩
 | true =>
  rw [he] at hme;simp only [if_true] at hme ⊢
  obtain ⟨n',s',t',g⟩:=maxErr_good hme
  obtain ⟨rfl,rfl,rfl⟩:=And.intro g.en (And.intro g.es g.et)
  have hrep:(List.replicate n' false).length = n':=by simp
  have hn2:=g.n2
  have hsn:=g.sn
  have hrl:=rl_lt g.ok
  have hGok:GOk n' (outsOf (rlinks l)) (insOf (rlinks l)):=GOk_of g.n2 (by rw [rlinks_len]; have:=g.l2; omega) (fun x hx=>by have:=rlinks_mem g.ok hx; have:=g.l2; omega)
  have hcap:∀ a ∈ l,0 ≤ a.c ∧ a.c ≤ 1099511627776:=fun a ha=>by have:=okArc_iff.1 (g.ok a ha); omega
  refine BE ?_;refine AE ?_;refine AN rfl ?_;refine AK ?_;refine AD ?_;refine AA ?_;refine AB ?_;refine AB ?_;refine AB ?_;refine AB ?_;refine BG (maximum_spec ρ v n' l s' t' hv g.n2 g.l2 g.ok g.sn g.tn g.ne) rfl rfl takesZ rdZ rfl rfl ?_;rintro _ _ ⟨_,_,F,rfl,bf,gb,b1,b2,γ,rfl,rfl,hG,hR,rfl⟩
  have hF:=(hR.flw g.ok g.sn g.ne (flw_zeros g.ok)).1
  obtain ⟨ob,oc,ho,hol⟩:=hG.o
  have hrm:∀ x,x ∈ rlinks l → Ans Tryz.prog (roomR b1 b2) [int x.k] [ρ,sng b1 (.cells #[v] 67 (0,0)),sng b2 (.cells #[.slice (some ⟨bf,0,none⟩) l.length l.length] 22 (0,0)),sng bf (.cells (ints F) 3 (0,0))] (fun r=>r = int (rmR l F x.k)):=fun x hx =>
   residual1_spec ρ _ b1 b2 bf l.length l.length x.k _ _ _ l F hv hF.len.symm rfl (rlinks_mem g.ok hx).2.2 g.l2 hF.cap hcap
  simp only [List.cons_append,List.nil_append];refine AS (ρ:=sng bf _) takeZ ?_;refine AS (ρ:=γ) takeZ ?_;refine AS (ρ:=sng b1 _) takeZ ?_;refine AS (ρ:=sng b2 _) takeZ ?_;refine AB ?_;refine AM ?_;refine AM ?_;refine AC ?_;refine AC ?_;refine AE ?_;refine AD ?_;refine AA ?_;refine AB ?_;refine D6 ?_; rintro _ _ ⟨b,rfl,rfl⟩;refine B6 ?_; rintro _ _ ⟨b,rfl,rfl⟩;refine BF ?_; rintro _ _ ⟨rfl,rfl⟩;refine AE ?_;refine AD ?_;refine AA ?_;refine AF ?_;refine AB ?_;refine BH ?_;refine CZ ?_; rintro _ _ ⟨rfl,rfl⟩;refine AE ?_;refine AD ?_;refine AD ?_;refine AA ?_;refine AB ?_;refine A9 ?_; rintro _ _ ⟨b,rfl,rfl⟩;refine B6 ?_; rintro _ _ ⟨b,rfl,rfl⟩;refine BF ?_; rintro _ _ ⟨rfl,rfl⟩;refine AE ?_;refine AP ?_
  rename_i bm bB bi
  revert b; intro bq
  have hq0:OwnO 3 1 (.slice (some ⟨bi,0,none⟩) 1 1) 1 [int s'] (sng bi (.cells [int (s':Int)].toArray 3 (0,0))):=OwnS.ownO (n:=1) rfl (by simp [maxLen])
  refine BV ?_
  refine D5 [0,1,2,3,14,15] ((((List.replicate n' false).set s' true,[s']),((.slice (some ⟨bi,0,none⟩) 1 1,sng bi (.cells [int (s':Int)].toArray 3 (0,0))),bq)),([],emp)) (X:=((List Bool × List Nat) × ((Value × PH) × Nat)) × (List Nat × PH))
   (fun x=>x.2.1.map mk) (fun x=>RInv n' s' (rE l F) x.1.1.1 x.1.1.2 ∧ OwnO 3 1 x.1.2.1.1 x.1.1.2.length (qInts x.1.1.2) x.1.2.1.2 ∧ x.1.1.2.length + unm x.1.1.1 ≤ n' ∧ MkIn x.2.2 x.2.1)
   (fun x=>[(16,.pointer (some ⟨x.1.2.2,0,none⟩))]) (fun x=>[sng bB (.cells #[.slice (some ⟨bm,0,none⟩) n' n'] 113 (0,0)),sng bm (.cells (bools x.1.1.1) 4 (0,0)),sng x.1.2.2 (.cells #[x.1.2.1.1] 22 (0,0)),x.1.2.1.2,x.2.2]) (fun x=>2 * unm x.1.1.1 + x.1.1.2.length)
   pickZ rfl ⟨RInv.start hsn,hq0,by have:=unm_start hsn; dsimp only [List.length_singleton]; omega,MkIn.nil⟩ covZ selZ ?_
  rintro ⟨⟨⟨B,q⟩,⟨⟨qv,ρq⟩,bq2⟩⟩,⟨ms,μ⟩⟩ ⟨hB,hQ,hql,hM⟩
  dsimp only at hB hQ hql hM ⊢
  have hBl:=hB.len
  cases q with
  | nil =>
   have hQ':OwnO 3 1 qv 0 [] ρq:=hQ
   obtain ⟨_,b1',o1,cap1,cur1,rfl,rfl,_⟩:=hQ'
   have hreach:=hB.reach (fun x hx=>hrl x hx.1) hsn
   refine BV ?_;refine AD ?_;refine AD ?_;refine AA ?_;refine AF ?_;refine AV ?_;refine B4 ?_;refine AE ?_;refine AN rfl ?_;refine A5 rfl ?_;refine AD ?_;refine AA ?_;refine AC ?_;refine AE ?_;refine AD ?_;refine AD ?_;refine AA ?_;refine AF ?_;refine AV ?_;refine AB ?_;refine AE ?_;refine AP ?_
   refine BB [0,1,15,82,83] (X:=Nat × (Value × PH)) (0,(.slice none 0 0,emp)) (fun x=>x.1 ≤ n' ∧ OwnS 3 1 x.2.1 (sideOf B x.1).length ((sideOf B x.1).map int) x.2.2) (fun x=>[(18,x.2.1),(84,int x.1)])
    (fun x=>[sng bB (.cells #[.slice (some ⟨bm,0,none⟩) n' n'] 113 (0,0)),sng bm (.cells (bools B) 4 (0,0)),x.2.2,μ]) (fun x=>n' - x.1) pickZ ⟨by dsimp only; omega,OwnS.nil _ _⟩ covZ selZ ?_
   rintro ⟨k,⟨sv,ρs⟩⟩ ⟨hk,hS⟩
   dsimp only at hk hS ⊢
   have hsl:=sideOf_len B k
   have hsu:=sideOf_succ B k
   by_cases hlt:k < n'
   ·have hbk:=bget_some (B:=B) (v:=k) (by omega)
    cases hb:bget B k with
    | true =>
     rw [hb] at hbk hsu;rw [if_pos rfl] at hsu;refine AD ?_;refine AA ?_;refine BD ?_;refine AE ?_;refine AD ?_;refine AO rfl ?_;refine AK ?_;refine AD ?_;refine AP ?_;refine AD ?_;refine AA ?_;refine AB ?_;refine BH ?_;refine AF ?_;refine AC ?_;refine AC ?_;refine AE ?_;refine AD ?_;refine AA ?_;refine AB ?_;refine AE ?_;refine AO rfl ?_;refine AA ?_;refine AB ?_;refine AB ?_;refine A9 ?_; rintro _ _ ⟨b,rfl,rfl⟩
     refine BI (BP (by_:=8) (s:=1) (news:=[int (k:Int)]) rfl rfl rfl rfl rfl rfl rfl hS takeZ (cells_own memZ) rfl (by (repeat (first | exact (fun v hv=>absurd hv List.not_mem_nil) | (refine List.forall_mem_cons.2 ⟨?_,?_⟩; (focus (first | exact rfl | assumption))))); first | done | fail) (by omega) (by simp only [maxLen]; omega) (by omega)) rfl rfl rfl ?_
     rintro q9 _ ⟨ρ3,hQ3,rfl⟩;refine AC ?_;refine AE ?_;refine AZ ?_;refine AA ?_;refine A7 ?_;refine AB ?_;refine AE ?_
     refine AU (k + 1,(q9,ρ3)) ⟨by dsimp only; omega,?_⟩ (by dsimp only; omega) covZ selZ
     dsimp only
     rw [hsu,List.map_append,List.length_append];exact hQ3
    | false =>
     rw [hb] at hbk hsu
     rw [if_neg (by simp),List.append_nil] at hsu
     refine AD ?_;refine AA ?_;refine BD ?_;refine AE ?_;refine AD ?_;refine AO rfl ?_;refine AK ?_;refine AD ?_;refine AP ?_;refine AD ?_;refine AA ?_;refine AB ?_;refine BH ?_;refine AF ?_;refine AC ?_;refine AC ?_;refine AE ?_;refine AD ?_;refine AA ?_;refine AB ?_;refine AE ?_;refine AN rfl ?_;refine AK ?_;refine AZ ?_;refine AA ?_;refine A7 ?_;refine AB ?_;refine AE ?_
     refine AU (k + 1,(sv,ρs)) ⟨by dsimp only; omega,?_⟩ (by dsimp only; omega) covZ selZ
     dsimp only
     rw [hsu];exact hS
   ·obtain rfl:k = n':=by omega
    refine AD ?_;refine AA ?_;refine AY ?_;refine AE ?_;refine AD ?_;refine AN rfl ?_;refine A5 rfl ?_;refine AD ?_;refine AA ?_;refine AB ?_;refine AB ?_;refine AF ?_;refine A4 (capacity_spec ρ v k bm k 4 l B hv g.l2 g.ok hBl) rfl rfl rdZ rfl rfl ?_;rintro _ rfl;refine AC ?_;refine AC ?_;refine AC ?_;refine AE ?_;exact D3 hM takeZ (res3 rfl rfl rfl rfl) rsubZ selZ ⟨_,⟨sv,sideOf B k,_,_,rfl,ownInts (e:=3) hS,.inr ⟨hme,rfl,F,B,hR,hreach,rfl,rfl⟩⟩,rfl⟩
  | cons v1 q =>
   have hQ':OwnO 3 1 qv (q.length + 1) (int v1 :: qInts q) ρq:=hQ
   have hV0:=hB.take
   have hvn:=hV0.vn
   obtain ⟨lv,hlv,hls⟩:=hol v1 hvn
   obtain ⟨b1',o1,cap1,rfl,hh0,_⟩:=hQ'.head
   simp only [List.length_cons] at hql ⊢;refine AD ?_;refine AD ?_;refine AA ?_;refine AF ?_;refine AV ?_;refine CP ?_;refine AE ?_;refine AO rfl ?_;refine AK ?_;refine AD ?_;refine AP ?_;refine AD ?_
   refine A6 (.q 0 (.q 1 (.q 2 (.q 3 (.q 4 (.q 5 (.q 6 (.q 7 (.q 8 (.q 9 (.l 10 .e .nil))))))))))) [] rfl (by kernel_rfl) selZ ?_
   refine AJ ?_;refine AJ ?_;refine BA ?_;refine A0 ?_;refine AR ?_;refine AR ?_;refine G4 ?_;refine AR ?_;refine B7 ?_;refine AR ?_;refine CL (DW rfl (open_spec _ _ (SlE.one hls) rfl) rfl rfl rdZ rfl rfl ?_);rintro _ _ ⟨bl,bg,rfl,rfl⟩;simp only [List.cons_append,List.nil_append];refine A8 ?_;refine AS (ρ:=sng bl _) takeZ ?_;refine AS (ρ:=sng bg _) takeZ ?_;refine AP ?_
   refine DD (gf:=97) (cap:=[.pointer (some ⟨bl,0,none⟩),.pointer (some ⟨bg,0,none⟩)]) (ps:=[65]) (X:=(List Bool × List Nat) × (Value × PH)) rfl Tryz.func97 rfl rfl
    (open_iter γ gb bl bg lv (roomR b1 b2) (outsOf (rlinks l) v1) (rmR l F) _ hls (by have:=(hGok.len v1).1; omega) hG.r (fun x hx=>hrm x (by unfold outsOf at hx; exact (List.mem_filter.1 hx).1))) ?_
    (fun i x=>RVInv n' s' (rE l F) x.1.1 v1 x.1.2 ((openL (rmR l F) (outsOf (rlinks l) v1)).take i) ∧ OwnO 3 1 x.2.1 (x.1.2.length + 1) (int v1 :: qInts x.1.2) x.2.2 ∧ x.1.2.length + unm x.1.1 + 1 ≤ n' ∧ 2 * unm x.1.1 + x.1.2.length ≤ 2 * unm B + q.length)
    (fun x=>[sng bB (.cells #[.slice (some ⟨bm,0,none⟩) n' n'] 113 (0,0)),sng bm (.cells (bools x.1.1) 4 (0,0)),sng bq2 (.cells #[x.2.1] 22 (0,0)),x.2.2])
    (fun _ _=>False) ((B,q),(.slice (some ⟨b1',o1,none⟩) (q.length + 1) cap1,ρq)) rfl takesZ ⟨by simpa using hV0,hQ',by dsimp only; omega,by dsimp only; omega⟩ ?_ ?_ ?_
   ·intro σ hσ
    simp only [List.cons_append,List.nil_append,List.mem_cons,List.not_mem_nil,or_false] at hσ ⊢
    rcases hσ with h | h | h | h | h | h | h <;> simp [h]
   ·rintro lp r i ⟨⟨B1,q1⟩,⟨qv2,ρ2⟩⟩ vs hvs ⟨hV,hQ2,hlq,hms⟩ hps has hbd hst hpe hfr
    dsimp only at hV hQ2 hlq hms ⊢
    obtain ⟨st,pe,fnn,tm,prm,asg,bdy,df⟩:=r
    simp only at hps has hbd hst hpe hfr;subst hps has hbd hst hpe;rw [List.getElem?_map] at hvs
    obtain ⟨x,hx,rfl⟩:=Option.map_eq_some_iff.1 hvs
    have hlt:i < (openL (rmR l F) (outsOf (rlinks l) v1)).length:=(List.getElem?_eq_some_iff.1 hx).1
    have hxe:(openL (rmR l F) (outsOf (rlinks l) v1))[i] = x:=(List.getElem?_eq_some_iff.1 hx).2
    have hxm:x ∈ openL (rmR l F) (outsOf (rlinks l) v1):=List.mem_of_getElem? hx
    have hxi:(x ∈ rlinks l ∧ x.f = v1) ∧ 0 < rmR l F x.k:=by
     unfold openL outsOf at hxm
     obtain ⟨k1,k2⟩:=List.mem_filter.1 hxm
     obtain ⟨k3,k4⟩:=List.mem_filter.1 k1
     exact ⟨⟨k3,by simpa using k4⟩,by simpa using k2⟩
    have hxt:=(hrl x hxi.1.1).2
    have htk:(openL (rmR l F) (outsOf (rlinks l) v1)).take (i + 1) = (openL (rmR l F) (outsOf (rlinks l) v1)).take i ++ [x]:=by rw [take_snoc' hlt,hxe]
    have hBl1:B1.length = n':=hV.len
    have hbx:=bget_some (B:=B1) (v:=x.t) (by omega)
    refine yield_spec hfr rfl (by intro p hp; simp at hp; omega) putiZ (fun N' β'=>?_)
    unfold encL;refine AA ?_;refine A2 ?_; rintro _ _ ⟨b,rfl,rfl⟩;refine AX ?_; rintro _ _ ⟨rfl,rfl⟩;refine AE ?_;refine CX rfl rfl ?_;refine C7 takeZ rfl ?_
    cases hb:bget B1 x.t with
    | false =>
     rw [hb] at hbx
     have hp:=hV.push (x:=x) ⟨hxi.1.1,hxi.2⟩ hxt hxi.1.2
     have hu:=unm_set (B:=B1) (i:=x.t) (by omega) hb
     refine AP ?_;refine AD ?_;refine AA ?_;refine AF ?_;refine AG ?_;refine AF ?_;refine BH ?_;refine AF ?_;refine BJ ?_;refine AE ?_;refine AO rfl ?_;refine AD ?_;refine AA ?_;refine AF ?_;refine AG ?_;refine AF ?_;refine BH ?_;refine CZ ?_; rintro _ _ ⟨rfl,rfl⟩;refine AE ?_;refine AA ?_;refine AF ?_;refine AG ?_;refine AF ?_;refine A9 ?_; rintro _ _ ⟨b,rfl,rfl⟩
     refine BI (ES (by_:=8) (s:=1) (news:=[int (x.t:Int)]) rfl rfl rfl rfl rfl rfl rfl hQ2 takeZ (cells_own memZ) rfl (by (repeat (first | exact (fun v hv=>absurd hv List.not_mem_nil) | (refine List.forall_mem_cons.2 ⟨?_,?_⟩; (focus (first | exact rfl | assumption))))); first | done | fail) (by simp only [maxLen]; omega) (by omega)) rfl rfl rfl ?_
     rintro q9 _ ⟨ρ3,hQ3,rfl⟩
     have hq9:q9.oneCell' = true:=by obtain ⟨_,_,_,_,_,rfl,_⟩:=hQ3; rfl
     have hQ4:OwnO 3 1 q9 ((q1 ++ [x.t]).length + 1) (int v1 :: qInts (q1 ++ [x.t])) ρ3:=by
      have:int v1 :: qInts (q1 ++ [x.t]) = (int v1 :: qInts q1) ++ [int (x.t:Int)]:=by simp [qInts]
      rw [this,List.length_append];exact hQ3
     refine BF ?_; rintro _ _ ⟨rfl,rfl⟩;refine AE ?_;refine AZ ?_;refine B5 takeZ rsubZ selZ ⟨((B1.set x.t true,q1 ++ [x.t]),(q9,ρ3)),.inl ⟨rfl,⟨?_,hQ4,?_,?_⟩,rfl⟩⟩
     ·dsimp only
      rw [htk];exact hp
     ·dsimp only
      rw [List.length_append,List.length_singleton]; omega
     ·dsimp only
      rw [List.length_append,List.length_singleton]; omega
    | true =>
     rw [hb] at hbx;refine AP ?_;refine AD ?_;refine AA ?_;refine AF ?_;refine AG ?_;refine AF ?_;refine BH ?_;refine AF ?_;refine BJ ?_;refine AE ?_;refine AN rfl ?_;refine AK ?_;refine AZ ?_;refine B5 takeZ rsubZ selZ ⟨((B1,q1),(qv2,ρ2)),.inl ⟨rfl,⟨?_,hQ2,hlq,hms⟩,rfl⟩⟩;simp only;rw [htk];exact hV.seen hb
   ·rintro b2' ⟨⟨B1,q1⟩,⟨qv2,ρ2⟩⟩ ⟨hV,hQ2,hlq,hms⟩
    dsimp only at hV hQ2 hlq hms ⊢
    simp only [List.cons_append,List.nil_append]
    refine D4 (R':=sng b2 (.cells #[.slice (some ⟨bf,0,none⟩) l.length l.length] 22 (0,0)) :: sng b1 (.cells #[v] 67 (0,0)) :: γ :: sng bf (.cells (ints F) 3 (0,0)) :: β :: [ρ]) (by intro σ hσ; simp at hσ ⊢; rcases hσ with h | h | h | h | h | h <;> simp [h]) ?_
    refine C4 (b:=b2') takeZ (μ:=μ) takeZ hM ?_
    intro μ2 hM2
    obtain ⟨b5,o5,cap5,rfl,_,hh1⟩:=hQ2.head
    refine AZ ?_;refine AZ ?_;refine AD ?_;refine AD ?_;refine AA ?_;refine AF ?_;refine AE ?_;refine AA ?_;refine B6 ?_; rintro _ _ ⟨b,rfl,rfl⟩;refine BF ?_; rintro _ _ ⟨rfl,rfl⟩;refine AE ?_;refine AA ?_;refine AF ?_
    focus ((refine' CR _ rfl rfl rfl _; rotate_left; (apply EP (i:=1); exact rfl; exact rfl; exact rfl; exact rfl; omega)))
    refine BF ?_; rintro _ _ ⟨rfl,rfl⟩;refine AE ?_
    refine DP (((B1,q1),((_,ρ2),b)),(b2' :: ms,μ2)) rfl ⟨hV.done (fun x hx hxt=>?_),hh1,by dsimp only; omega,hM2⟩ (by dsimp only [List.length_cons]; omega) covZ selZ
    have hmem:x ∈ openL (rmR l F) (outsOf (rlinks l) v1):=by
     unfold openL outsOf;rw [List.mem_filter,List.mem_filter]
     exact ⟨⟨hx.1,by simpa using hxt⟩,by simpa using hx.2⟩
    simpa [List.length_map] using hmem
   ·rintro _ _ _ h; exact h.elim
end Go.Proofs.YtphehihohghfoaaGreat
/- Maximum flows of time-expanded networks: least cuts, and less of what is there. No program in sight. No conditions. -/
namespace Go.Step
open Go.Flow (Flw fval okArc okArc_iff okEnds_iff capOf MaxOK maxErr RunR run_cut exists_reach)
section
variable {qs:List Int} {cs:List Ct} {bs:List Bk} {hs:List Hd} {d:Dm}
def MaxN (qs:List Int) (cs:List Ct) (bs:List Bk) (hs:List Hd) (d:Dm) (F:List Int) (m e:Int):Prop:=MaxOK (vsN qs d) (arcsG qs cs bs hs d) (vtx d d.s d.r) (vtx d d.d d.e) F m e
theorem max_err (h:VOk qs cs bs hs d):maxErr (vsN qs d) (arcsG qs cs bs hs d) (vtx d d.s d.r) (vtx d d.d d.e) = 0:=by
  unfold maxErr;rw [h.chk,h.ends]
  rfl
theorem max_cut (h:VOk qs cs bs hs d) {F:List Int} {m e:Int} (hm:MaxN qs cs bs hs d F m e):e = 0 ∧ ∃ N S T:Nat,vsN qs d = N ∧ vtx d d.s d.r = S ∧ vtx d d.d d.e = T ∧ Flw N (arcsG qs cs bs hs d) S T F ∧ m = fval S (arcsG qs cs bs hs d) F ∧
    ∃ P:Int → Int → Bool,P d.s d.r = true ∧ P d.d d.e = false ∧ m = capB qs cs bs hs d P:=by
  have hends:=okEnds_iff.1 h.ends
  obtain ⟨N,hN⟩:∃ N:Nat,vsN qs d = N:=⟨(vsN qs d).toNat,by omega⟩
  obtain ⟨S,hS⟩:∃ N:Nat,vtx d d.s d.r = N:=⟨(vtx d d.s d.r).toNat,by omega⟩
  obtain ⟨T,hT⟩:∃ N:Nat,vtx d d.d d.e = N:=⟨(vtx d d.d d.e).toNat,by omega⟩
  have hok:=h.ok
  unfold MaxN at hm
  have he:=max_err h
  rw [hN] at hok;rw [hN,hS,hT] at hm hends he
  rcases hm with ⟨a1,_⟩ | ⟨_,a2,a3,a4⟩
  · exact absurd he a1
  simp only [Int.toNat_natCast] at a3
  obtain ⟨B,hB⟩:=exists_reach N (Go.Flow.rE (arcsG qs cs bs hs d) F) S
  obtain ⟨f1,f2,f3,f4⟩:=run_cut hok (by omega) (by omega) (by omega) a3 hB
  refine ⟨a2,N,S,T,hN,hS,hT,f1,a4,fun n t=>B (vtx d n t).toNat,by show B (vtx d d.s d.r).toNat = true; rw [hS]; exact f2,by show B (vtx d d.d d.e).toNat = false; rw [hT]; exact f3,?_⟩
  rw [a4,f4,capB_eq h]
theorem flow_le_cap (h:VOk qs cs bs hs d) {fl:List Int} {N S T:Nat} (hN:vsN qs d = N) (hS:vtx d d.s d.r = S) (hT:vtx d d.d d.e = T) (hf:Flw N (arcsG qs cs bs hs d) S T fl) {P:Int → Int → Bool} (h1:P d.s d.r = true) (h2:P d.d d.e = false):fval S (arcsG qs cs bs hs d) fl ≤ capB qs cs bs hs d P:=by
  have hdm:=h.dm
  unfold okDm at hdm
  have hok:=h.ok
  have hends:=okEnds_iff.1 h.ends
  rw [hN] at hok
  have b1:bq d P S = true:=by
    have:=bq_vtx (d:=d) (P:=P) (n:=d.s) (t:=d.r) hdm.1.1 (by omega) (by omega)
    rw [hS,Int.toNat_natCast] at this;rw [this]; exact h1
  have b2:bq d P T = false:=by
    have:=bq_vtx (d:=d) (P:=P) (n:=d.d) (t:=d.e) hdm.2.1.1 (by omega) (by omega)
    rw [hT,Int.toNat_natCast] at this;rw [this]; exact h2
  have:=hf.le_cap hok (by omega) b1 b2
  rw [capB_eq h] at this
  rwa [capB_congr h (C:=P) (fun n t g0 g1 g2 g3=>bq_vtx g0 g2 g3)] at this
theorem lsum_le {α:Type} {f g:α → Int} {l:List α} (h:∀ x ∈ l,f x ≤ g x):lsum f l ≤ lsum g l:=by
  induction l with
  | nil=>exact Int.le_refl _
  | cons x l ih=>have:=h x (by simp); have:=ih (fun y hy=>h y (by simp [hy])); simp only [lsum]; omega
theorem lsum_nonneg {α:Type} {f:α → Int} {l:List α} (h:∀ x ∈ l,0 ≤ f x):0 ≤ lsum f l:=by
  have:=lsum_le (f:=fun _=>0) h
  rwa [lsum_zero] at this
theorem lsum_mem {α:Type} {f:α → Int} {l:List α} (h:∀ x ∈ l,0 ≤ f x) {x:α} (hx:x ∈ l):f x ≤ lsum f l:=by
  induction l with
  | nil=>simp at hx
  | cons y l ih =>
    have h1:=h y (by simp)
    have h2:=lsum_nonneg (f:=f) (l:=l) (fun z hz=>h z (by simp [hz]))
    simp only [lsum]
    rcases List.mem_cons.1 hx with rfl | hx
    · omega
    · have:=ih (fun z hz=>h z (by simp [hz])) hx
      omega
theorem waitB_nonneg (h:VOk qs cs bs hs d) (P:Int → Int → Bool) {n:Nat} (hn:n < qs.length) (t:Int):0 ≤ waitB qs hs d P n t:=by
  unfold waitB
  have:=h.room n hn t
  split <;> omega
theorem conB_nonneg (h:VOk qs cs bs hs d) (P:Int → Int → Bool) {i:Nat} (hi:i < cs.length) (t:Int):0 ≤ conB cs bs d P i t ∧ conB cs bs d P i t ≤ 1000:=by
  unfold conB;rw [Int.toNat_natCast,List.getElem?_eq_getElem hi]
  have:=(h.ct _ (List.getElem_mem hi)).2.2.2.1
  dsimp only
  split <;> omega
theorem capB_wait_le (h:VOk qs cs bs hs d) (P:Int → Int → Bool) {n:Nat} (hn:n < qs.length) {t:Int} (h1:d.r ≤ t) (h2:t < d.e):waitB qs hs d P n t ≤ capB qs cs bs hs d P:=by
  have hw:∀ k:Nat,k < qs.length → 0 ≤ sumU (waitB qs hs d P k) d.r d.e:=fun k hk=>by
    rw [← lsum_rngI]
    exact lsum_nonneg (fun t _=>waitB_nonneg h P hk t)
  have hc:0 ≤ sumT (fun i=>sumU (conB cs bs d P i) d.r d.e) 0 cs.length:=by
    rw [← lsum_range]
    refine lsum_nonneg (fun i hi=>?_)
    obtain ⟨k,hk,rfl⟩:=List.mem_map.1 hi
    rw [List.mem_range] at hk;rw [← lsum_rngI,Int.zero_add]
    exact lsum_nonneg (fun t _=>(conB_nonneg h P hk t).1)
  have h3:sumU (waitB qs hs d P n) d.r d.e ≤ sumT (fun n=>sumU (waitB qs hs d P n) d.r d.e) 0 qs.length:=by
    rw [← lsum_range]
    refine lsum_mem (f:=fun n=>sumU (waitB qs hs d P n) d.r d.e) (fun i hi=>?_) (List.mem_map.2 ⟨n,List.mem_range.2 hn,by omega⟩)
    obtain ⟨k,hk,rfl⟩:=List.mem_map.1 hi
    rw [List.mem_range] at hk
    have:=hw k hk
    rwa [Int.zero_add]
  have h4:waitB qs hs d P n t ≤ sumU (waitB qs hs d P n) d.r d.e:=by
    rw [← lsum_rngI]
    exact lsum_mem (f:=waitB qs hs d P n) (fun u _=>waitB_nonneg h P hn u) (mem_rngI.2 ⟨h1,h2⟩)
  unfold capB;omega
end
end Go.Step
/- The chapter's example: its network, its maximum flows, their shipments, a cut. No program in sight. No conditions. -/
namespace Go.Step
open Go.Flow (Flw fval okArc capOf MaxOK inCap)
def eQ:List Int:=[0,1,0]
def eC:List Ct:=[⟨0,1,0,2,3,1,0⟩,⟨1,2,3,5,3,1,0⟩]
def eD:Dm:=⟨0,2,4,0,6⟩
def eF:List Int:=[3,0,0,0,0,0,0,0,1,1,0,0,0,0,0,0,0,3,1,3,3,1]
abbrev eK:Int:=1099511627776
def eA:List EA:=[⟨⟨0,1,eK⟩,-1,0⟩,⟨⟨1,2,eK⟩,-1,1⟩,⟨⟨2,3,eK⟩,-1,2⟩,⟨⟨3,4,eK⟩,-1,3⟩,⟨⟨4,5,eK⟩,-1,4⟩,⟨⟨5,6,eK⟩,-1,5⟩,
  ⟨⟨7,8,1⟩,-1,0⟩,⟨⟨8,9,1⟩,-1,1⟩,⟨⟨9,10,1⟩,-1,2⟩,⟨⟨10,11,1⟩,-1,3⟩,⟨⟨11,12,1⟩,-1,4⟩,⟨⟨12,13,1⟩,-1,5⟩,
  ⟨⟨14,15,eK⟩,-1,0⟩,⟨⟨15,16,eK⟩,-1,1⟩,⟨⟨16,17,eK⟩,-1,2⟩,⟨⟨17,18,eK⟩,-1,3⟩,⟨⟨18,19,eK⟩,-1,4⟩,⟨⟨19,20,eK⟩,-1,5⟩,
  ⟨⟨0,9,3⟩,0,0⟩,⟨⟨1,10,3⟩,0,1⟩,⟨⟨10,19,3⟩,1,3⟩,⟨⟨11,20,3⟩,1,4⟩]
theorem eValid:validT eQ eC [] [] eD = true:=by decide +kernel
theorem eArcs:arcsE eQ eC [] [] eD = eA:=by decide +kernel
theorem eVs:vsN eQ eD = 21:=by decide +kernel
theorem eS:vtx eD eD.s eD.r = 0:=by decide +kernel
theorem eT:vtx eD eD.d eD.e = 20:=by decide +kernel
theorem eG:arcsG eQ eC [] [] eD = eA.map (fun x=>x.a):=by unfold arcsG; rw [eArcs]
theorem eFlow:Flw 21 (arcsG eQ eC [] [] eD) 0 20 eF:=by
  rw [eG]
  exact ⟨by decide +kernel,by decide +kernel,by decide +kernel⟩
def eP (n t:Int):Bool:=decide (n = 0 ∨ (n = 1 ∧ t = 2))
theorem eCap:capB eQ eC [] [] eD eP = 4:=by
  decide +kernel
theorem eMax (hok:VOk eQ eC [] [] eD) {F:List Int} {m e:Int} (hm:MaxN eQ eC [] [] eD F m e):e = 0 ∧ m = 4 ∧ Flw 21 (arcsG eQ eC [] [] eD) 0 20 F ∧ fval 0 (arcsG eQ eC [] [] eD) F = 4:=by
  obtain ⟨h0,N,S,T,hN,hS,hT,hf,hv,P,p1,p2,hc⟩:=max_cut hok hm
  rw [eVs] at hN;rw [eS] at hS;rw [eT] at hT
  obtain rfl:N = 21:=by omega
  obtain rfl:S = 0:=by omega
  obtain rfl:T = 20:=by omega
  have a:fval 0 (arcsG eQ eC [] [] eD) F ≤ capB eQ eC [] [] eD eP:=flow_le_cap hok eVs eS eT hf (P:=eP) (by decide) (by decide)
  have b:fval 0 (arcsG eQ eC [] [] eD) eF ≤ capB eQ eC [] [] eD P:=flow_le_cap hok eVs eS eT eFlow p1 p2
  have c:fval 0 (arcsG eQ eC [] [] eD) eF = 4:=by rw [eG]; decide +kernel
  have hv':m = fval 0 (arcsG eQ eC [] [] eD) F:=hv
  rw [eCap] at a
  exact ⟨h0,by omega,hf,by omega⟩
end Go.Step
/- The example is awake. -/
namespace Go.Proofs.YtphehihohghfoaaGreat
open Go.Eng Go.Step
set_option maxRecDepth 100000
set_option maxHeartbeats 4000000

end Go.Proofs.YtphehihohghfoaaGreat
/- Joins and meets of cuts. -/
namespace Go.Proofs.YtphehihohghfoaaGreat
open Go.Eng Go.Step
set_option maxRecDepth 100000
set_option maxHeartbeats 4000000

end Go.Proofs.YtphehihohghfoaaGreat
/- Sets of the document: one more span, union. -/
namespace Go.Proofs.YtphehihohghfoaaGreat
open Go.Eng Go.Step
set_option maxRecDepth 100000
set_option maxHeartbeats 4000000

theorem one_S (x:Int × Int):∀ u ∈ encS x,u.oneCell' = true:=by
 intro u hu
 simp only [encS,List.mem_cons,List.not_mem_nil,or_false] at hu
 rcases hu with rfl | rfl <;> rfl
theorem ones_S (l:Iv):∀ u ∈ l.flatMap encS,u.oneCell' = true:=by
 intro u hu
 rw [List.mem_flatMap] at hu
 obtain ⟨a,_,hu⟩:=hu
 exact one_S a u hu
set_option maxHeartbeats 32000000 in
theorem refIvInsert_spec (ρ:PH) (v:Value) (l:Iv) (x:Int × Int) (hv:SpAt ρ v l) (hcap:CapOK v) (hl:l.length ≤ 1000000) :
  Makes Tryz.prog (fv 107) [v,.agg #[int x.1,int x.2]] [ρ] (fun r σ=>OwnS 93 2 r (insI l x).length ((insI l x).flatMap encS) σ):=by
 have hv2:=hv
 obtain ⟨q,c,rfl,hr⟩:=hv.val encS_len
 refine spec_in (cap:=[]) Tryz.func107 rfl rfl Tryz.ntmps107 rfl envZ (fun N β=>?_)
 refine AD ?_;refine AA ?_;refine BI (BK rfl) rfl rfl rfl ?_;rintro _ _ ⟨b3,rfl,rfl⟩;refine AC ?_;refine AE ?_;refine AD ?_;refine AA ?_;refine A9 ?_; rintro _ _ ⟨b,rfl,rfl⟩;refine AC ?_;refine AE ?_;refine AD ?_;refine AA ?_;refine AC ?_;refine AE ?_;refine AD ?_;refine AP ?_
 revert b; intro bo
 refine BB [0,3] (X:=Nat × (Value × PH)) (0,(.slice (some ⟨bo,0,none⟩) 0 0,sng bo (.cells #[] 93 (0,0)))) (fun z=>z.1 ≤ l.length ∧ (∀ y ∈ l.take z.1,y.2 < x.1) ∧ OwnS 93 2 z.2.1 z.1 ((l.take z.1).flatMap encS) z.2.2) (fun z=>[(6,int z.1),(5,z.2.1)]) (fun z=>[z.2.2,sng b3 (.cells #[int x.1,int x.2] 93 (0,0))]) (fun z=>l.length - z.1) pickZ ⟨by dsimp only; omega,by simp,OwnS.empty⟩ covZ selZ ?_
 rintro ⟨k,u,σ⟩ ⟨hk,hwhile,hO⟩
 dsimp only at hk hwhile hO ⊢
 have hit:=insI_take (x:=x) hk hwhile
 by_cases hlt:k < l.length
 ·have hx:=List.getElem?_eq_getElem hlt
  have htk:=List.take_succ_eq_append_getElem hlt
  have hdk:=List.drop_eq_getElem_cons hlt
  obtain ⟨b1,o1,rfl,hRd1,g0,g1⟩:=spRow hr hx
  generalize l[k] = w at hRd1 g0 g1 hx htk hdk
  by_cases hc:w.2 < x.1
  ·refine AD ?_
   refine AD ?_
   refine A6 (.q 0 (.q 1 (.q 2 (.q 3 (.q 4 (.q 5 (.q 6 (.q 7 (.q 8 (.q 9 (.q 10 (.q 11 (.q 12 (.q 13 .nil)))))))))))))) [] rfl (by kernel_rfl) Sel.nil ?_
   refine AJ ?_;refine AJ ?_;refine DA ?_;refine D0 ?_;refine AJ ?_;refine AJ ?_;refine AJ ?_;refine BC ?_;refine BX ?_;refine AR ?_;refine A0 ?_;refine AR ?_;refine D0 ?_;refine BR ?_;refine A8 ?_;refine AO rfl ?_;refine AK ?_;refine AP ?_;refine AD ?_;refine AA ?_;refine AB ?_;refine AB ?_;refine AB ?_;refine A3 ?_;refine AT ?_;refine A9 ?_; rintro _ _ ⟨b,rfl,rfl⟩
   refine BI (BP (by_:=16) (s:=2) (news:=[int w.1,int w.2]) rfl rfl rfl rfl rfl rfl rfl hO takeZ (cells_own memZ) rfl (by (repeat (first | exact (fun v hv=>absurd hv List.not_mem_nil) | (refine List.forall_mem_cons.2 ⟨?_,?_⟩; (focus (first | exact rfl | assumption))))); first | done | fail) (by omega) (by simp only [maxLen]; omega) (by omega)) rfl rfl rfl ?_
   rintro u1 _ ⟨σ1,hO1,rfl⟩;refine AC ?_;refine AE ?_;refine AA ?_;refine AB ?_;refine A7 ?_;refine AC ?_;refine AE ?_;refine AZ ?_
   refine AU (k + 1,(u1,σ1)) ⟨by dsimp only; omega,?_,?_⟩ (by dsimp only; omega) covZ selZ
   ·dsimp only
    rw [htk]
    intro y hy
    rcases List.mem_append.1 hy with hy | hy
    ·exact hwhile y hy
    ·simp only [List.mem_singleton] at hy; subst hy; exact hc
   ·dsimp only
    rw [htk,List.flatMap_append];exact hO1
  ·have hfin:insI l x = l.take k ++ absI (l.drop k) x:=by
    rw [hit]
    congr 1
    rw [hdk]
    show (if w.2 < x.1 then _ else _) = _
    rw [if_neg hc]
   refine AD ?_;refine AD ?_
   refine A6 (.q 0 (.q 1 (.q 2 (.q 3 (.q 4 (.q 5 (.q 6 (.q 7 (.q 8 (.q 9 (.q 10 (.q 11 (.q 12 (.q 13 .nil)))))))))))))) [] rfl (by kernel_rfl) Sel.nil ?_
   refine AJ ?_;refine AJ ?_;refine DA ?_;refine D0 ?_;refine AJ ?_;refine AJ ?_;refine AJ ?_;refine BC ?_;refine BX ?_;refine AR ?_;refine A0 ?_;refine AR ?_;refine DB ?_;refine BR ?_;refine A8 ?_;refine AN rfl ?_;refine A5 rfl ?_;refine AD ?_;refine AP ?_;clear hwhile
   refine BB [0,3,5] (X:=Nat × (Int × Int)) (k,x) (fun z=>k ≤ z.1 ∧ z.1 ≤ l.length ∧ absI (l.drop k) x = absI (l.drop z.1) z.2) (fun z=>[(6,int z.1)]) (fun z=>[σ,sng b3 (.cells #[int z.2.1,int z.2.2] 93 (0,0))]) (fun z=>l.length - z.1) pickZ ⟨by dsimp only; omega,hk,rfl⟩ covZ selZ ?_
   rintro ⟨j,z⟩ ⟨hkj,hj,hA⟩
   dsimp only at hkj hj hA ⊢
   have hends:(∀ y,l[j]? = some y → z.2 < y.1) → insI l x = l.take k ++ z :: l.drop j:=fun hst=>by
    rw [hfin,hA]
    by_cases hjl:j < l.length
    ·rw [List.drop_eq_getElem_cons hjl]
     have:=hst _ (List.getElem?_eq_getElem hjl)
     unfold absI
     rw [if_neg (by omega)]
    ·rw [List.drop_eq_nil_of_le (by omega)]; rfl
   by_cases hjl:j < l.length
   ·have hy:=List.getElem?_eq_getElem hjl
    have hdr:=List.drop_eq_getElem_cons hjl
    obtain ⟨b6,o6,e6,hRd6,y0,y1⟩:=spRow hr hy
    simp only [Option.some.injEq,Addr.mk.injEq,and_true] at e6
    obtain ⟨rfl,rfl⟩:=e6
    generalize l[j] = y at hy hRd6 y0 y1 hdr
    by_cases hc2:y.1 ≤ z.2
    ·have hA2:absI (l.drop j) z = absI (l.drop (j + 1)) (min z.1 y.1,max z.2 y.2):=by
      rw [hdr]
      show (if y.1 ≤ z.2 then _ else _) = _
      rw [if_pos hc2]
     refine AD ?_;refine AD ?_
     refine A6 (.q 0 (.q 1 (.q 2 (.q 3 (.q 4 (.q 5 (.q 6 (.q 7 (.q 8 (.q 9 (.q 10 (.q 11 (.q 12 (.q 13 .nil)))))))))))))) [] rfl (by kernel_rfl) Sel.nil ?_
     refine AJ ?_;refine AJ ?_;refine DA ?_;refine D0 ?_;refine AJ ?_;refine AJ ?_;refine AJ ?_;refine BC ?_;refine BY ?_;refine AR ?_;refine A0 ?_;refine AR ?_;refine E8 ?_;refine BR ?_;refine A8 ?_;refine AO rfl ?_;refine AK ?_;refine AP ?_;refine AD ?_
     refine A6 (.q 0 (.q 1 (.q 2 (.q 3 (.q 4 (.q 5 (.q 6 (.q 7 (.q 8 (.q 9 (.q 10 (.q 11 (.q 12 (.q 13 (.q 14 (.q 15 (.q 16 (.l 17 .b .nil)))))))))))))))))) [] rfl (by kernel_rfl) Sel.nil ?_
     refine A0 ?_;refine AR ?_;refine AJ ?_;refine AJ ?_;refine BC ?_;refine BY ?_;refine AR ?_;refine zd_min ?_;refine A0 ?_;refine AR ?_;refine AJ ?_;refine AJ ?_;refine BC ?_;refine BX ?_;refine AR ?_;refine GO ?_;refine CD ?_
     focus ((refine CL ?_; refine' FJ rfl _ rfl rfl _ _; rotate_left; (focus (apply DC; exact rfl; exact rfl; exact takeZ; exact (by (repeat (first | exact (fun v hv=>absurd hv List.not_mem_nil) | (refine List.forall_mem_cons.2 ⟨?_,?_⟩; (focus (first | exact rfl | assumption))))); first | done | fail); exact rfl; exact rfl)); (focus (rintro _ _ ⟨_,rfl⟩ w hw; exact hw.sel selZ)); rintro _ _ ⟨rfl,rfl⟩))
     refine A8 ?_;refine AA ?_;refine AB ?_;refine A7 ?_;refine AC ?_;refine AE ?_;refine AZ ?_
     exact AU (j + 1,(min z.1 y.1,max z.2 y.2)) ⟨by dsimp only; omega,by dsimp only; omega,by dsimp only; rw [hA,hA2]⟩ (by dsimp only; omega) covZ selZ
    ·have hE:=hends (fun y' hy'=>by rw [hy] at hy'; obtain rfl:=Option.some.inj hy'; omega)
     refine AD ?_;refine AD ?_
     refine A6 (.q 0 (.q 1 (.q 2 (.q 3 (.q 4 (.q 5 (.q 6 (.q 7 (.q 8 (.q 9 (.q 10 (.q 11 (.q 12 (.q 13 .nil)))))))))))))) [] rfl (by kernel_rfl) Sel.nil ?_
     refine AJ ?_;refine AJ ?_;refine DA ?_;refine D0 ?_;refine AJ ?_;refine AJ ?_;refine AJ ?_;refine BC ?_;refine BY ?_;refine AR ?_;refine A0 ?_;refine AR ?_;refine DS ?_;refine BR ?_;refine A8 ?_;refine AN rfl ?_;refine A5 rfl ?_;refine AD ?_
     refine A6 (.q 0 (.q 1 (.p 4 (.p 5 (.p 6 (.l 2 .e (.l 3 .b (.l 7 .b (.q 8 .nil))))))))) [] rfl (by kernel_rfl) Sel.nil ?_
     refine AJ ?_;refine BL ?_;refine DG ?_;refine DG ?_;refine EL ?_;refine BN ?_; rintro _ _ ⟨b,rfl,rfl⟩
     refine CL (a_b rfl (BP (by_:=16) (s:=2) (news:=[int z.1,int z.2]) rfl rfl rfl rfl rfl rfl rfl hO takeZ (cells_own memZ) rfl (by (repeat (first | exact (fun v hv=>absurd hv List.not_mem_nil) | (refine List.forall_mem_cons.2 ⟨?_,?_⟩; (focus (first | exact rfl | assumption))))); first | done | fail) (by omega) (by simp only [maxLen]; omega) (by omega)) rfl rfl rfl (fun _ _ _ w hw=>hw.sel Sel.nil) ?_)
     rintro u1 _ ⟨σ1,hO1,rfl⟩
     refine CL (a_b rfl (EC (by_:=16) (s:=2) (σ:=ρ) (w0:=.slice (cutP (some ⟨b1,o1,none⟩) c j 2) (l.length - j) (c - j)) (news:=(l.drop j).flatMap encS) (m:=(l.drop j).length) rfl rfl rfl rfl rfl rfl rfl hO1 takeZ (slE_lo encS_len hv2 hcap.le hj rfl) (fun b o h=>cellsR h memZ) (ones_S _) (by rw [List.length_drop]; simp only [maxLen]; omega) (by rw [List.length_drop]; omega)) rfl rfl rfl (fun _ _ _ w hw=>hw.sel Sel.nil) ?_)
     rintro u2 _ ⟨σ2,hO2,rfl⟩;refine BW ?_;refine A8 ?_
     skip
     refine AI (res1 rfl rfl) rsubZ selZ ⟨σ2,?_,rfl⟩;rw [hE]
     have e:k + 1 + (l.drop j).length = (l.take k ++ z :: l.drop j).length:=by rw [List.length_append,List.length_take,List.length_cons]; omega
     rw [e] at hO2;rw [List.flatMap_append,List.flatMap_cons,← List.append_assoc];exact hO2
   ·have hE:=hends (fun y' hy'=>by rw [List.getElem?_eq_none (by omega)] at hy'; simp at hy')
    refine AD ?_;refine AD ?_
    refine A6 (.q 0 (.q 1 (.q 2 (.q 3 (.q 4 (.q 5 (.q 6 (.q 7 (.q 8 (.q 9 (.q 10 (.q 11 (.q 12 (.q 13 .nil)))))))))))))) [] rfl (by kernel_rfl) Sel.nil ?_
    refine AJ ?_;refine AJ ?_;refine DA ?_;refine DB ?_;refine AJ ?_;refine AW rfl rfl rfl rfl rfl ?_;refine AW rfl rfl rfl rfl rfl ?_;refine AW rfl rfl rfl rfl rfl ?_;refine AW rfl rfl rfl rfl rfl ?_;refine AW rfl rfl rfl rfl rfl ?_;refine AW rfl rfl rfl rfl rfl ?_;refine AW rfl rfl rfl rfl rfl ?_;refine AW rfl rfl rfl rfl rfl ?_;refine BU ?_;refine A8 ?_;refine AN rfl ?_;refine A5 rfl ?_;refine AD ?_
    refine A6 (.q 0 (.q 1 (.p 4 (.p 5 (.p 6 (.l 2 .e (.l 3 .b (.l 7 .b (.q 8 .nil))))))))) [] rfl (by kernel_rfl) Sel.nil ?_
    refine AJ ?_;refine BL ?_;refine DG ?_;refine DG ?_;refine EL ?_;refine BN ?_; rintro _ _ ⟨b,rfl,rfl⟩
    refine CL (a_b rfl (BP (by_:=16) (s:=2) (news:=[int z.1,int z.2]) rfl rfl rfl rfl rfl rfl rfl hO takeZ (cells_own memZ) rfl (by (repeat (first | exact (fun v hv=>absurd hv List.not_mem_nil) | (refine List.forall_mem_cons.2 ⟨?_,?_⟩; (focus (first | exact rfl | assumption))))); first | done | fail) (by omega) (by simp only [maxLen]; omega) (by omega)) rfl rfl rfl (fun _ _ _ w hw=>hw.sel Sel.nil) ?_)
    rintro u1 _ ⟨σ1,hO1,rfl⟩
    refine CL (a_b rfl (EC (by_:=16) (s:=2) (σ:=ρ) (w0:=.slice (cutP (some ⟨b1,o1,none⟩) c j 2) (l.length - j) (c - j)) (news:=(l.drop j).flatMap encS) (m:=(l.drop j).length) rfl rfl rfl rfl rfl rfl rfl hO1 takeZ (slE_lo encS_len hv2 hcap.le hj rfl) (fun b o h=>cellsR h memZ) (ones_S _) (by rw [List.length_drop]; simp only [maxLen]; omega) (by rw [List.length_drop]; omega)) rfl rfl rfl (fun _ _ _ w hw=>hw.sel Sel.nil) ?_)
    rintro u2 _ ⟨σ2,hO2,rfl⟩;refine BW ?_;refine A8 ?_
    skip
    refine AI (res1 rfl rfl) rsubZ selZ ⟨σ2,?_,rfl⟩;rw [hE]
    have e:k + 1 + (l.drop j).length = (l.take k ++ z :: l.drop j).length:=by rw [List.length_append,List.length_take,List.length_cons]; omega
    rw [e] at hO2;rw [List.flatMap_append,List.flatMap_cons,← List.append_assoc];exact hO2
 ·have hfin:insI l x = l.take k ++ absI (l.drop k) x:=by
   rw [hit,List.drop_eq_nil_of_le (by omega)]
   rfl
  refine AD ?_;refine AD ?_
  refine A6 (.q 0 (.q 1 (.q 2 (.q 3 (.q 4 (.q 5 (.q 6 (.q 7 (.q 8 (.q 9 (.q 10 (.q 11 (.q 12 (.q 13 .nil)))))))))))))) [] rfl (by kernel_rfl) Sel.nil ?_
  refine AJ ?_;refine AJ ?_;refine DA ?_;refine DB ?_;refine AJ ?_;refine AW rfl rfl rfl rfl rfl ?_;refine AW rfl rfl rfl rfl rfl ?_;refine AW rfl rfl rfl rfl rfl ?_;refine AW rfl rfl rfl rfl rfl ?_;refine AW rfl rfl rfl rfl rfl ?_;refine AW rfl rfl rfl rfl rfl ?_;refine AW rfl rfl rfl rfl rfl ?_;refine AW rfl rfl rfl rfl rfl ?_;refine BU ?_;refine A8 ?_;refine AN rfl ?_;refine A5 rfl ?_;refine AD ?_;refine AP ?_;clear hwhile
  refine BB [0,3,5] (X:=Nat × (Int × Int)) (k,x) (fun z=>k ≤ z.1 ∧ z.1 ≤ l.length ∧ absI (l.drop k) x = absI (l.drop z.1) z.2) (fun z=>[(6,int z.1)]) (fun z=>[σ,sng b3 (.cells #[int z.2.1,int z.2.2] 93 (0,0))]) (fun z=>l.length - z.1) pickZ ⟨by dsimp only; omega,hk,rfl⟩ covZ selZ ?_
  rintro ⟨j,z⟩ ⟨hkj,hj,hA⟩
  dsimp only at hkj hj hA ⊢
  have hends:(∀ y,l[j]? = some y → z.2 < y.1) → insI l x = l.take k ++ z :: l.drop j:=fun hst=>by
   rw [hfin,hA]
   by_cases hjl:j < l.length
   ·rw [List.drop_eq_getElem_cons hjl]
    have:=hst _ (List.getElem?_eq_getElem hjl)
    unfold absI
    rw [if_neg (by omega)]
   ·rw [List.drop_eq_nil_of_le (by omega)]; rfl
  by_cases hjl:j < l.length
  ·exact absurd hjl (by omega)
  ·have hE:=hends (fun y' hy'=>by rw [List.getElem?_eq_none (by omega)] at hy'; simp at hy')
   refine AD ?_;refine AD ?_
   refine A6 (.q 0 (.q 1 (.q 2 (.q 3 (.q 4 (.q 5 (.q 6 (.q 7 (.q 8 (.q 9 (.q 10 (.q 11 (.q 12 (.q 13 .nil)))))))))))))) [] rfl (by kernel_rfl) Sel.nil ?_
   refine AJ ?_;refine AJ ?_;refine DA ?_;refine DB ?_;refine AJ ?_;refine AW rfl rfl rfl rfl rfl ?_;refine AW rfl rfl rfl rfl rfl ?_;refine AW rfl rfl rfl rfl rfl ?_;refine AW rfl rfl rfl rfl rfl ?_;refine AW rfl rfl rfl rfl rfl ?_;refine AW rfl rfl rfl rfl rfl ?_;refine AW rfl rfl rfl rfl rfl ?_;refine AW rfl rfl rfl rfl rfl ?_;refine BU ?_;refine A8 ?_;refine AN rfl ?_;refine A5 rfl ?_;refine AD ?_
   refine A6 (.q 0 (.q 1 (.p 4 (.p 5 (.p 6 (.l 2 .e (.l 3 .b (.l 7 .b (.q 8 .nil))))))))) [] rfl (by kernel_rfl) Sel.nil ?_
   refine AJ ?_;refine BL ?_;refine DG ?_;refine DG ?_;refine EL ?_;refine BN ?_; rintro _ _ ⟨b,rfl,rfl⟩
   refine CL (a_b rfl (BP (by_:=16) (s:=2) (news:=[int z.1,int z.2]) rfl rfl rfl rfl rfl rfl rfl hO takeZ (cells_own memZ) rfl (by (repeat (first | exact (fun v hv=>absurd hv List.not_mem_nil) | (refine List.forall_mem_cons.2 ⟨?_,?_⟩; (focus (first | exact rfl | assumption))))); first | done | fail) (by omega) (by simp only [maxLen]; omega) (by omega)) rfl rfl rfl (fun _ _ _ w hw=>hw.sel Sel.nil) ?_)
   rintro u1 _ ⟨σ1,hO1,rfl⟩
   refine CL (a_b rfl (EC (by_:=16) (s:=2) (σ:=ρ) (w0:=.slice (cutP (q) c j 2) (l.length - j) (c - j)) (news:=(l.drop j).flatMap encS) (m:=(l.drop j).length) rfl rfl rfl rfl rfl rfl rfl hO1 takeZ (slE_lo encS_len hv2 hcap.le hj rfl) (fun b o h=>cellsR h memZ) (ones_S _) (by rw [List.length_drop]; simp only [maxLen]; omega) (by rw [List.length_drop]; omega)) rfl rfl rfl (fun _ _ _ w hw=>hw.sel Sel.nil) ?_)
   rintro u2 _ ⟨σ2,hO2,rfl⟩;refine BW ?_;refine A8 ?_
   skip
   refine AI (res1 rfl rfl) rsubZ selZ ⟨σ2,?_,rfl⟩;rw [hE]
   have e:k + 1 + (l.drop j).length = (l.take k ++ z :: l.drop j).length:=by rw [List.length_append,List.length_take,List.length_cons]; omega
   rw [e] at hO2;rw [List.flatMap_append,List.flatMap_cons,← List.append_assoc];exact hO2
end Go.Proofs.YtphehihohghfoaaGreat
/- Sets of the document: intersection, equality. -/
namespace Go.Proofs.YtphehihohghfoaaGreat
open Go.Eng Go.Step
set_option maxRecDepth 100000
set_option maxHeartbeats 4000000

end Go.Proofs.YtphehihohghfoaaGreat
/- Joins and meets of the document. -/
namespace Go.Proofs.YtphehihohghfoaaGreat
open Go.Eng Go.Step
set_option maxRecDepth 100000
set_option maxHeartbeats 4000000

end Go.Proofs.YtphehihohghfoaaGreat
/- The arcs of the network, as the document lists them. No program in sight. No conditions. -/
namespace Go.Step
def waitT (qs:List Int) (hs:List Hd) (d:Dm) (n t:Int):List EA:=(rngI d.r t).map (fun u=>⟨⟨vtx d n u,vtx d n (u + 1),roomT qs hs d n u⟩,-1,u⟩)
theorem waitT_nil (qs:List Int) (hs:List Hd) (d:Dm) (n:Int):waitT qs hs d n d.r = []:=by
  unfold waitT;rw [rngI_nil (Int.le_refl _)]
  rfl
theorem waitT_snoc {qs:List Int} {hs:List Hd} {d:Dm} {n t:Int} (h:d.r ≤ t):waitT qs hs d n (t + 1) = waitT qs hs d n t ++ [⟨⟨vtx d n t,vtx d n (t + 1),roomT qs hs d n t⟩,-1,t⟩]:=by
  unfold waitT;rw [rngI_snoc h,List.map_append]
  rfl
theorem waitT_end (qs:List Int) (hs:List Hd) (d:Dm) (n:Int):waitT qs hs d n d.e = waitN qs hs d n:=rfl
theorem waitT_len (qs:List Int) (hs:List Hd) (d:Dm) (n t:Int):(waitT qs hs d n t).length = (t - d.r).toNat:=by unfold waitT; rw [List.length_map,rngI_len]
def conT (d:Dm) (c:Ct) (i:Int) (G:List (Int × Int)) (t:Int):List EA:=((rngI (max c.s d.r) t).filter (fun u=>memI G u)).map (conE d c i)
theorem conT_nil (d:Dm) (c:Ct) (i:Int) (G:List (Int × Int)):conT d c i G (max c.s d.r) = []:=by
  unfold conT;rw [rngI_nil (Int.le_refl _)]
  rfl
theorem conT_snoc {d:Dm} {c:Ct} {i:Int} {G:List (Int × Int)} {t:Int} (h:max c.s d.r ≤ t):conT d c i G (t + 1) = conT d c i G t ++ (if memI G t = true then [conE d c i t] else []):=by
  unfold conT;rw [rngI_snoc h,List.filter_append,List.map_append]
  congr 1
  by_cases hm:memI G t = true
  · rw [if_pos hm,List.filter_cons_of_pos hm]; rfl
  · rw [if_neg hm,List.filter_cons_of_neg hm]; rfl
theorem conT_len (d:Dm) (c:Ct) (i:Int) (G:List (Int × Int)) (t:Int):(conT d c i G t).length ≤ (t - max c.s d.r).toNat:=by
  unfold conT;rw [List.length_map];exact Nat.le_trans (List.length_filter_le _ _) (Nat.le_of_eq (rngI_len _ _))
section
variable {qs:List Int} {cs:List Ct} {bs:List Bk} {hs:List Hd} {d:Dm}
theorem conT_end (h:VOk qs cs bs hs d) {i:Nat} {c:Ct} (hc:cs[i]? = some c) {t:Int} (ht:¬ (t < c.e ∧ t + 1 + c.g ≤ d.e)) (h2:∀ u,max c.s d.r ≤ u → u < t → u < c.e ∧ u + 1 + c.g ≤ d.e):conT d c i (freeC cs bs i) t = conN cs bs d i:=by
  obtain ⟨n1,_,n3⟩:=h.free hc
  have k:=h.ct c (List.mem_of_getElem? hc)
  unfold conN;rw [hc]
  show _ = (tickL d.r d.e c.g (freeC cs bs i)).map (conE d c i)
  unfold conT
  congr 1
  refine asc_ext ((rngI_asc _ _).filter _) (tickL_asc n1) (fun u=>?_)
  rw [mem_tickL,List.mem_filter,mem_rngI]
  constructor
  · rintro ⟨⟨a1,a2⟩,a3⟩
    have:=h2 u a1 a2
    exact ⟨a3,by omega,by omega⟩
  · rintro ⟨a1,a2,a3⟩
    have a4:=a1
    rw [n3,Bool.and_eq_true,decide_eq_true_eq] at a4
    refine ⟨⟨by omega,?_⟩,a1⟩
    by_cases hu:u < t
    · exact hu
    · exact absurd (by omega) ht
theorem VOk.waitA_le (h:VOk qs cs bs hs d) {m:Nat} (hm:m ≤ qs.length):(waitA qs hs d m).length ≤ 1600:=by
  have h1:=waitA_len qs hs d m
  have h2:=h.nq
  have h3:=h.dm.2.2.2.2
  have h4:(d.e - d.r).toNat ≤ 100:=by omega
  have:=Nat.mul_le_mul (show m ≤ 16 by omega) h4
  omega
theorem VOk.conA_le (h:VOk qs cs bs hs d) {m:Nat} (hm:m ≤ cs.length):(conA cs bs d m).length ≤ 6400:=by
  have h1:=h.conA_len m
  have h2:=h.nc
  have h3:=h.dm.2.2.2.2
  have h4:(d.e - d.r).toNat ≤ 100:=by omega
  have:=Nat.mul_le_mul (show m ≤ 64 by omega) h4
  omega
theorem VOk.free_chk (h:VOk qs cs bs hs d) {i:Nat} {c:Ct} (hc:cs[i]? = some c):chkI (freeC cs bs i) = 0 ∧ (freeC cs bs i).length ≤ 513:=by
  obtain ⟨n1,n2,_⟩:=h.free hc
  have hl:(freeC cs bs i).length ≤ 513:=by
    have hf:freeC cs bs i = gapsP c.e c.s (busyL bs i):=by unfold freeC; rw [hc]
    rw [hf]
    have a:=gapsP_len c.e (busyL bs i) c.s
    have b:=busyL_len bs i
    have:=h.nb
    omega
  have k:=h.ct c (List.mem_of_getElem? hc)
  refine ⟨chkI_of (by omega) n1 (fun x hx=>?_),hl⟩
  have a:=n1.1 x hx
  have b:=n2 x hx
  exact ⟨a,by omega,by omega⟩
end
end Go.Step
/- The document's arcs. -/
namespace Go.Proofs.YtphehihohghfoaaGreat
open Go.Eng Go.Step
set_option maxRecDepth 100000
set_option maxHeartbeats 4000000

theorem refCheck53_spec {ρ τ σ υ:PH} {pq pc pb ph:Option Addr} {kq kc kb kh:Nat} {qs:List Int} {cs:List Ct} {bs:List Bk} {hs:List Hd} (hT:TbAt ρ τ σ υ pq pc pb ph kq kc kb kh qs cs bs hs) (d:Dm):Ans Tryz.prog (fv 28) [.agg #[.slice pq qs.length kq,.slice pc cs.length kc,.slice pb bs.length kb,.slice ph hs.length kh],.agg #[int d.s,int d.d,int d.v,int d.r,int d.e]] [ρ,τ,σ,υ] (fun r=>r = .bool (validT qs cs bs hs d)):=by
 have hct:=refChkTab_spec hT
 have hd:=demand53_spec pq pc kq kc qs.length cs.length d
 refine spec_in (cap:=[]) Tryz.func28 rfl rfl Tryz.ntmps28 rfl envZ (fun N β=>?_)
 refine AD ?_;refine AA ?_;refine BI (BK rfl) rfl rfl rfl ?_;rintro _ _ ⟨b1,rfl,rfl⟩;refine AS (ρ:=sng b1 _) takeZ ?_
 have ct:RdN (sng b1 (.cells #[.slice pq qs.length kq,.slice pc cs.length kc,.slice pb bs.length kb,.slice ph hs.length kh] 29 (0,0))) b1 0 [.slice pq qs.length kq,.slice pc cs.length kc,.slice pb bs.length kb,.slice ph hs.length kh]:=rdN_sng (vs:=[.slice pq qs.length kq,.slice pc cs.length kc,.slice pb bs.length kb,.slice ph hs.length kh])
 have ct0:rdc (sng b1 (.cells #[.slice pq qs.length kq,.slice pc cs.length kc,.slice pb bs.length kb,.slice ph hs.length kh] 29 (0,0))) b1 0 = some (.slice pq qs.length kq):=by rw [rdc_sng]; rfl
 have ct1:rdc (sng b1 (.cells #[.slice pq qs.length kq,.slice pc cs.length kc,.slice pb bs.length kb,.slice ph hs.length kh] 29 (0,0))) b1 1 = some (.slice pc cs.length kc):=by rw [rdc_sng]; rfl
 have ct2:rdc (sng b1 (.cells #[.slice pq qs.length kq,.slice pc cs.length kc,.slice pb bs.length kb,.slice ph hs.length kh] 29 (0,0))) b1 2 = some (.slice pb bs.length kb):=by rw [rdc_sng]; rfl
 have ct3:rdc (sng b1 (.cells #[.slice pq qs.length kq,.slice pc cs.length kc,.slice pb bs.length kb,.slice ph hs.length kh] 29 (0,0))) b1 3 = some (.slice ph hs.length kh):=by rw [rdc_sng]; rfl
 have ctp:RdP (sng b1 (.cells #[.slice pq qs.length kq,.slice pc cs.length kc,.slice pb bs.length kb,.slice ph hs.length kh] 29 (0,0))) b1 0 [.slice pq qs.length kq,.slice pc cs.length kc]:=rdP_sng (xs:=[.slice pq qs.length kq,.slice pc cs.length kc,.slice pb bs.length kb,.slice ph hs.length kh]) rfl
 refine BI (BK rfl) rfl rfl rfl ?_;rintro _ _ ⟨b2,rfl,rfl⟩;refine AS (ρ:=sng b2 _) takeZ ?_
 have cd:RdN (sng b2 (.cells #[int d.s,int d.d,int d.v,int d.r,int d.e] 31 (0,0))) b2 0 [int d.s,int d.d,int d.v,int d.r,int d.e]:=rdN_sng (vs:=[int d.s,int d.d,int d.v,int d.r,int d.e])
 have cd0:rdc (sng b2 (.cells #[int d.s,int d.d,int d.v,int d.r,int d.e] 31 (0,0))) b2 0 = some (int d.s):=by rw [rdc_sng]; rfl
 have cd1:rdc (sng b2 (.cells #[int d.s,int d.d,int d.v,int d.r,int d.e] 31 (0,0))) b2 1 = some (int d.d):=by rw [rdc_sng]; rfl
 have cd2:rdc (sng b2 (.cells #[int d.s,int d.d,int d.v,int d.r,int d.e] 31 (0,0))) b2 2 = some (int d.v):=by rw [rdc_sng]; rfl
 have cd3:rdc (sng b2 (.cells #[int d.s,int d.d,int d.v,int d.r,int d.e] 31 (0,0))) b2 3 = some (int d.r):=by rw [rdc_sng]; rfl
 have cd4:rdc (sng b2 (.cells #[int d.s,int d.d,int d.v,int d.r,int d.e] 31 (0,0))) b2 4 = some (int d.e):=by rw [rdc_sng]; rfl
 refine AC ?_;refine AE ?_;refine AD ?_;refine AA ?_;refine AT ?_;refine A4 hct rfl rfl rdZ rfl rfl ?_;rintro _ rfl
 by_cases hz:chkT qs cs bs hs = 0
 ·rw [hz]
  refine CJ ?_;refine AB ?_;refine AG ?_;refine AT ?_;refine AT ?_;refine A4 hd rfl rfl rdZ rfl rfl ?_;rintro _ rfl
  have hV:validT qs cs bs hs d = okDmB qs.length d:=by unfold validT okDmB; simp [hz]
  rw [hV]
  cases okDmB qs.length d with
  | true =>
   refine AQ ?_;refine AC ?_;refine AE ?_;exact AI (res1 rfl rfl) rsubZ selZ ⟨rfl,rfl⟩
  | false =>
   refine AQ ?_;refine AC ?_;refine AE ?_;exact AI (res1 rfl rfl) rsubZ selZ ⟨rfl,rfl⟩
 ·have hV:validT qs cs bs hs d = false:=decide_eq_false (fun h=>hz h.1)
  rw [hV];refine B8 ?_;refine AB ?_;refine AH rfl rfl rfl ?_;refine AH rfl rfl rfl ?_;refine AH rfl rfl rfl ?_;refine AH rfl rfl rfl ?_;refine AL ?_;refine AC ?_;refine AE ?_;exact AI (res1 rfl rfl) rsubZ selZ ⟨rfl,rfl⟩
theorem refVtx_spec (d:Dm) (n t:Int) (hr:0 ≤ d.r ∧ d.r ≤ d.e ∧ d.e ≤ 1099511627776 ∧ d.e - d.r ≤ 100) (hn:0 ≤ n ∧ n ≤ 1000) (ht:0 ≤ t ∧ t ≤ 2199023255552):Ans Tryz.prog (fv 92) [.agg #[int d.s,int d.d,int d.v,int d.r,int d.e],int n,int t] [] (fun r=>r = int (vtx d n t)):=by
 have hv:vtx d n t = n * (d.e - d.r + 1) + t - d.r:=by unfold vtx wd; omega
 have hm:0 ≤ n * (d.e - d.r + 1) ∧ n * (d.e - d.r + 1) ≤ 1000 * 101:=⟨Int.mul_nonneg hn.1 (by omega),Int.mul_le_mul hn.2 (by omega) (by omega) (by omega)⟩
 rw [hv]
 refine spec_in (cap:=[]) Tryz.func92 rfl rfl Tryz.ntmps92 rfl envZ (fun N β=>?_)
 refine AD ?_;refine AA ?_;refine BI (BK rfl) rfl rfl rfl ?_;rintro _ _ ⟨b2,rfl,rfl⟩;refine AS (ρ:=sng b2 _) takeZ ?_
 have cd:RdN (sng b2 (.cells #[int d.s,int d.d,int d.v,int d.r,int d.e] 31 (0,0))) b2 0 [int d.s,int d.d,int d.v,int d.r,int d.e]:=rdN_sng (vs:=[int d.s,int d.d,int d.v,int d.r,int d.e])
 have cd0:rdc (sng b2 (.cells #[int d.s,int d.d,int d.v,int d.r,int d.e] 31 (0,0))) b2 0 = some (int d.s):=by rw [rdc_sng]; rfl
 have cd1:rdc (sng b2 (.cells #[int d.s,int d.d,int d.v,int d.r,int d.e] 31 (0,0))) b2 1 = some (int d.d):=by rw [rdc_sng]; rfl
 have cd2:rdc (sng b2 (.cells #[int d.s,int d.d,int d.v,int d.r,int d.e] 31 (0,0))) b2 2 = some (int d.v):=by rw [rdc_sng]; rfl
 have cd3:rdc (sng b2 (.cells #[int d.s,int d.d,int d.v,int d.r,int d.e] 31 (0,0))) b2 3 = some (int d.r):=by rw [rdc_sng]; rfl
 have cd4:rdc (sng b2 (.cells #[int d.s,int d.d,int d.v,int d.r,int d.e] 31 (0,0))) b2 4 = some (int d.e):=by rw [rdc_sng]; rfl
 refine AC ?_;refine AE ?_;refine AD ?_;refine AA ?_;refine AB ?_;refine AG ?_;refine AF ?_;refine AG ?_;refine AF ?_;refine CY ?_;refine CC ?_;refine EX ?_;refine AB ?_;refine CC ?_;refine AG ?_;refine AF ?_;refine CY ?_;refine AC ?_;refine AE ?_;exact AI (res1 rfl rfl) rsubZ selZ ⟨rfl,rfl⟩
set_option maxHeartbeats 32000000 in
theorem refGaps_spec {ρ τ σ υ:PH} {pq pc pb ph:Option Addr} {kq kc kb kh:Nat} {qs:List Int} {cs:List Ct} {bs:List Bk} {hs:List Hd} (hT:TbAt ρ τ σ υ pq pc pb ph kq kc kb kh qs cs bs hs) (i:Nat) (x:Ct) (hx:cs[i]? = some x) (hbl:bs.length ≤ 512) :
  Makes Tryz.prog (fv 110) [.agg #[.slice pq qs.length kq,.slice pc cs.length kc],.slice pb bs.length kb,int (i:Int)] [ρ,τ,σ] (fun r χ=>OwnS 93 2 r (freeC cs bs i).length ((freeC cs bs i).flatMap encS) χ):=by
 have hbusy:=refBusy_spec σ _ bs i hT.hb (by omega)
 have hbll:=busyL_len bs i
 have hfc:freeC cs bs i = gapsP x.e x.s (busyL bs i):=by unfold freeC; rw [hx]
 have hgl:=gapsP_len x.e (busyL bs i) x.s
 rw [hfc]
 have hi:=(List.getElem?_eq_some_iff.1 hx).1
 obtain ⟨bq,oq,e4,hrd⟩:=ctRow hT.rc hx
 have q2:rdc τ bq (oq + i * 7 + 2) = some (int x.s):=hrd.get (j:=2) rfl
 have q3:rdc τ bq (oq + i * 7 + 3) = some (int x.e):=hrd.get (j:=3) rfl
 refine spec_in (cap:=[]) Tryz.func110 rfl rfl Tryz.ntmps110 rfl envZ (fun N β=>?_)
 refine AD ?_;refine AA ?_;refine BI (BK rfl) rfl rfl rfl ?_;rintro _ _ ⟨b3,rfl,rfl⟩;refine AS (ρ:=sng b3 _) takeZ ?_
 have c:RdN (sng b3 (.cells #[.slice pq qs.length kq,.slice pc cs.length kc] 25 (0,0))) b3 0 [.slice pq qs.length kq,.slice pc cs.length kc]:=rdN_sng (vs:=[.slice pq qs.length kq,.slice pc cs.length kc])
 have c0:rdc (sng b3 (.cells #[.slice pq qs.length kq,.slice pc cs.length kc] 25 (0,0))) b3 0 = some (.slice pq qs.length kq):=by rw [rdc_sng]; rfl
 have c1:rdc (sng b3 (.cells #[.slice pq qs.length kq,.slice pc cs.length kc] 25 (0,0))) b3 1 = some (.slice pc cs.length kc):=by rw [rdc_sng]; rfl
 refine BV ?_;subst e4;refine AC ?_;refine AE ?_;refine AD ?_;refine AA ?_;refine AC ?_;refine AE ?_;refine AD ?_;refine AA ?_;refine AG ?_;refine AF ?_;refine AB ?_;refine A3 ?_;refine B0 ?_;refine AF ?_;refine AC ?_;refine AE ?_;refine AD ?_;refine AA ?_;refine AB ?_;refine AB ?_;refine BM hbusy rfl rfl rdZ rfl rfl ?_;rintro w χb hOb
 have hSb:=hOb.at
 obtain ⟨pw,kw,rfl⟩:=hOb.form
 obtain ⟨_,_,ew,hrw⟩:=SlE.val (enc:=encS) encS_len (show SlE encS 2 χb _ (busyL bs i) from hSb)
 simp only [Value.slice.injEq] at ew
 obtain ⟨rfl,_,rfl⟩:=ew
 refine AS (ρ:=χb) takeZ ?_
 generalize busyL bs i = L at hbll hOb hSb hrw hgl
 refine AC ?_;refine AE ?_;refine AD ?_;refine AD ?_;refine AA ?_;refine AC ?_;refine AE ?_;refine AP ?_
 refine BB [2,3,9] (X:=Nat × Int × List (Int × Int) × Value × PH) (0,x.s,[],.slice none 0 0,emp) (fun z=>z.1 ≤ L.length ∧ gapsP x.e x.s L = z.2.2.1 ++ gapsP x.e z.2.1 (L.drop z.1) ∧ OwnS 93 2 z.2.2.2.1 z.2.2.1.length (z.2.2.1.flatMap encS) z.2.2.2.2) (fun z=>[(10,int z.1),(8,int z.2.1),(7,z.2.2.2.1)]) (fun z=>[z.2.2.2.2]) (fun z=>L.length - z.1) pickZ ⟨by dsimp only; omega,rfl,OwnS.nil _ _⟩ covZ selZ ?_
 rintro ⟨k,a,G,u,χ⟩ ⟨hk,hG,hO⟩
 dsimp only at hk hG hO ⊢
 have hGl:G.length ≤ L.length + 1:=by
  have:=congrArg List.length hG
  rw [List.length_append] at this;omega
 by_cases hlt:k < L.length
 ·have hy:=List.getElem?_eq_getElem hlt
  have hga:=gapsP_at (e:=x.e) hlt a
  obtain ⟨b6,o6,rfl,hRd6,y0,y1⟩:=spRow hrw hy
  generalize L[k] = y at hy hga hRd6 y0 y1
  by_cases hc:a < y.1
  ·rw [if_pos hc] at hga
   refine AD ?_;refine AD ?_;refine AA ?_;refine AB ?_;refine AB ?_;refine AV ?_;refine BD ?_;refine AE ?_;refine AO rfl ?_;refine AK ?_;refine AD ?_;refine AP ?_;refine AD ?_;refine AD ?_;refine AA ?_;refine AB ?_;refine AB ?_;refine AB ?_;refine A3 ?_;refine CH ?_;refine AF ?_;refine BD ?_;refine AE ?_;refine AO rfl ?_;refine AA ?_;refine AB ?_;refine AB ?_;refine AB ?_;refine AB ?_;refine A3 ?_;refine CH ?_;refine AF ?_;refine BT ?_;refine A9 ?_; rintro _ _ ⟨b,rfl,rfl⟩
   refine BI (BP (by_:=16) (s:=2) (news:=[int a,int y.1]) rfl rfl rfl rfl rfl rfl rfl hO takeZ (cells_own memZ) rfl (by (repeat (first | exact (fun v hv=>absurd hv List.not_mem_nil) | (refine List.forall_mem_cons.2 ⟨?_,?_⟩; (focus (first | exact rfl | assumption))))); first | done | fail) (by omega) (by simp only [maxLen]; omega) (by omega)) rfl rfl rfl ?_
   rintro u1 _ ⟨χ1,hO1,rfl⟩;refine AC ?_;refine AE ?_;refine AA ?_;refine AB ?_;refine AB ?_;refine A3 ?_;refine B0 ?_;refine AF ?_;refine AC ?_;refine AE ?_;refine AZ ?_;refine AA ?_;refine AB ?_;refine A7 ?_;refine AC ?_;refine AE ?_
   refine AU (k + 1,y.2,G ++ [(a,y.1)],u1,χ1) ⟨by dsimp only; omega,?_,?_⟩ (by dsimp only; omega) covZ selZ
   ·dsimp only
    rw [hG,hga,List.append_assoc]
   ·dsimp only
    rw [List.length_append,List.flatMap_append];exact hO1
  ·rw [if_neg hc,List.nil_append] at hga
   refine AD ?_;refine AD ?_;refine AA ?_;refine AB ?_;refine AB ?_;refine AV ?_;refine BD ?_;refine AE ?_;refine AO rfl ?_;refine AK ?_;refine AD ?_;refine AP ?_;refine AD ?_;refine AD ?_;refine AA ?_;refine AB ?_;refine AB ?_;refine AB ?_;refine A3 ?_;refine CH ?_;refine AF ?_;refine AY ?_;refine AE ?_;refine AN rfl ?_;refine AK ?_;refine AA ?_;refine AB ?_;refine AB ?_;refine A3 ?_;refine B0 ?_;refine AF ?_;refine AC ?_;refine AE ?_;refine AZ ?_;refine AA ?_;refine AB ?_;refine A7 ?_;refine AC ?_;refine AE ?_
   refine AU (k + 1,y.2,G,u,χ) ⟨by dsimp only; omega,?_,hO⟩ (by dsimp only; omega) covZ selZ
   dsimp only
   rw [hG,hga]
 ·have hke:k = L.length:=by omega
  subst hke
  have hfin:gapsP x.e x.s L = G ++ (if a < x.e then [(a,x.e)] else []):=by
   rw [hG,List.drop_length]
   rfl
  rw [hfin]
  by_cases hc:a < x.e
  ·rw [if_pos hc]
   refine AD ?_;refine AD ?_;refine AA ?_;refine AB ?_;refine AB ?_;refine AV ?_;refine AY ?_;refine AE ?_;refine AN rfl ?_;refine A5 rfl ?_;refine AD ?_;refine AD ?_;refine AA ?_;refine AB ?_;refine AG ?_;refine AF ?_;refine AB ?_;refine A3 ?_;refine B0 ?_;refine AF ?_;refine BD ?_;refine AE ?_;refine AO rfl ?_;refine AA ?_;refine AB ?_;refine AB ?_;refine AG ?_;refine AF ?_;refine AB ?_;refine A3 ?_;refine B0 ?_;refine AF ?_;refine BT ?_;refine A9 ?_; rintro _ _ ⟨b,rfl,rfl⟩
   refine BI (BP (by_:=16) (s:=2) (news:=[int a,int x.e]) rfl rfl rfl rfl rfl rfl rfl hO takeZ (cells_own memZ) rfl (by (repeat (first | exact (fun v hv=>absurd hv List.not_mem_nil) | (refine List.forall_mem_cons.2 ⟨?_,?_⟩; (focus (first | exact rfl | assumption))))); first | done | fail) (by omega) (by simp only [maxLen]; omega) (by omega)) rfl rfl rfl ?_
   rintro u1 _ ⟨χ1,hO1,rfl⟩;refine AC ?_;refine AE ?_;refine AD ?_;refine AA ?_;refine AB ?_;refine AC ?_;refine AE ?_;refine AI (res1 rfl rfl) rsubZ selZ ⟨χ1,?_,rfl⟩;rw [List.length_append,List.flatMap_append];exact hO1
  ·rw [if_neg hc,List.append_nil]
   refine AD ?_;refine AD ?_;refine AA ?_;refine AB ?_;refine AB ?_;refine AV ?_;refine AY ?_;refine AE ?_;refine AN rfl ?_;refine A5 rfl ?_;refine AD ?_;refine AD ?_;refine AA ?_;refine AB ?_;refine AG ?_;refine AF ?_;refine AB ?_;refine A3 ?_;refine B0 ?_;refine AF ?_;refine AY ?_;refine AE ?_;refine AN rfl ?_;refine AK ?_;refine AD ?_;refine AA ?_;refine AB ?_;refine AC ?_;refine AE ?_;exact AI (res1 rfl rfl) rsubZ selZ ⟨χ,hO,rfl⟩
def encRA (x:EA):List Value:=[int x.a.f,int x.a.t,int x.a.c,int x.c,int x.t]
theorem encRA_len (x:EA):(encRA x).length = 5:=rfl
set_option maxHeartbeats 64000000 in
theorem refArcs_spec {ρ τ σ υ:PH} {pq pc pb ph:Option Addr} {kq kc kb kh:Nat} {qs:List Int} {cs:List Ct} {bs:List Bk} {hs:List Hd} (hT:TbAt ρ τ σ υ pq pc pb ph kq kc kb kh qs cs bs hs) (d:Dm) (h:VOk qs cs bs hs d) :
  Makes Tryz.prog (fv 78) [.agg #[.slice pq qs.length kq,.slice pc cs.length kc,.slice pb bs.length kb,.slice ph hs.length kh],.agg #[int d.s,int d.d,int d.v,int d.r,int d.e]] [ρ,τ,σ,υ] (fun r χ=>OwnS 161 5 r (arcsE qs cs bs hs d).length ((arcsE qs cs bs hs d).flatMap encRA) χ):=by
 have hdm:=h.dm
 unfold okDm at hdm
 have hnq:=h.nq
 have hnc:=h.nc
 refine spec_in (cap:=[]) Tryz.func78 rfl rfl Tryz.ntmps78 rfl envZ (fun N β=>?_)
 refine AD ?_;refine AA ?_;refine BI (BK rfl) rfl rfl rfl ?_;rintro _ _ ⟨b1,rfl,rfl⟩;refine AS (ρ:=sng b1 _) takeZ ?_
 have ct:RdN (sng b1 (.cells #[.slice pq qs.length kq,.slice pc cs.length kc,.slice pb bs.length kb,.slice ph hs.length kh] 29 (0,0))) b1 0 [.slice pq qs.length kq,.slice pc cs.length kc,.slice pb bs.length kb,.slice ph hs.length kh]:=rdN_sng (vs:=[.slice pq qs.length kq,.slice pc cs.length kc,.slice pb bs.length kb,.slice ph hs.length kh])
 have ct0:rdc (sng b1 (.cells #[.slice pq qs.length kq,.slice pc cs.length kc,.slice pb bs.length kb,.slice ph hs.length kh] 29 (0,0))) b1 0 = some (.slice pq qs.length kq):=by rw [rdc_sng]; rfl
 have ct1:rdc (sng b1 (.cells #[.slice pq qs.length kq,.slice pc cs.length kc,.slice pb bs.length kb,.slice ph hs.length kh] 29 (0,0))) b1 1 = some (.slice pc cs.length kc):=by rw [rdc_sng]; rfl
 have ct2:rdc (sng b1 (.cells #[.slice pq qs.length kq,.slice pc cs.length kc,.slice pb bs.length kb,.slice ph hs.length kh] 29 (0,0))) b1 2 = some (.slice pb bs.length kb):=by rw [rdc_sng]; rfl
 have ct3:rdc (sng b1 (.cells #[.slice pq qs.length kq,.slice pc cs.length kc,.slice pb bs.length kb,.slice ph hs.length kh] 29 (0,0))) b1 3 = some (.slice ph hs.length kh):=by rw [rdc_sng]; rfl
 have ctp:RdP (sng b1 (.cells #[.slice pq qs.length kq,.slice pc cs.length kc,.slice pb bs.length kb,.slice ph hs.length kh] 29 (0,0))) b1 0 [.slice pq qs.length kq,.slice pc cs.length kc]:=rdP_sng (xs:=[.slice pq qs.length kq,.slice pc cs.length kc,.slice pb bs.length kb,.slice ph hs.length kh]) rfl
 refine BI (BK rfl) rfl rfl rfl ?_;rintro _ _ ⟨b2,rfl,rfl⟩;refine AS (ρ:=sng b2 _) takeZ ?_
 have cd:RdN (sng b2 (.cells #[int d.s,int d.d,int d.v,int d.r,int d.e] 31 (0,0))) b2 0 [int d.s,int d.d,int d.v,int d.r,int d.e]:=rdN_sng (vs:=[int d.s,int d.d,int d.v,int d.r,int d.e])
 have cd0:rdc (sng b2 (.cells #[int d.s,int d.d,int d.v,int d.r,int d.e] 31 (0,0))) b2 0 = some (int d.s):=by rw [rdc_sng]; rfl
 have cd1:rdc (sng b2 (.cells #[int d.s,int d.d,int d.v,int d.r,int d.e] 31 (0,0))) b2 1 = some (int d.d):=by rw [rdc_sng]; rfl
 have cd2:rdc (sng b2 (.cells #[int d.s,int d.d,int d.v,int d.r,int d.e] 31 (0,0))) b2 2 = some (int d.v):=by rw [rdc_sng]; rfl
 have cd3:rdc (sng b2 (.cells #[int d.s,int d.d,int d.v,int d.r,int d.e] 31 (0,0))) b2 3 = some (int d.r):=by rw [rdc_sng]; rfl
 have cd4:rdc (sng b2 (.cells #[int d.s,int d.d,int d.v,int d.r,int d.e] 31 (0,0))) b2 4 = some (int d.e):=by rw [rdc_sng]; rfl
 refine AC ?_;refine AE ?_;refine AD ?_;refine AA ?_;refine A9 ?_; rintro _ _ ⟨b,rfl,rfl⟩;refine AC ?_;refine AE ?_;refine AD ?_;refine AD ?_;refine AA ?_;refine AC ?_;refine AE ?_;refine AP ?_
 revert b; intro bo
 refine BB [2,3] (X:=Nat × Value × PH) (0,.slice (some ⟨bo,0,none⟩) 0 0,sng bo (.cells #[] 161 (0,0))) (fun z=>z.1 ≤ qs.length ∧ OwnS 161 5 z.2.1 (waitA qs hs d z.1).length ((waitA qs hs d z.1).flatMap encRA) z.2.2) (fun z=>[(6,int z.1),(5,z.2.1)]) (fun z=>[z.2.2]) (fun z=>qs.length - z.1) pickZ ⟨by dsimp only; omega,OwnS.empty⟩ covZ selZ ?_
 rintro ⟨n,u,σo⟩ ⟨hn,hO⟩
 dsimp only at hn hO ⊢
 by_cases hlt:n < qs.length
 rotate_left
 ·have hne:n = qs.length:=by omega
  subst hne
  have hWl:=h.waitA_le (Nat.le_refl _)
  have hWE:arcsE qs cs bs hs d = waitA qs hs d qs.length ++ conA cs bs d cs.length:=rfl
  rw [hWE]
  generalize waitA qs hs d qs.length = W at hO hWl
  refine AD ?_;refine AD ?_;refine AA ?_;refine AB ?_;refine AG ?_;refine AG ?_;refine AF ?_;refine AV ?_;refine AY ?_;refine AE ?_;refine AN rfl ?_;refine A5 rfl ?_;refine AD ?_;refine AD ?_;refine AA ?_;refine AC ?_;refine AE ?_;refine AP ?_
  refine BB [2,3] (X:=Nat × Value × PH) (0,u,σo) (fun z=>z.1 ≤ cs.length ∧ OwnS 161 5 z.2.1 (W ++ conA cs bs d z.1).length ((W ++ conA cs bs d z.1).flatMap encRA) z.2.2) (fun z=>[(9,int z.1),(5,z.2.1)]) (fun z=>[z.2.2]) (fun z=>cs.length - z.1) pickZ ⟨by dsimp only; omega,by dsimp only; rw [show conA cs bs d 0 = [] from rfl,List.append_nil]; exact hO⟩ covZ selZ ?_
  rintro ⟨i,u,σo⟩ ⟨hi,hO⟩
  dsimp only at hi hO ⊢
  by_cases hil:i < cs.length
  rotate_left
  ·have hie:i = cs.length:=by omega
   subst hie;refine AD ?_;refine AD ?_;refine AA ?_;refine AB ?_;refine AG ?_;refine AG ?_;refine AF ?_;refine AV ?_;refine AY ?_;refine AE ?_;refine AN rfl ?_;refine A5 rfl ?_;refine AD ?_;refine AA ?_;refine AB ?_;refine AC ?_;refine AE ?_;exact AI (res1 rfl rfl) rsubZ selZ ⟨σo,hO,rfl⟩
  have hx:=List.getElem?_eq_getElem hil
  have hCl:=h.conA_le (m:=i) (by omega)
  have hend:=fun t=>conT_end h (t:=t) hx
  obtain ⟨hfc,hfl⟩:=h.free_chk hx
  have hmem:=fun t=>(h.free hx).2.2 t
  have k:=h.ct _ (List.mem_of_getElem? hx)
  have hgp:=refGaps_spec hT i _ hx h.nb
  obtain ⟨bq,oq,e4,hrd⟩:=ctRow hT.rc hx
  have hnx:conA cs bs d (i + 1) = conA cs bs d i ++ conN cs bs d i:=rfl
  generalize cs[i] = c at hx hend k hrd hmem
  generalize conN cs bs d i = CN at hend hnx
  generalize conA cs bs d i = CA at hO hCl hnx
  subst e4;refine AD ?_;refine AD ?_;refine AA ?_;refine AB ?_;refine AG ?_;refine AG ?_;refine AF ?_;refine AV ?_;refine BD ?_;refine AE ?_;refine AO rfl ?_;refine AK ?_;refine AD ?_;refine AP ?_;refine AD ?_;refine AA ?_;refine AG ?_;refine AG ?_;refine AF ?_;refine AB ?_;refine A3 ?_;refine AT ?_;refine A2 ?_; rintro _ _ ⟨b,rfl,rfl⟩;refine AX ?_; rintro _ _ ⟨rfl,rfl⟩;refine AE ?_;refine AD ?_;refine AA ?_;refine AG ?_;refine AT ?_;refine AG ?_;refine AF ?_;refine AB ?_
  revert b; intro b10
  refine BM hgp rfl rfl rdZ rfl rfl ?_;rintro uf χf hOf
  have hSf:SpAt χf uf (freeC cs bs i):=hOf.at
  obtain ⟨pf,kf,rfl⟩:=hOf.form
  generalize freeC cs bs i = G at hfc hfl hend hOf hSf hmem
  refine AC ?_;refine AE ?_;refine AD ?_;refine AA ?_;refine AG ?_;refine AF ?_;refine AG ?_;refine AF ?_;refine EY ?_;refine AC ?_;refine AE ?_;refine AP ?_
  refine BB [2,3,9,10,11] (X:=Int × Value × PH) (max c.s d.r,u,σo) (fun z=>max c.s d.r ≤ z.1 ∧ (∀ v,max c.s d.r ≤ v → v < z.1 → v < c.e ∧ v + 1 + c.g ≤ d.e) ∧ OwnS 161 5 z.2.1 (W ++ (CA ++ conT d c i G z.1)).length ((W ++ (CA ++ conT d c i G z.1)).flatMap encRA) z.2.2) (fun z=>[(12,int z.1),(5,z.2.1)]) (fun z=>[z.2.2,sng b10 (.cells #[int c.f,int c.t,int c.s,int c.e,int c.r,int c.g,int c.l] 57 (0,0)),χf]) (fun z=>(c.e - z.1).toNat) pickZ ⟨by dsimp only; omega,fun v h1 h2=>by dsimp only at h2; omega,by dsimp only; rw [conT_nil,List.append_nil]; exact hO⟩ covZ selZ ?_
  rintro ⟨t,u,σo⟩ ⟨ht1,hin,hO⟩
  dsimp only at ht1 hin hO ⊢
  have htl:(t - max c.s d.r).toNat ≤ 100:=by
   by_cases hq:max c.s d.r < t
   ·have:=hin (t - 1) (by omega) (by omega)
    omega
   ·omega
  have hcl:=conT_len d c i G t
  have htot:(W ++ (CA ++ conT d c i G t)).length ≤ 8100:=by rw [List.length_append,List.length_append]; omega
  by_cases c1:t < c.e
  rotate_left
  ·have he:=hend t (fun h=>c1 h.1) hin
   refine AD ?_;refine AD ?_;refine AA ?_;refine AB ?_;refine AG ?_;refine AF ?_;refine AY ?_;refine AB ?_;refine AH rfl rfl rfl ?_;refine AH rfl rfl rfl ?_;refine AH rfl rfl rfl ?_;refine AH rfl rfl rfl ?_;refine AH rfl rfl rfl ?_;refine AH rfl rfl rfl ?_;refine AH rfl rfl rfl ?_;refine AH rfl rfl rfl ?_;refine AL ?_;refine AE ?_;refine AN rfl ?_;refine A5 rfl ?_;refine AZ ?_;refine AA ?_;refine AB ?_;refine A7 ?_;refine AC ?_;refine AE ?_
   refine AU (i + 1,u,σo) ⟨by dsimp only; omega,?_⟩ (by dsimp only; omega) covZ selZ
   dsimp only
   rw [hnx,← he];exact hO
  by_cases c2:t + 1 + c.g ≤ d.e
  rotate_left
  ·have he:=hend t (fun h=>c2 h.2) hin
   refine AD ?_;refine AD ?_;refine AA ?_;refine AB ?_;refine AG ?_;refine AF ?_;refine BD ?_;refine AB ?_;refine AB ?_;refine CC ?_;refine AG ?_;refine AF ?_;refine CC ?_;refine AG ?_;refine AF ?_;refine CU ?_;refine AQ ?_;refine AE ?_;refine AN rfl ?_;refine A5 rfl ?_;refine AZ ?_;refine AA ?_;refine AB ?_;refine A7 ?_;refine AC ?_;refine AE ?_
   refine AU (i + 1,u,σo) ⟨by dsimp only; omega,?_⟩ (by dsimp only; omega) covZ selZ
   dsimp only
   rw [hnx,← he];exact hO
  have hin2:∀ v,max c.s d.r ≤ v → v < t + 1 → v < c.e ∧ v + 1 + c.g ≤ d.e:=fun v h1 h2=>by
   by_cases hq:v < t
   ·exact hin v h1 hq
   ·have:v = t:=by omega
    subst this;exact ⟨c1,c2⟩
  have hhas:=refHas_spec χf (.slice pf G.length kf) G t hSf (by omega)
  rw [hasI_mem hfc] at hhas
  have hsn:=conT_snoc (d:=d) (c:=c) (i:=i) (G:=G) ht1
  have hv1:=refVtx_spec d c.f t (by omega) (by omega) (by omega)
  have hv2:=refVtx_spec d c.t (t + 1 + c.g) (by omega) (by omega) (by omega)
  refine AD ?_;refine AD ?_;refine AA ?_;refine AB ?_;refine AG ?_;refine AF ?_;refine BD ?_;refine AB ?_;refine AB ?_;refine CC ?_;refine AG ?_;refine AF ?_;refine CC ?_;refine AG ?_;refine AF ?_;refine CT ?_;refine AQ ?_;refine AE ?_;refine AO rfl ?_;refine AK ?_;refine AD ?_;refine AP ?_;refine AD ?_;refine AA ?_;refine AB ?_;refine AB ?_;refine A4 hhas rfl rfl rdZ rfl rfl ?_;rintro _ rfl
  cases hm:memI G t with
  | false =>
   rw [hm,if_neg (by simp),List.append_nil] at hsn
   refine AE ?_;refine AN rfl ?_;refine AK ?_;refine AZ ?_;refine AA ?_;refine AB ?_;refine CC ?_;refine AC ?_;refine AE ?_
   refine AU (t + 1,u,σo) ⟨by dsimp only; omega,hin2,?_⟩ (by dsimp only; omega) covZ selZ
   dsimp only
   rw [hsn];exact hO
  | true =>
   rw [hm,if_pos rfl] at hsn
   generalize conT d c i G t = T0 at hO htot hsn
   refine AE ?_;refine AO rfl ?_
   refine A6 (.q 0 (.q 1 (.q 2 (.q 3 (.q 4 (.q 6 (.q 7 (.q 8 (.q 9 (.q 10 (.q 11 (.q 12 (.q 13 (.q 15 (.q 16 (.q 18 (.q 19 (.l 5 .e (.l 14 .e (.q 17 (.q 20 (.l 21 .e (.l 22 .b (.l 23 .b .nil)))))))))))))))))))))))) [] rfl (by kernel_rfl) Sel.nil ?_
   refine AJ ?_;refine BL ?_;refine A0 ?_;refine AR ?_;refine AJ ?_;refine BL ?_;refine A0 ?_;refine AR ?_;refine AJ ?_;refine CW ?_;refine A0 ?_;refine AR ?_;refine CW ?_;refine A0 ?_;refine AR ?_;refine AJ ?_;refine AJ ?_;refine CL (CB rfl hv1 rfl rfl rdZ rfl rfl ?_);rintro _ rfl
   skip
   refine CL (CB rfl hv2 rfl rfl rdZ rfl rfl ?_);rintro _ rfl;refine CD ?_
   focus ((refine' CV rfl _ rfl rfl rfl rfl _; rotate_left; (focus (exact C9 (out:=[int (vtx d c.f t),int (vtx d c.t (t + 1 + c.g)),int c.r,int (i:Int),int t]) rfl rfl rfl rfl rfl))))
   refine BN ?_; rintro _ _ ⟨b,rfl,rfl⟩
   refine CL (a_b rfl (BP (by_:=40) (s:=5) (news:=[int (vtx d c.f t),int (vtx d c.t (t + 1 + c.g)),int c.r,int (i:Int),int t]) rfl rfl rfl rfl rfl rfl rfl hO takeZ (cells_own memZ) rfl (by (repeat (first | exact (fun v hv=>absurd hv List.not_mem_nil) | (refine List.forall_mem_cons.2 ⟨?_,?_⟩; (focus (first | exact rfl | assumption))))); first | done | fail) (by omega) (by simp only [maxLen]; omega) (by omega)) rfl rfl rfl (fun _ _ _ w hw=>hw.sel Sel.nil) ?_)
   rintro u1 _ ⟨σ2,hO2,rfl⟩;refine C5 ?_;refine A8 ?_;refine AZ ?_;refine AA ?_;refine AB ?_;refine CC ?_;refine AC ?_;refine AE ?_
   refine AU (t + 1,u1,σ2) ⟨by dsimp only; omega,hin2,?_⟩ (by dsimp only; omega) covZ selZ
   dsimp only
   rw [hsn,← List.append_assoc,← List.append_assoc,List.length_append,List.flatMap_append,List.append_assoc];exact hO2
 have hWl:=h.waitA_le (m:=n) (by omega)
 have hnx:waitA qs hs d (n + 1) = waitA qs hs d n ++ waitN qs hs d n:=rfl
 have hQ:=List.getElem?_eq_getElem hlt
 obtain ⟨bq,oq,epq,gq⟩:=hT.rq.int hQ
 have hQb:=h.quo _ _ hQ
 have hR:=fun t:Int=>show roomT qs hs d n t = if (n:Int) = d.s ∨ (n:Int) = d.d then 1099511627776 else qs[n] - Step.stored hs n t by
  unfold roomT;rw [Int.toNat_natCast,List.getD_eq_getElem?_getD,hQ,Option.getD_some]
 generalize qs[n] = Q at hQ gq hQb hR
 generalize waitA qs hs d n = W at hO hWl hnx
 subst epq;refine AD ?_;refine AD ?_;refine AA ?_;refine AB ?_;refine AG ?_;refine AG ?_;refine AF ?_;refine AV ?_;refine BD ?_;refine AE ?_;refine AO rfl ?_;refine AK ?_;refine AD ?_;refine AP ?_;refine AD ?_;refine AA ?_;refine AG ?_;refine AF ?_;refine AC ?_;refine AE ?_;refine AP ?_
 refine BB [2,3,6] (X:=Int × Value × PH) (d.r,u,σo) (fun z=>d.r ≤ z.1 ∧ z.1 ≤ d.e ∧ OwnS 161 5 z.2.1 (W ++ waitT qs hs d n z.1).length ((W ++ waitT qs hs d n z.1).flatMap encRA) z.2.2) (fun z=>[(7,int z.1),(5,z.2.1)]) (fun z=>[z.2.2]) (fun z=>(d.e - z.1).toNat) pickZ ⟨by dsimp only; omega,by dsimp only; omega,by dsimp only; rw [waitT_nil,List.append_nil]; exact hO⟩ covZ selZ ?_
 rintro ⟨t,u,σo⟩ ⟨ht1,ht2,hO⟩
 dsimp only at ht1 ht2 hO ⊢
 have htl:=waitT_len qs hs d n t
 have htot:(W ++ waitT qs hs d n t).length ≤ 1800:=by rw [List.length_append]; omega
 by_cases hte:t < d.e
 rotate_left
 ·have hee:t = d.e:=by omega
  subst hee;refine AD ?_;refine AD ?_;refine AA ?_;refine AB ?_;refine AG ?_;refine AF ?_;refine AY ?_;refine AE ?_;refine AN rfl ?_;refine A5 rfl ?_;refine AZ ?_;refine AA ?_;refine AB ?_;refine A7 ?_;refine AC ?_;refine AE ?_
  refine AU (n + 1,u,σo) ⟨by dsimp only; omega,?_⟩ (by dsimp only; omega) covZ selZ
  dsimp only
  rw [hnx,← waitT_end];exact hO
 have hRt:=hR t
 have hv1:=refVtx_spec d n t (by omega) (by omega) (by omega)
 have hv2:=refVtx_spec d n (t + 1) (by omega) (by omega) (by omega)
 have hst:=stored_spec υ (.slice ph hs.length kh) hs n t qs.length hT.hh h.hd (by have:=h.nh; omega)
 have hsb:=stored_bd (n:=(n:Int)) (t:=t) h.hd
 have hnh:=h.nh
 by_cases s1:(n:Int) = d.s
 ·rw [if_pos (.inl s1)] at hRt
  refine AD ?_;refine AD ?_;refine AA ?_;refine AB ?_;refine AG ?_;refine AF ?_;refine BD ?_;refine AE ?_;refine AO rfl ?_;refine AK ?_;refine AD ?_;refine AP ?_;refine AD ?_;refine AA ?_;refine AC ?_;refine AE ?_;refine AD ?_;refine AD ?_;refine AA ?_;refine AB ?_;refine AG ?_;refine AF ?_;refine BE ?_;refine AB ?_;refine AH rfl rfl rfl ?_;refine AH rfl rfl rfl ?_;refine AH rfl rfl rfl ?_;refine AH rfl rfl rfl ?_;refine AL ?_;refine AE ?_;refine AN rfl ?_;refine AK ?_
  refine A6 (.q 0 (.q 1 (.q 2 (.q 3 (.q 5 (.q 6 (.q 7 (.q 8 (.q 10 (.q 12 (.l 4 .e (.l 9 .e (.q 11 (.q 13 (.l 14 .e (.l 15 .b (.l 16 .b .nil))))))))))))))))) [] rfl (by kernel_rfl) Sel.nil ?_
  refine AJ ?_;refine BL ?_;refine AJ ?_;refine AJ ?_;refine BL ?_;refine AJ ?_;refine AJ ?_;refine CW ?_;refine AJ ?_;refine AJ ?_;refine CL (CB rfl hv1 rfl rfl rdZ rfl rfl ?_);rintro _ rfl
  skip
  refine CL (CB rfl hv2 rfl rfl rdZ rfl rfl ?_);rintro _ rfl;refine CD ?_
  focus ((refine' CV rfl _ rfl rfl rfl rfl _; rotate_left; (focus (exact C9 (out:=[int (vtx d n t),int (vtx d n (t + 1)),int 1099511627776,int (-1),int t]) rfl rfl rfl rfl rfl))))
  refine BN ?_; rintro _ _ ⟨b,rfl,rfl⟩
  refine CL (a_b rfl (BP (by_:=40) (s:=5) (news:=[int (vtx d n t),int (vtx d n (t + 1)),int 1099511627776,int (-1),int t]) rfl rfl rfl rfl rfl rfl rfl hO takeZ (cells_own memZ) rfl (by (repeat (first | exact (fun v hv=>absurd hv List.not_mem_nil) | (refine List.forall_mem_cons.2 ⟨?_,?_⟩; (focus (first | exact rfl | assumption))))); first | done | fail) (by omega) (by simp only [maxLen]; omega) (by omega)) rfl rfl rfl (fun _ _ _ w hw=>hw.sel Sel.nil) ?_)
  rintro u1 _ ⟨σ2,hO2,rfl⟩;refine C5 ?_;refine A8 ?_;refine AZ ?_;refine AA ?_;refine AB ?_;refine CC ?_;refine AC ?_;refine AE ?_
  refine AU (t + 1,u1,σ2) ⟨by dsimp only; omega,by dsimp only; omega,?_⟩ (by dsimp only; omega) covZ selZ
  dsimp only
  rw [waitT_snoc ht1,hRt,← List.append_assoc,List.length_append,List.flatMap_append];exact hO2
 by_cases s2:(n:Int) = d.d
 ·rw [if_pos (.inr s2)] at hRt
  refine AD ?_;refine AD ?_;refine AA ?_;refine AB ?_;refine AG ?_;refine AF ?_;refine BD ?_;refine AE ?_;refine AO rfl ?_;refine AK ?_;refine AD ?_;refine AP ?_;refine AD ?_;refine AA ?_;refine AC ?_;refine AE ?_;refine AD ?_;refine AD ?_;refine AA ?_;refine AB ?_;refine AG ?_;refine AF ?_;refine CG ?_;refine AB ?_;refine AB ?_;refine AG ?_;refine AF ?_;refine BE ?_;refine AQ ?_;refine AE ?_;refine AN rfl ?_;refine AK ?_
  refine A6 (.q 0 (.q 1 (.q 2 (.q 3 (.q 5 (.q 6 (.q 7 (.q 8 (.q 10 (.q 12 (.l 4 .e (.l 9 .e (.q 11 (.q 13 (.l 14 .e (.l 15 .b (.l 16 .b .nil))))))))))))))))) [] rfl (by kernel_rfl) Sel.nil ?_
  refine AJ ?_;refine BL ?_;refine AJ ?_;refine AJ ?_;refine BL ?_;refine AJ ?_;refine AJ ?_;refine CW ?_;refine AJ ?_;refine AJ ?_;refine CL (CB rfl hv1 rfl rfl rdZ rfl rfl ?_);rintro _ rfl
  skip
  refine CL (CB rfl hv2 rfl rfl rdZ rfl rfl ?_);rintro _ rfl;refine CD ?_
  focus ((refine' CV rfl _ rfl rfl rfl rfl _; rotate_left; (focus (exact C9 (out:=[int (vtx d n t),int (vtx d n (t + 1)),int 1099511627776,int (-1),int t]) rfl rfl rfl rfl rfl))))
  refine BN ?_; rintro _ _ ⟨b,rfl,rfl⟩
  refine CL (a_b rfl (BP (by_:=40) (s:=5) (news:=[int (vtx d n t),int (vtx d n (t + 1)),int 1099511627776,int (-1),int t]) rfl rfl rfl rfl rfl rfl rfl hO takeZ (cells_own memZ) rfl (by (repeat (first | exact (fun v hv=>absurd hv List.not_mem_nil) | (refine List.forall_mem_cons.2 ⟨?_,?_⟩; (focus (first | exact rfl | assumption))))); first | done | fail) (by omega) (by simp only [maxLen]; omega) (by omega)) rfl rfl rfl (fun _ _ _ w hw=>hw.sel Sel.nil) ?_)
  rintro u1 _ ⟨σ2,hO2,rfl⟩;refine C5 ?_;refine A8 ?_;refine AZ ?_;refine AA ?_;refine AB ?_;refine CC ?_;refine AC ?_;refine AE ?_
  refine AU (t + 1,u1,σ2) ⟨by dsimp only; omega,by dsimp only; omega,?_⟩ (by dsimp only; omega) covZ selZ
  dsimp only
  rw [waitT_snoc ht1,hRt,← List.append_assoc,List.length_append,List.flatMap_append];exact hO2
 rw [if_neg (by omega)] at hRt
 refine AD ?_;refine AD ?_;refine AA ?_;refine AB ?_;refine AG ?_;refine AF ?_;refine BD ?_;refine AE ?_;refine AO rfl ?_;refine AK ?_;refine AD ?_;refine AP ?_;refine AD ?_;refine AA ?_;refine AC ?_;refine AE ?_;refine AD ?_;refine AD ?_;refine AA ?_;refine AB ?_;refine AG ?_;refine AF ?_;refine CG ?_;refine AB ?_;refine AB ?_;refine AG ?_;refine AF ?_;refine CG ?_;refine AQ ?_;refine AE ?_;refine AO rfl ?_
 refine A6 (.q 0 (.q 1 (.q 2 (.q 3 (.q 4 (.q 5 (.q 6 (.q 7 (.q 8 (.q 9 (.l 10 .e (.q 11 (.q 12 .nil))))))))))))) [] rfl (by kernel_rfl) Sel.nil ?_
 refine A0 ?_;refine A0 ?_;refine AR ?_;refine AJ ?_;refine CE ?_;refine AR ?_;refine A0 ?_;refine AR ?_;refine AJ ?_;refine AJ ?_;refine CL (CB rfl hst rfl rfl rdZ rfl rfl ?_);rintro _ rfl;refine DN ?_;refine BW ?_;refine A8 ?_
 skip
 refine A6 (.q 0 (.q 1 (.q 2 (.q 3 (.q 5 (.q 6 (.q 7 (.q 8 (.q 10 (.q 12 (.l 4 .e (.l 9 .e (.q 11 (.q 13 (.l 14 .e (.l 15 .b (.l 16 .b .nil))))))))))))))))) [] rfl (by kernel_rfl) Sel.nil ?_
 refine AJ ?_;refine BL ?_;refine AJ ?_;refine AJ ?_;refine BL ?_;refine AJ ?_;refine AJ ?_;refine CW ?_;refine AJ ?_;refine AJ ?_;refine CL (CB rfl hv1 rfl rfl rdZ rfl rfl ?_);rintro _ rfl
 skip
 refine CL (CB rfl hv2 rfl rfl rdZ rfl rfl ?_);rintro _ rfl;refine CD ?_
 focus ((refine' CV rfl _ rfl rfl rfl rfl _; rotate_left; (focus (exact C9 (out:=[int (vtx d n t),int (vtx d n (t + 1)),int (Q - Step.stored hs n t),int (-1),int t]) rfl rfl rfl rfl rfl))))
 refine BN ?_; rintro _ _ ⟨b,rfl,rfl⟩
 refine CL (a_b rfl (BP (by_:=40) (s:=5) (news:=[int (vtx d n t),int (vtx d n (t + 1)),int (Q - Step.stored hs n t),int (-1),int t]) rfl rfl rfl rfl rfl rfl rfl hO takeZ (cells_own memZ) rfl (by (repeat (first | exact (fun v hv=>absurd hv List.not_mem_nil) | (refine List.forall_mem_cons.2 ⟨?_,?_⟩; (focus (first | exact rfl | assumption))))); first | done | fail) (by omega) (by simp only [maxLen]; omega) (by omega)) rfl rfl rfl (fun _ _ _ w hw=>hw.sel Sel.nil) ?_)
 rintro u1 _ ⟨σ2,hO2,rfl⟩;refine C5 ?_;refine A8 ?_;refine AZ ?_;refine AA ?_;refine AB ?_;refine CC ?_;refine AC ?_;refine AE ?_
 refine AU (t + 1,u1,σ2) ⟨by dsimp only; omega,by dsimp only; omega,?_⟩ (by dsimp only; omega) covZ selZ
 dsimp only
 rw [waitT_snoc ht1,hRt,← List.append_assoc,List.length_append,List.flatMap_append];exact hO2
end Go.Proofs.YtphehihohghfoaaGreat
