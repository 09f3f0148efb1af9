/- Texts of this proof, one after the other; no conditions. -/
import Derived.Test.YtphehihohghfoaaGreatWB10
import Derived.Test.YtphehihohghfoaaGreatWB2
import Derived.Test.YtphehihohghfoaaGreatWB6
import Derived.Test.YtphehihohghfoaaGreatWB7
import Derived.Test.YtphehihohghfoaaGreatWB9
import Derived.Test.YtphehihohghfoaaGreatWB5
import Derived.Test.YtphehihohghfoaaGreatWB4
import Derived.Test.YtphehihohghfoaaGreatWB8
import Derived.Test.YtphehihohghfoaaGreatWB1
set_option linter.all false
/- Max and Cut of the program. -/
namespace Go.Proofs.YtphehihohghfoaaGreat
open Go.Eng Go.Flow
set_option maxRecDepth 100000
set_option maxHeartbeats 4000000

theorem flowMax_spec (ρ:PH) (v:Value) (n s t:Int) (l:List Arc) (hv:ArcsAt ρ v l) (hl:l.length ≤ 1000000) :
  Makes Tryz.prog (fv 51) [int n,v,int s,int t] [ρ] (fun r σ=>∃ fs F m e,r = .tuple #[fs,int m,int e] ∧ IntsAt σ fs F ∧ MaxOK n l s t F m e):=by
 have hnil:IntsAt emp (.slice none 0 0) []:=⟨rfl,.inl ⟨rfl,none,0,rfl⟩⟩
 refine spec_in (cap:=[]) Tryz.func51 rfl rfl Tryz.ntmps51 rfl envZ (fun N β=>?_)
 refine AC ?_;refine AA ?_;refine AD ?_;refine AD ?_;refine AD ?_;refine AE ?_;refine AC ?_;refine AC ?_;refine AA ?_;refine AB ?_;refine AB ?_
 focus ((refine A2 (check_spec ρ v n l hv hl) rfl rfl rdZ rfl rfl ?_; rintro _ rfl))
 refine AD ?_;refine AE ?_;refine AC ?_;refine AA ?_;refine AB ?_
 by_cases hc:chk n l = 0
 rotate_left
 ·refine CF ?_
  refine AE ?_;refine AN rfl ?_;refine AC ?_;refine AA ?_;refine AB ?_;refine AD ?_;refine AD ?_;refine AD ?_;refine AE ?_;refine BX ?_
  exact AI (res3 rfl rfl rfl rfl) rsubZ selZ ⟨emp,⟨_,[],0,_,rfl,hnil,.inl ⟨by unfold maxErr; rw [if_pos hc]; exact hc,by unfold maxErr; rw [if_pos hc],rfl,rfl⟩⟩,rfl⟩
 refine BF ?_;refine AE ?_;refine AM rfl ?_;refine AK ?_;refine AC ?_;refine AC ?_;refine AA ?_;refine AB ?_;refine AB ?_;refine AB ?_
 focus ((refine A2 (ends_spec _ _ _) rfl rfl rdZ rfl rfl ?_; rintro _ rfl))
 refine AD ?_;refine AE ?_;refine AC ?_;refine AA ?_;refine AB ?_
 have hme:maxErr n l s t = if okEnds n s t = true then 0 else 2:=by unfold maxErr; rw [if_neg (by rw [hc]; simp)]
 cases he:okEnds n s t with
 | false =>
  rw [he] at hme;simp only [Bool.false_eq_true,if_false] at hme ⊢;refine CF ?_;refine AE ?_;refine AN rfl ?_;refine AC ?_;refine AA ?_;refine AB ?_;refine AD ?_;refine AD ?_;refine AD ?_;refine AE ?_;refine BX ?_
  exact AI (res3 rfl rfl rfl rfl) rsubZ selZ ⟨emp,⟨_,[],0,_,rfl,hnil,.inl ⟨by rw [hme]; simp,by rw [hme],rfl,rfl⟩⟩,rfl⟩
 | true =>
  rw [he] at hme;simp only [if_true] at hme ⊢
  obtain ⟨n',s',t',g⟩:=maxErr_good hme
  obtain ⟨rfl,rfl,rfl⟩:=And.intro g.en (And.intro g.es g.et)
  refine BF ?_;refine AE ?_;refine AM rfl ?_;refine AK ?_;refine AC ?_;refine AA ?_;refine AB ?_;refine AB ?_;refine AB ?_;refine AB ?_;refine BE (maximum_spec ρ v n' l s' t' hv g.n2 g.l2 g.ok g.sn g.tn g.ne) rfl rfl takesZ rdZ rfl rfl ?_;rintro _ _ ⟨_,_,F,rfl,bf,gb,b1,b2,γ,rfl,rfl,_,hR,rfl⟩
  have hF:=(hR.flw g.ok g.sn g.ne (flw_zeros g.ok)).1
  have hIn:IntsAt (sng bf (.cells (ints F) 3 (0,0))) (.slice (some ⟨bf,0,none⟩) l.length l.length) F:=by rw [hF.len]; exact intsAt_sng
  simp only [List.cons_append,List.nil_append];refine AB ?_;refine AO ?_;refine AO ?_;refine AD ?_;refine AD ?_;refine AE ?_;refine AC ?_;refine AA ?_;refine AB ?_;refine AB ?_;refine AB ?_;refine AB ?_;refine A2 (value_spec ρ _ v _ s' l F hv hIn g.l2 hF.len.symm (inCap_small l F hF.len hF.cap g.ok)) rfl rfl rdZ rfl rfl ?_;rintro _ rfl;refine AD ?_;refine AD ?_;refine AD ?_;refine AE ?_;exact AI (res3 rfl rfl rfl rfl) rsubZ selZ ⟨_,⟨_,F,_,_,rfl,hIn,.inr ⟨hme,rfl,hR,rfl⟩⟩,rfl⟩

set_option maxHeartbeats 8000000 in
theorem flowCut_spec (ρ:PH) (v:Value) (n s t:Int) (l:List Arc) (hv:ArcsAt ρ v l) (hl:l.length ≤ 1000000) :
  Makes Tryz.prog (fv 30) [int n,v,int s,int t] [ρ] (fun r σ=>∃ fs side c e,r = .tuple #[fs,int c,int e] ∧ IntsAt σ fs side ∧ CutOK n l s t side c e):=by
 have hnil:IntsAt emp (.slice none 0 0) []:=⟨rfl,.inl ⟨rfl,none,0,rfl⟩⟩
 refine spec_in (cap:=[]) Tryz.func30 rfl rfl Tryz.ntmps30 rfl envZ (fun N β=>?_)
 refine AC ?_;refine AA ?_;refine AD ?_;refine AD ?_;refine AD ?_;refine AE ?_;refine AC ?_;refine AC ?_;refine AA ?_;refine AB ?_;refine AB ?_
 focus ((refine A2 (check_spec ρ v n l hv hl) rfl rfl rdZ rfl rfl ?_; rintro _ rfl))
 refine AD ?_;refine AE ?_;refine AC ?_;refine AA ?_;refine AB ?_
 by_cases hc:chk n l = 0
 rotate_left
 ·refine CF ?_
  refine AE ?_;refine AN rfl ?_;refine AC ?_;refine AA ?_;refine AB ?_;refine AD ?_;refine AD ?_;refine AD ?_;refine AE ?_;refine BX ?_
  exact AI (res3 rfl rfl rfl rfl) rsubZ selZ ⟨emp,⟨_,[],0,_,rfl,hnil,.inl ⟨by unfold maxErr; rw [if_pos hc]; exact hc,by unfold maxErr; rw [if_pos hc],rfl,rfl⟩⟩,rfl⟩
 refine BF ?_;refine AE ?_;refine AM rfl ?_;refine AK ?_;refine AC ?_;refine AC ?_;refine AA ?_;refine AB ?_;refine AB ?_;refine AB ?_
 focus ((refine A2 (ends_spec _ _ _) rfl rfl rdZ rfl rfl ?_; rintro _ rfl))
 refine AD ?_;refine AE ?_;refine AC ?_;refine AA ?_;refine AB ?_
 have hme:maxErr n l s t = if okEnds n s t = true then 0 else 2:=by unfold maxErr; rw [if_neg (by rw [hc]; simp)]
 cases he:okEnds n s t with
 | false =>
  rw [he] at hme;simp only [Bool.false_eq_true,if_false] at hme ⊢;refine CF ?_;refine AE ?_;refine AN rfl ?_;refine AC ?_;refine AA ?_;refine AB ?_;refine AD ?_;refine AD ?_;refine AD ?_;refine AE ?_;refine BX ?_
  exact AI (res3 rfl rfl rfl rfl) rsubZ selZ ⟨emp,⟨_,[],0,_,rfl,hnil,.inl ⟨by rw [hme]; simp,by rw [hme],rfl,rfl⟩⟩,rfl⟩
 | true =>
  rw [he] at hme;simp only [if_true] at hme ⊢
  obtain ⟨n',s',t',g⟩:=maxErr_good hme
  obtain ⟨rfl,rfl,rfl⟩:=And.intro g.en (And.intro g.es g.et)
  have hrep:(List.replicate n' false).length = n':=by simp
  have hn2:=g.n2
  have hsn:=g.sn
  have hrl:=rl_lt g.ok
  have hGok:GOk n' (outsOf (rlinks l)) (insOf (rlinks l)):=GOk_of g.n2 (by rw [rlinks_len]; have:=g.l2; omega) (fun x hx=>by have:=rlinks_mem g.ok hx; have:=g.l2; omega)
  have hcap:∀ a ∈ l,0 ≤ a.c ∧ a.c ≤ 1099511627776:=fun a ha=>by have:=okArc_iff.1 (g.ok a ha); omega
  refine BF ?_;refine AE ?_;refine AM rfl ?_;refine AK ?_;refine AC ?_;refine AA ?_;refine AB ?_;refine AB ?_;refine AB ?_;refine AB ?_;refine BE (maximum_spec ρ v n' l s' t' hv g.n2 g.l2 g.ok g.sn g.tn g.ne) rfl rfl takesZ rdZ rfl rfl ?_;rintro _ _ ⟨_,_,F,rfl,bf,gb,b1,b2,γ,rfl,rfl,hG,hR,rfl⟩
  have hF:=(hR.flw g.ok g.sn g.ne (flw_zeros g.ok)).1
  obtain ⟨ob,oc,ho,hol⟩:=hG.o
  have hrm:∀ x,x ∈ rlinks l → Ans Tryz.prog (roomR b1 b2) [int x.k] [ρ,sng b1 (.cells #[v] 67 (0,0)),sng b2 (.cells #[.slice (some ⟨bf,0,none⟩) l.length l.length] 22 (0,0)),sng bf (.cells (ints F) 3 (0,0))] (fun r=>r = int (rmR l F x.k)):=fun x hx =>
   residual1_spec ρ _ b1 b2 bf l.length l.length x.k _ _ _ l F hv hF.len.symm rfl (rlinks_mem g.ok hx).2.2 g.l2 hF.cap hcap
  simp only [List.cons_append,List.nil_append];refine AR (ρ:=sng bf _) takeZ ?_;refine AR (ρ:=γ) takeZ ?_;refine AR (ρ:=sng b1 _) takeZ ?_;refine AR (ρ:=sng b2 _) takeZ ?_;refine AB ?_;refine AO ?_;refine AO ?_;refine AD ?_;refine AD ?_;refine AE ?_;refine AC ?_;refine AA ?_;refine AB ?_;refine E4 ?_; rintro _ _ ⟨b,rfl,rfl⟩;refine BR ?_; rintro _ _ ⟨b,rfl,rfl⟩;refine BD ?_; rintro _ _ ⟨rfl,rfl⟩;refine AE ?_;refine AC ?_;refine AA ?_;refine AF ?_;refine AB ?_;refine BS ?_;refine DA ?_; rintro _ _ ⟨rfl,rfl⟩;refine AE ?_;refine AC ?_;refine AC ?_;refine AA ?_;refine AB ?_;refine BI ?_; rintro _ _ ⟨b,rfl,rfl⟩;refine BR ?_; rintro _ _ ⟨b,rfl,rfl⟩;refine BD ?_; rintro _ _ ⟨rfl,rfl⟩;refine AE ?_;refine AP ?_
  rename_i bm bB bi
  revert b; intro bq
  have hq0:OwnO 3 1 (.slice (some ⟨bi,0,none⟩) 1 1) 1 [int s'] (sng bi (.cells [int (s':Int)].toArray 3 (0,0))):=OwnS.ownO (n:=1) rfl (by simp [maxLen])
  refine BX ?_
  refine DN [0,1,2,3,14,15] ((((List.replicate n' false).set s' true,[s']),((.slice (some ⟨bi,0,none⟩) 1 1,sng bi (.cells [int (s':Int)].toArray 3 (0,0))),bq)),([],emp)) (X:=((List Bool × List Nat) × ((Value × PH) × Nat)) × (List Nat × PH))
   (fun x=>x.2.1.map mk) (fun x=>RInv n' s' (rE l F) x.1.1.1 x.1.1.2 ∧ OwnO 3 1 x.1.2.1.1 x.1.1.2.length (qInts x.1.1.2) x.1.2.1.2 ∧ x.1.1.2.length + unm x.1.1.1 ≤ n' ∧ MkIn x.2.2 x.2.1)
   (fun x=>[(16,.pointer (some ⟨x.1.2.2,0,none⟩))]) (fun x=>[sng bB (.cells #[.slice (some ⟨bm,0,none⟩) n' n'] 113 (0,0)),sng bm (.cells (bools x.1.1.1) 4 (0,0)),sng x.1.2.2 (.cells #[x.1.2.1.1] 22 (0,0)),x.1.2.1.2,x.2.2]) (fun x=>2 * unm x.1.1.1 + x.1.1.2.length)
   pickZ rfl ⟨RInv.start hsn,hq0,by have:=unm_start hsn; dsimp only [List.length_singleton]; omega,MkIn.nil⟩ covZ selZ ?_
  rintro ⟨⟨⟨B,q⟩,⟨⟨qv,ρq⟩,bq2⟩⟩,⟨ms,μ⟩⟩ ⟨hB,hQ,hql,hM⟩
  dsimp only at hB hQ hql hM ⊢
  have hBl:=hB.len
  cases q with
  | nil =>
   have hQ':OwnO 3 1 qv 0 [] ρq:=hQ
   obtain ⟨_,b1',o1,cap1,cur1,rfl,rfl,_⟩:=hQ'
   have hreach:=hB.reach (fun x hx=>hrl x hx.1) hsn
   refine BX ?_;refine AC ?_;refine AC ?_;refine AA ?_;refine AF ?_;refine AW ?_;refine BU ?_;refine AE ?_;refine AM rfl ?_;refine A7 rfl ?_;refine AC ?_;refine AA ?_;refine AD ?_;refine AE ?_;refine AC ?_;refine AC ?_;refine AA ?_;refine AF ?_;refine AW ?_;refine AB ?_;refine AE ?_;refine AP ?_
   refine BA [0,1,15,82,83] (X:=Nat × (Value × PH)) (0,(.slice none 0 0,emp)) (fun x=>x.1 ≤ n' ∧ OwnS 3 1 x.2.1 (sideOf B x.1).length ((sideOf B x.1).map int) x.2.2) (fun x=>[(18,x.2.1),(84,int x.1)])
    (fun x=>[sng bB (.cells #[.slice (some ⟨bm,0,none⟩) n' n'] 113 (0,0)),sng bm (.cells (bools B) 4 (0,0)),x.2.2,μ]) (fun x=>n' - x.1) pickZ ⟨by dsimp only; omega,OwnS.nil _ _⟩ covZ selZ ?_
   rintro ⟨k,⟨sv,ρs⟩⟩ ⟨hk,hS⟩
   dsimp only at hk hS ⊢
   have hsl:=sideOf_len B k
   have hsu:=sideOf_succ B k
   by_cases hlt:k < n'
   ·have hbk:=bget_some (B:=B) (v:=k) (by omega)
    cases hb:bget B k with
    | true =>
     rw [hb] at hbk hsu;rw [if_pos rfl] at hsu;refine AC ?_;refine AA ?_;refine BC ?_;refine AE ?_;refine AC ?_;refine AN rfl ?_;refine AK ?_;refine AC ?_;refine AP ?_;refine AC ?_;refine AA ?_;refine AB ?_;refine BS ?_;refine AF ?_;refine AD ?_;refine AD ?_;refine AE ?_;refine AC ?_;refine AA ?_;refine AB ?_;refine AE ?_;refine AN rfl ?_;refine AA ?_;refine AB ?_;refine AB ?_;refine BI ?_; rintro _ _ ⟨b,rfl,rfl⟩
     refine BH (B5 (by_:=8) (s:=1) (news:=[int (k:Int)]) rfl rfl rfl rfl rfl rfl rfl hS takeZ (cells_own memZ) rfl (by (repeat (first | exact (fun v hv=>absurd hv List.not_mem_nil) | (refine List.forall_mem_cons.2 ⟨?_,?_⟩; (focus (first | exact rfl | assumption))))); first | done | fail) (by omega) (by simp only [maxLen]; omega) (by omega)) rfl rfl rfl ?_
     rintro q9 _ ⟨ρ3,hQ3,rfl⟩;refine AD ?_;refine AE ?_;refine A3 ?_;refine AA ?_;refine A8 ?_;refine AB ?_;refine AE ?_
     refine AY (k + 1,(q9,ρ3)) ⟨by dsimp only; omega,?_⟩ (by dsimp only; omega) covZ selZ
     dsimp only
     rw [hsu,List.map_append,List.length_append];exact hQ3
    | false =>
     rw [hb] at hbk hsu
     rw [if_neg (by simp),List.append_nil] at hsu
     refine AC ?_;refine AA ?_;refine BC ?_;refine AE ?_;refine AC ?_;refine AN rfl ?_;refine AK ?_;refine AC ?_;refine AP ?_;refine AC ?_;refine AA ?_;refine AB ?_;refine BS ?_;refine AF ?_;refine AD ?_;refine AD ?_;refine AE ?_;refine AC ?_;refine AA ?_;refine AB ?_;refine AE ?_;refine AM rfl ?_;refine AK ?_;refine A3 ?_;refine AA ?_;refine A8 ?_;refine AB ?_;refine AE ?_
     refine AY (k + 1,(sv,ρs)) ⟨by dsimp only; omega,?_⟩ (by dsimp only; omega) covZ selZ
     dsimp only
     rw [hsu];exact hS
   ·obtain rfl:k = n':=by omega
    refine AC ?_;refine AA ?_;refine AZ ?_;refine AE ?_;refine AC ?_;refine AM rfl ?_;refine A7 rfl ?_;refine AC ?_;refine AA ?_;refine AB ?_;refine AB ?_;refine AF ?_;refine A2 (capacity_spec ρ v k bm k 4 l B hv g.l2 g.ok hBl) rfl rfl rdZ rfl rfl ?_;rintro _ rfl;refine AD ?_;refine AD ?_;refine AD ?_;refine AE ?_;exact DL hM takeZ (res3 rfl rfl rfl rfl) rsubZ selZ ⟨_,⟨sv,sideOf B k,_,_,rfl,ownInts (e:=3) hS,.inr ⟨hme,rfl,F,B,hR,hreach,rfl,rfl⟩⟩,rfl⟩
  | cons v1 q =>
   have hQ':OwnO 3 1 qv (q.length + 1) (int v1 :: qInts q) ρq:=hQ
   have hV0:=hB.take
   have hvn:=hV0.vn
   obtain ⟨lv,hlv,hls⟩:=hol v1 hvn
   obtain ⟨b1',o1,cap1,rfl,hh0,_⟩:=hQ'.head
   simp only [List.length_cons] at hql ⊢;refine AC ?_;refine AC ?_;refine AA ?_;refine AF ?_;refine AW ?_;refine CL ?_;refine AE ?_;refine AN rfl ?_;refine AK ?_;refine AC ?_;refine AP ?_;refine AC ?_
   refine A5 (.q 0 (.q 1 (.q 2 (.q 3 (.q 4 (.q 5 (.q 6 (.q 7 (.q 8 (.q 9 (.l 10 .e .nil))))))))))) [] rfl (by kernel_rfl) selZ ?_
   refine AS ?_;refine AS ?_;refine A0 ?_;refine AU ?_;refine AQ ?_;refine AQ ?_;refine GQ ?_;refine AQ ?_;refine B9 ?_;refine AQ ?_;refine CP (DF rfl (open_spec _ _ (SlE.one hls) rfl) rfl rfl rdZ rfl rfl ?_);rintro _ _ ⟨bl,bg,rfl,rfl⟩;simp only [List.cons_append,List.nil_append];refine A6 ?_;refine AR (ρ:=sng bl _) takeZ ?_;refine AR (ρ:=sng bg _) takeZ ?_;refine AP ?_
   refine CW (gf:=97) (cap:=[.pointer (some ⟨bl,0,none⟩),.pointer (some ⟨bg,0,none⟩)]) (ps:=[65]) (X:=(List Bool × List Nat) × (Value × PH)) rfl Tryz.func97 rfl rfl
    (open_iter γ gb bl bg lv (roomR b1 b2) (outsOf (rlinks l) v1) (rmR l F) _ hls (by have:=(hGok.len v1).1; omega) hG.r (fun x hx=>hrm x (by unfold outsOf at hx; exact (List.mem_filter.1 hx).1))) ?_
    (fun i x=>RVInv n' s' (rE l F) x.1.1 v1 x.1.2 ((openL (rmR l F) (outsOf (rlinks l) v1)).take i) ∧ OwnO 3 1 x.2.1 (x.1.2.length + 1) (int v1 :: qInts x.1.2) x.2.2 ∧ x.1.2.length + unm x.1.1 + 1 ≤ n' ∧ 2 * unm x.1.1 + x.1.2.length ≤ 2 * unm B + q.length)
    (fun x=>[sng bB (.cells #[.slice (some ⟨bm,0,none⟩) n' n'] 113 (0,0)),sng bm (.cells (bools x.1.1) 4 (0,0)),sng bq2 (.cells #[x.2.1] 22 (0,0)),x.2.2])
    (fun _ _=>False) ((B,q),(.slice (some ⟨b1',o1,none⟩) (q.length + 1) cap1,ρq)) rfl takesZ ⟨by simpa using hV0,hQ',by dsimp only; omega,by dsimp only; omega⟩ ?_ ?_ ?_
   ·intro σ hσ
    simp only [List.cons_append,List.nil_append,List.mem_cons,List.not_mem_nil,or_false] at hσ ⊢
    rcases hσ with h | h | h | h | h | h | h <;> simp [h]
   ·rintro lp r i ⟨⟨B1,q1⟩,⟨qv2,ρ2⟩⟩ vs hvs ⟨hV,hQ2,hlq,hms⟩ hps has hbd hst hpe hfr
    dsimp only at hV hQ2 hlq hms ⊢
    obtain ⟨st,pe,fnn,tm,prm,asg,bdy,df⟩:=r
    simp only at hps has hbd hst hpe hfr;subst hps has hbd hst hpe;rw [List.getElem?_map] at hvs
    obtain ⟨x,hx,rfl⟩:=Option.map_eq_some_iff.1 hvs
    have hlt:i < (openL (rmR l F) (outsOf (rlinks l) v1)).length:=(List.getElem?_eq_some_iff.1 hx).1
    have hxe:(openL (rmR l F) (outsOf (rlinks l) v1))[i] = x:=(List.getElem?_eq_some_iff.1 hx).2
    have hxm:x ∈ openL (rmR l F) (outsOf (rlinks l) v1):=List.mem_of_getElem? hx
    have hxi:(x ∈ rlinks l ∧ x.f = v1) ∧ 0 < rmR l F x.k:=by
     unfold openL outsOf at hxm
     obtain ⟨k1,k2⟩:=List.mem_filter.1 hxm
     obtain ⟨k3,k4⟩:=List.mem_filter.1 k1
     exact ⟨⟨k3,by simpa using k4⟩,by simpa using k2⟩
    have hxt:=(hrl x hxi.1.1).2
    have htk:(openL (rmR l F) (outsOf (rlinks l) v1)).take (i + 1) = (openL (rmR l F) (outsOf (rlinks l) v1)).take i ++ [x]:=by rw [take_snoc' hlt,hxe]
    have hBl1:B1.length = n':=hV.len
    have hbx:=bget_some (B:=B1) (v:=x.t) (by omega)
    refine yield_spec hfr rfl (by intro p hp; simp at hp; omega) putiZ (fun N' β'=>?_)
    unfold encL;refine AA ?_;refine AX ?_; rintro _ _ ⟨b,rfl,rfl⟩;refine AV ?_; rintro _ _ ⟨rfl,rfl⟩;refine AE ?_;refine CM rfl rfl ?_;refine CV takeZ rfl ?_
    cases hb:bget B1 x.t with
    | false =>
     rw [hb] at hbx
     have hp:=hV.push (x:=x) ⟨hxi.1.1,hxi.2⟩ hxt hxi.1.2
     have hu:=unm_set (B:=B1) (i:=x.t) (by omega) hb
     refine AP ?_;refine AC ?_;refine AA ?_;refine AF ?_;refine AG ?_;refine AF ?_;refine BS ?_;refine AF ?_;refine A9 ?_;refine AE ?_;refine AN rfl ?_;refine AC ?_;refine AA ?_;refine AF ?_;refine AG ?_;refine AF ?_;refine BS ?_;refine DA ?_; rintro _ _ ⟨rfl,rfl⟩;refine AE ?_;refine AA ?_;refine AF ?_;refine AG ?_;refine AF ?_;refine BI ?_; rintro _ _ ⟨b,rfl,rfl⟩
     refine BH (EG (by_:=8) (s:=1) (news:=[int (x.t:Int)]) rfl rfl rfl rfl rfl rfl rfl hQ2 takeZ (cells_own memZ) rfl (by (repeat (first | exact (fun v hv=>absurd hv List.not_mem_nil) | (refine List.forall_mem_cons.2 ⟨?_,?_⟩; (focus (first | exact rfl | assumption))))); first | done | fail) (by simp only [maxLen]; omega) (by omega)) rfl rfl rfl ?_
     rintro q9 _ ⟨ρ3,hQ3,rfl⟩
     have hq9:q9.oneCell' = true:=by obtain ⟨_,_,_,_,_,rfl,_⟩:=hQ3; rfl
     have hQ4:OwnO 3 1 q9 ((q1 ++ [x.t]).length + 1) (int v1 :: qInts (q1 ++ [x.t])) ρ3:=by
      have:int v1 :: qInts (q1 ++ [x.t]) = (int v1 :: qInts q1) ++ [int (x.t:Int)]:=by simp [qInts]
      rw [this,List.length_append];exact hQ3
     refine BD ?_; rintro _ _ ⟨rfl,rfl⟩;refine AE ?_;refine A3 ?_;refine BP takeZ rsubZ selZ ⟨((B1.set x.t true,q1 ++ [x.t]),(q9,ρ3)),.inl ⟨rfl,⟨?_,hQ4,?_,?_⟩,rfl⟩⟩
     ·dsimp only
      rw [htk];exact hp
     ·dsimp only
      rw [List.length_append,List.length_singleton]; omega
     ·dsimp only
      rw [List.length_append,List.length_singleton]; omega
    | true =>
     rw [hb] at hbx;refine AP ?_;refine AC ?_;refine AA ?_;refine AF ?_;refine AG ?_;refine AF ?_;refine BS ?_;refine AF ?_;refine A9 ?_;refine AE ?_;refine AM rfl ?_;refine AK ?_;refine A3 ?_;refine BP takeZ rsubZ selZ ⟨((B1,q1),(qv2,ρ2)),.inl ⟨rfl,⟨?_,hQ2,hlq,hms⟩,rfl⟩⟩;simp only;rw [htk];exact hV.seen hb
   ·rintro b2' ⟨⟨B1,q1⟩,⟨qv2,ρ2⟩⟩ ⟨hV,hQ2,hlq,hms⟩
    dsimp only at hV hQ2 hlq hms ⊢
    simp only [List.cons_append,List.nil_append]
    refine DM (R':=sng b2 (.cells #[.slice (some ⟨bf,0,none⟩) l.length l.length] 22 (0,0)) :: sng b1 (.cells #[v] 67 (0,0)) :: γ :: sng bf (.cells (ints F) 3 (0,0)) :: β :: [ρ]) (by intro σ hσ; simp at hσ ⊢; rcases hσ with h | h | h | h | h | h <;> simp [h]) ?_
    refine CR (b:=b2') takeZ (μ:=μ) takeZ hM ?_
    intro μ2 hM2
    obtain ⟨b5,o5,cap5,rfl,_,hh1⟩:=hQ2.head
    refine A3 ?_;refine A3 ?_;refine AC ?_;refine AC ?_;refine AA ?_;refine AF ?_;refine AE ?_;refine AA ?_;refine BR ?_; rintro _ _ ⟨b,rfl,rfl⟩;refine BD ?_; rintro _ _ ⟨rfl,rfl⟩;refine AE ?_;refine AA ?_;refine AF ?_
    focus ((refine' CD _ rfl rfl rfl _; rotate_left; (apply ED (i:=1); exact rfl; exact rfl; exact rfl; exact rfl; omega)))
    refine BD ?_; rintro _ _ ⟨rfl,rfl⟩;refine AE ?_
    refine C7 (((B1,q1),((_,ρ2),b)),(b2' :: ms,μ2)) rfl ⟨hV.done (fun x hx hxt=>?_),hh1,by dsimp only; omega,hM2⟩ (by dsimp only [List.length_cons]; omega) covZ selZ
    have hmem:x ∈ openL (rmR l F) (outsOf (rlinks l) v1):=by
     unfold openL outsOf;rw [List.mem_filter,List.mem_filter]
     exact ⟨⟨hx.1,by simpa using hxt⟩,by simpa using hx.2⟩
    simpa [List.length_map] using hmem
   ·rintro _ _ _ h; exact h.elim
end Go.Proofs.YtphehihohghfoaaGreat
/- The chapter's example: its network, its maximum flows, their shipments, a cut. No program in sight. No conditions. -/
namespace Go.Step
open Go.Flow (Flw fval okArc capOf MaxOK inCap)
def eQ:List Int:=[0,1,0]
def eC:List Ct:=[⟨0,1,0,2,3,1,0⟩,⟨1,2,3,5,3,1,0⟩]
def eD:Dm:=⟨0,2,4,0,6⟩
def eF:List Int:=[3,0,0,0,0,0,0,0,1,1,0,0,0,0,0,0,0,3,1,3,3,1]
abbrev eK:Int:=1099511627776
def eA:List EA:=[⟨⟨0,1,eK⟩,-1,0⟩,⟨⟨1,2,eK⟩,-1,1⟩,⟨⟨2,3,eK⟩,-1,2⟩,⟨⟨3,4,eK⟩,-1,3⟩,⟨⟨4,5,eK⟩,-1,4⟩,⟨⟨5,6,eK⟩,-1,5⟩,
  ⟨⟨7,8,1⟩,-1,0⟩,⟨⟨8,9,1⟩,-1,1⟩,⟨⟨9,10,1⟩,-1,2⟩,⟨⟨10,11,1⟩,-1,3⟩,⟨⟨11,12,1⟩,-1,4⟩,⟨⟨12,13,1⟩,-1,5⟩,
  ⟨⟨14,15,eK⟩,-1,0⟩,⟨⟨15,16,eK⟩,-1,1⟩,⟨⟨16,17,eK⟩,-1,2⟩,⟨⟨17,18,eK⟩,-1,3⟩,⟨⟨18,19,eK⟩,-1,4⟩,⟨⟨19,20,eK⟩,-1,5⟩,
  ⟨⟨0,9,3⟩,0,0⟩,⟨⟨1,10,3⟩,0,1⟩,⟨⟨10,19,3⟩,1,3⟩,⟨⟨11,20,3⟩,1,4⟩]
theorem eValid:validT eQ eC [] [] eD = true:=by decide +kernel
theorem eArcs:arcsE eQ eC [] [] eD = eA:=by decide +kernel
theorem eVs:vsN eQ eD = 21:=by decide +kernel
theorem eS:vtx eD eD.s eD.r = 0:=by decide +kernel
theorem eT:vtx eD eD.d eD.e = 20:=by decide +kernel
theorem eG:arcsG eQ eC [] [] eD = eA.map (fun x=>x.a):=by unfold arcsG; rw [eArcs]
theorem eFlow:Flw 21 (arcsG eQ eC [] [] eD) 0 20 eF:=by
  rw [eG]
  exact ⟨by decide +kernel,by decide +kernel,by decide +kernel⟩
def eP (n t:Int):Bool:=decide (n = 0 ∨ (n = 1 ∧ t = 2))
theorem eCap:capB eQ eC [] [] eD eP = 4:=by
  decide +kernel
theorem eMax (hok:VOk eQ eC [] [] eD) {F:List Int} {m e:Int} (hm:MaxN eQ eC [] [] eD F m e):e = 0 ∧ m = 4 ∧ Flw 21 (arcsG eQ eC [] [] eD) 0 20 F ∧ fval 0 (arcsG eQ eC [] [] eD) F = 4:=by
  obtain ⟨h0,N,S,T,hN,hS,hT,hf,hv,P,p1,p2,hc⟩:=max_cut hok hm
  rw [eVs] at hN;rw [eS] at hS;rw [eT] at hT
  obtain rfl:N = 21:=by omega
  obtain rfl:S = 0:=by omega
  obtain rfl:T = 20:=by omega
  have a:fval 0 (arcsG eQ eC [] [] eD) F ≤ capB eQ eC [] [] eD eP:=flow_le_cap hok eVs eS eT hf (P:=eP) (by decide) (by decide)
  have b:fval 0 (arcsG eQ eC [] [] eD) eF ≤ capB eQ eC [] [] eD P:=flow_le_cap hok eVs eS eT eFlow p1 p2
  have c:fval 0 (arcsG eQ eC [] [] eD) eF = 4:=by rw [eG]; decide +kernel
  have hv':m = fval 0 (arcsG eQ eC [] [] eD) F:=hv
  rw [eCap] at a
  exact ⟨h0,by omega,hf,by omega⟩
end Go.Step
/- The example is awake. -/
namespace Go.Proofs.YtphehihohghfoaaGreat
open Go.Eng Go.Step
set_option maxRecDepth 100000
set_option maxHeartbeats 4000000

end Go.Proofs.YtphehihohghfoaaGreat
/- Joins and meets of cuts. -/
namespace Go.Proofs.YtphehihohghfoaaGreat
open Go.Eng Go.Step
set_option maxRecDepth 100000
set_option maxHeartbeats 4000000

end Go.Proofs.YtphehihohghfoaaGreat
/- Sets of the document: one more span, union. -/
namespace Go.Proofs.YtphehihohghfoaaGreat
open Go.Eng Go.Step
set_option maxRecDepth 100000
set_option maxHeartbeats 4000000

end Go.Proofs.YtphehihohghfoaaGreat
/- Sets of the document: intersection, equality. -/
namespace Go.Proofs.YtphehihohghfoaaGreat
open Go.Eng Go.Step
set_option maxRecDepth 100000
set_option maxHeartbeats 4000000

end Go.Proofs.YtphehihohghfoaaGreat
/- Joins and meets of the document. -/
namespace Go.Proofs.YtphehihohghfoaaGreat
open Go.Eng Go.Step
set_option maxRecDepth 100000
set_option maxHeartbeats 4000000

end Go.Proofs.YtphehihohghfoaaGreat
/- The arcs of the network, as the document lists them. No program in sight. No conditions. -/
namespace Go.Step
section
variable {qs:List Int} {cs:List Ct} {bs:List Bk} {hs:List Hd} {d:Dm}
end
end Go.Step
/- The document's arcs. -/
namespace Go.Proofs.YtphehihohghfoaaGreat
open Go.Eng Go.Step
set_option maxRecDepth 100000
set_option maxHeartbeats 4000000

theorem refCheck53_spec {ρ τ σ υ:PH} {pq pc pb ph:Option Addr} {kq kc kb kh:Nat} {qs:List Int} {cs:List Ct} {bs:List Bk} {hs:List Hd} (hT:TbAt ρ τ σ υ pq pc pb ph kq kc kb kh qs cs bs hs) (d:Dm):Ans Tryz.prog (fv 28) [.agg #[.slice pq qs.length kq,.slice pc cs.length kc,.slice pb bs.length kb,.slice ph hs.length kh],.agg #[int d.s,int d.d,int d.v,int d.r,int d.e]] [ρ,τ,σ,υ] (fun r=>r = .bool (validT qs cs bs hs d)):=by
 have hct:=refChkTab_spec hT
 have hd:=demand53_spec pq pc kq kc qs.length cs.length d
 refine spec_in (cap:=[]) Tryz.func28 rfl rfl Tryz.ntmps28 rfl envZ (fun N β=>?_)
 refine AC ?_;refine AA ?_;refine BH (BK rfl) rfl rfl rfl ?_;rintro _ _ ⟨b1,rfl,rfl⟩;refine AR (ρ:=sng b1 _) takeZ ?_
 have ct:RdN (sng b1 (.cells #[.slice pq qs.length kq,.slice pc cs.length kc,.slice pb bs.length kb,.slice ph hs.length kh] 29 (0,0))) b1 0 [.slice pq qs.length kq,.slice pc cs.length kc,.slice pb bs.length kb,.slice ph hs.length kh]:=rdN_sng (vs:=[.slice pq qs.length kq,.slice pc cs.length kc,.slice pb bs.length kb,.slice ph hs.length kh])
 have ct0:rdc (sng b1 (.cells #[.slice pq qs.length kq,.slice pc cs.length kc,.slice pb bs.length kb,.slice ph hs.length kh] 29 (0,0))) b1 0 = some (.slice pq qs.length kq):=by rw [rdc_sng]; rfl
 have ct1:rdc (sng b1 (.cells #[.slice pq qs.length kq,.slice pc cs.length kc,.slice pb bs.length kb,.slice ph hs.length kh] 29 (0,0))) b1 1 = some (.slice pc cs.length kc):=by rw [rdc_sng]; rfl
 have ct2:rdc (sng b1 (.cells #[.slice pq qs.length kq,.slice pc cs.length kc,.slice pb bs.length kb,.slice ph hs.length kh] 29 (0,0))) b1 2 = some (.slice pb bs.length kb):=by rw [rdc_sng]; rfl
 have ct3:rdc (sng b1 (.cells #[.slice pq qs.length kq,.slice pc cs.length kc,.slice pb bs.length kb,.slice ph hs.length kh] 29 (0,0))) b1 3 = some (.slice ph hs.length kh):=by rw [rdc_sng]; rfl
 have ctp:RdP (sng b1 (.cells #[.slice pq qs.length kq,.slice pc cs.length kc,.slice pb bs.length kb,.slice ph hs.length kh] 29 (0,0))) b1 0 [.slice pq qs.length kq,.slice pc cs.length kc]:=rdP_sng (xs:=[.slice pq qs.length kq,.slice pc cs.length kc,.slice pb bs.length kb,.slice ph hs.length kh]) rfl
 refine BH (BK rfl) rfl rfl rfl ?_;rintro _ _ ⟨b2,rfl,rfl⟩;refine AR (ρ:=sng b2 _) takeZ ?_
 have cd:RdN (sng b2 (.cells #[int d.s,int d.d,int d.v,int d.r,int d.e] 31 (0,0))) b2 0 [int d.s,int d.d,int d.v,int d.r,int d.e]:=rdN_sng (vs:=[int d.s,int d.d,int d.v,int d.r,int d.e])
 have cd0:rdc (sng b2 (.cells #[int d.s,int d.d,int d.v,int d.r,int d.e] 31 (0,0))) b2 0 = some (int d.s):=by rw [rdc_sng]; rfl
 have cd1:rdc (sng b2 (.cells #[int d.s,int d.d,int d.v,int d.r,int d.e] 31 (0,0))) b2 1 = some (int d.d):=by rw [rdc_sng]; rfl
 have cd2:rdc (sng b2 (.cells #[int d.s,int d.d,int d.v,int d.r,int d.e] 31 (0,0))) b2 2 = some (int d.v):=by rw [rdc_sng]; rfl
 have cd3:rdc (sng b2 (.cells #[int d.s,int d.d,int d.v,int d.r,int d.e] 31 (0,0))) b2 3 = some (int d.r):=by rw [rdc_sng]; rfl
 have cd4:rdc (sng b2 (.cells #[int d.s,int d.d,int d.v,int d.r,int d.e] 31 (0,0))) b2 4 = some (int d.e):=by rw [rdc_sng]; rfl
 refine AD ?_;refine AE ?_;refine AC ?_;refine AA ?_;refine AT ?_;refine A2 hct rfl rfl rdZ rfl rfl ?_;rintro _ rfl
 by_cases hz:chkT qs cs bs hs = 0
 ·rw [hz]
  refine CI ?_;refine AB ?_;refine AG ?_;refine AT ?_;refine AT ?_;refine A2 hd rfl rfl rdZ rfl rfl ?_;rintro _ rfl
  have hV:validT qs cs bs hs d = okDmB qs.length d:=by unfold validT okDmB; simp [hz]
  rw [hV]
  cases okDmB qs.length d with
  | true =>
   refine AL ?_;refine AD ?_;refine AE ?_;exact AI (res1 rfl rfl) rsubZ selZ ⟨rfl,rfl⟩
  | false =>
   refine AL ?_;refine AD ?_;refine AE ?_;exact AI (res1 rfl rfl) rsubZ selZ ⟨rfl,rfl⟩
 ·have hV:validT qs cs bs hs d = false:=decide_eq_false (fun h=>hz h.1)
  rw [hV];refine B4 ?_;refine AB ?_;refine AH rfl rfl rfl ?_;refine AH rfl rfl rfl ?_;refine AH rfl rfl rfl ?_;refine AH rfl rfl rfl ?_;refine AJ ?_;refine AD ?_;refine AE ?_;exact AI (res1 rfl rfl) rsubZ selZ ⟨rfl,rfl⟩
end Go.Proofs.YtphehihohghfoaaGreat
/- The document's network, its vertices and shipments. -/
namespace Go.Proofs.YtphehihohghfoaaGreat
open Go.Eng Go.Step
set_option maxRecDepth 100000
set_option maxHeartbeats 4000000

theorem RdN.pre {ρ:PH} {b o:Nat} {xs ys:List Value} (h:RdN ρ b o (xs ++ ys)):RdP ρ b o xs:=⟨fun j v hv=>h j v (by
 have hl:=(List.getElem?_eq_some_iff.1 hv).1
 rw [List.getElem?_append_left hl]
 exact hv)⟩
theorem rowN {α:Type} {enc:α → List Value} {s:Nat} (he:∀ x,(enc x).length = s) {ρ:PH} {p:Option Addr} {k:Nat} {l:List α} (h:SlE enc s ρ (.slice p l.length k) l):RowsE enc s ρ p l:=by
 obtain ⟨_,_,e,hr⟩:=h.val he
 simp only [Value.slice.injEq] at e
 obtain ⟨rfl,_,_⟩:=e
 exact hr
end Go.Proofs.YtphehihohghfoaaGreat
/- Searches in slices of numbers; the example of the chapter. -/
namespace Go.Proofs.YtphehihohghfoaaGreat
open Go.Eng Go.Flow
set_option maxRecDepth 100000
set_option maxHeartbeats 4000000

theorem indexInt_spec (σ:PH) (u:Value) (l:List Int) (x:Int) (hu:IntsAt σ u l) (hl:l.length ≤ 1000000) :
  Ans Tryz.prog (fv 83) [u,int x] [σ] (fun r=>∃ k:Int,r = int k ∧ (0 ≤ k ↔ x ∈ l)):=by
 obtain ⟨q,c,rfl,hr⟩:=hu.val Eng.encI_len
 refine spec_in (cap:=[]) Tryz.func83 rfl rfl Tryz.ntmps83 rfl envZ (fun N β=>?_)
 refine AC ?_;refine AA ?_;refine AD ?_;refine AE ?_;refine AC ?_;refine AC ?_;refine AA ?_;refine AB ?_;refine AW ?_;refine AB ?_;refine AE ?_;refine AP ?_
 refine BA [0,1,7] (0:Nat) (fun k=>k ≤ l.length ∧ x ∉ l.take k) (fun k=>[(8,int k)]) (fun _=>[]) (fun k=>l.length - k) pickZ ⟨by omega,by simp⟩ covZ selZ ?_
 rintro k ⟨hk,hn⟩
 by_cases hlt:k < l.length
 ·obtain ⟨b,o,rfl,g1⟩:=hr.int (List.getElem?_eq_getElem hlt)
  by_cases he:x = l[k]
  ·refine AC ?_
   refine AA ?_;refine BC ?_;refine AE ?_;refine AC ?_;refine AN rfl ?_;refine AK ?_;refine AC ?_;refine AP ?_;refine AC ?_;refine AA ?_;refine AB ?_;refine AD ?_;refine AE ?_;refine AC ?_;refine AA ?_;refine AB ?_;refine AB ?_;refine AB ?_;refine BQ ?_;refine AF ?_;refine CI ?_;refine AE ?_;refine AN rfl ?_;refine AC ?_;refine AA ?_;refine AB ?_;refine AD ?_;refine AE ?_;refine AI (res1 rfl rfl) rsubZ selZ ⟨rfl,(k:Int),rfl,?_⟩
   exact ⟨fun _=>by rw [he]; exact List.getElem_mem hlt,fun _=>by omega⟩
  ·refine AC ?_
   refine AA ?_;refine BC ?_;refine AE ?_;refine AC ?_;refine AN rfl ?_;refine AK ?_;refine AC ?_;refine AP ?_;refine AC ?_;refine AA ?_;refine AB ?_;refine AD ?_;refine AE ?_;refine AC ?_;refine AA ?_;refine AB ?_;refine AB ?_;refine AB ?_;refine BQ ?_;refine AF ?_;refine B4 ?_;refine AE ?_;refine AM rfl ?_;refine AK ?_;refine A3 ?_;refine AA ?_;refine A8 ?_;refine AB ?_;refine AE ?_
   refine AY (k + 1) ⟨by omega,?_⟩ (by omega) covZ selZ
   rw [take_snoc' hlt,List.mem_append,List.mem_singleton];rintro (h | h)
   ·exact hn h
   ·exact he h
 ·refine AC ?_
  refine AA ?_;refine AZ ?_;refine AE ?_;refine AC ?_;refine AM rfl ?_;refine A7 rfl ?_;refine AC ?_;refine AA ?_;refine AD ?_;refine AE ?_;refine AI (res1 rfl rfl) rsubZ selZ ⟨rfl,-1,rfl,?_⟩
  rw [List.take_of_length_le (by omega)] at hn
  exact ⟨fun h=>by omega,fun h=>absurd h hn⟩
theorem containsInt_spec (σ:PH) (u:Value) (l:List Int) (x:Int) (hu:IntsAt σ u l) (hl:l.length ≤ 1000000) :
  Ans Tryz.prog (fv 45) [u,int x] [σ] (fun r=>r = .bool (decide (x ∈ l))):=by
 refine spec_in (cap:=[]) Tryz.func45 rfl rfl Tryz.ntmps45 rfl envZ (fun N β=>?_)
 refine AC ?_;refine AA ?_;refine AD ?_;refine AE ?_;refine AC ?_;refine AA ?_;refine AB ?_;refine AB ?_;refine A2 (indexInt_spec σ u l x hu hl) rfl rfl rdZ rfl rfl ?_;rintro _ ⟨k,rfl,hk⟩
 by_cases hm:x ∈ l
 ·have:=hk.2 hm
  refine CC ?_;refine AD ?_;refine AE ?_
  exact AI (res1 rfl rfl) rsubZ selZ ⟨rfl,by rw [decide_eq_true hm]⟩
 ·have:k < 0:=by
   apply Classical.byContradiction
   intro h
   exact hm (hk.1 (by omega))
  refine BG ?_;refine AD ?_;refine AE ?_
  exact AI (res1 rfl rfl) rsubZ selZ ⟨rfl,by rw [decide_eq_false hm]⟩
end Go.Proofs.YtphehihohghfoaaGreat
/- The document's cuts. -/
namespace Go.Proofs.YtphehihohghfoaaGreat
open Go.Eng Go.Step
set_option maxRecDepth 100000
set_option maxHeartbeats 4000000

end Go.Proofs.YtphehihohghfoaaGreat
/- The reference: residual arcs, distances level by level, the first shortest path. -/
namespace Go.Proofs.YtphehihohghfoaaGreat
open Go.Eng Go.Flow
set_option maxRecDepth 100000
set_option maxHeartbeats 4000000

end Go.Proofs.YtphehihohghfoaaGreat
/- The reference's list of residual arcs, as it is filled; rooms are bounded. No program in sight. No conditions. -/
namespace Go.Flow
end Go.Flow
/- The reference: the list of residual arcs, the first shortest path. -/
namespace Go.Proofs.YtphehihohghfoaaGreat
open Go.Eng Go.Flow
set_option maxRecDepth 100000
set_option maxHeartbeats 4000000

end Go.Proofs.YtphehihohghfoaaGreat
/- The reference: the first shortest path. -/
namespace Go.Proofs.YtphehihohghfoaaGreat
open Go.Eng Go.Flow
set_option maxRecDepth 100000
set_option maxHeartbeats 4000000

end Go.Proofs.YtphehihohghfoaaGreat
/- The reference: Max, Cut. -/
namespace Go.Proofs.YtphehihohghfoaaGreat
open Go.Eng Go.Flow
set_option maxRecDepth 100000
set_option maxHeartbeats 4000000

end Go.Proofs.YtphehihohghfoaaGreat
/- Results that lie in memory: a struct and two or three numbers. -/
namespace Go.Eng
variable {L:Env} {R H:List PH}
theorem resSEEE {fn:Func} {N:Bs} {M:Nat} {P:Program} {t u u' u'' b1:Nat} {T:TypeId} {v1:List Value} {v2 v3 v4:Value} (hr:fn.results = #[.cell t T,.tmp u,.tmp u',.tmp u'']) (ht:look L t = some (.pointer (some ⟨b1,0,none⟩))) (hu:look L u = some v2) (hu':look L u' = some v3) (hu'':look L u'' = some v4) (a1:aggP P T = some true)
    (n1:szP P T = some v1.length) (c1:Cells N R H b1 0 v1):∀ a w,Frm M L a → Sat N R H w → (results fn a.tmps).run P w = .ok (.tuple #[.agg v1.toArray,v2,v3,v4]) w:=by
  intro a w hf hs
  have e1:a.tmps[t]?.getD undef = .pointer (some ⟨b1,0,none⟩):=by simpa using hf.get t _ ht
  have e2:a.tmps[u]?.getD undef = v2:=by simpa using hf.get u _ hu
  have e3:a.tmps[u']?.getD undef = v3:=by simpa using hf.get u' _ hu'
  have e4:a.tmps[u'']?.getD undef = v4:=by simpa using hf.get u'' _ hu''
  have l1:=run_loadCells_list (P:=P) (w:=w) ⟨b1,0,none⟩ v1 (fun j v hv=>by rw [Addr.add_lit]; exact c1 w hs j v hv)
  simp [results,hr,e1,e2,e3,e4,loadVar,run_isAgg a1,run_sizeOf n1,l1,asAddr]
end Go.Eng
/- How much can be brought. -/
namespace Go.Proofs.YtphehihohghfoaaGreat
open Go.Eng Go.Step
set_option maxRecDepth 100000
set_option maxHeartbeats 4000000

set_option maxHeartbeats 32000000 in
theorem plMax_spec {ρ τ σ υ:PH} {pq pc pb ph:Option Addr} {kq kc kb kh:Nat} {qs:List Int} {cs:List Ct} {bs:List Bk} {hs:List Hd} (hT:TbAt ρ τ σ υ pq pc pb ph kq kc kb kh qs cs bs hs) (d:Dm) :
  Eng.Spec Tryz.prog (fv 27) [.agg #[.slice pq qs.length kq,.slice pc cs.length kc,.slice pb bs.length kb,.slice ph hs.length kh],.agg #[int d.s,int d.d,int d.v,int d.r,int d.e]] [ρ,τ,σ,υ] [] (fun r H'=>(validT qs cs bs hs d = true ∧ ∃ (pg:Option Addr) (kg:Nat) (pf:Option Addr) (kf:Nat) (F:List Int) (m:Int) (σg σf:PH),ArcsAt σg (.slice pg (arcsG qs cs bs hs d).length kg) (arcsG qs cs bs hs d) ∧ IntsAt σf (.slice pf F.length kf) F ∧ MaxN qs cs bs hs d F m 0 ∧ H' = [σg,σf] ∧ r = .tuple #[.agg #[int (vsN qs d),.slice pg (arcsG qs cs bs hs d).length kg,int (vtx d d.s d.r),int (vtx d d.d d.e)],.slice pf F.length kf,int m,int 0]) ∨ (validT qs cs bs hs d = false ∧ H' = [] ∧ r = .tuple #[.agg #[int 0,.slice none 0 0,int 0,int 0],.slice none 0 0,int 0,int 1])):=by
 refine spec_in (cap:=[]) Tryz.func27 rfl rfl Tryz.ntmps27 rfl envZ (fun N β=>?_)
 refine AC ?_;refine AA ?_;refine BH (BK rfl) rfl rfl rfl ?_;rintro _ _ ⟨b1,rfl,rfl⟩;refine AR (ρ:=sng b1 _) takeZ ?_
 have ct:RdN (sng b1 (.cells #[.slice pq qs.length kq,.slice pc cs.length kc,.slice pb bs.length kb,.slice ph hs.length kh] 29 (0,0))) b1 0 [.slice pq qs.length kq,.slice pc cs.length kc,.slice pb bs.length kb,.slice ph hs.length kh]:=rdN_sng (vs:=[.slice pq qs.length kq,.slice pc cs.length kc,.slice pb bs.length kb,.slice ph hs.length kh])
 have ct0:rdc (sng b1 (.cells #[.slice pq qs.length kq,.slice pc cs.length kc,.slice pb bs.length kb,.slice ph hs.length kh] 29 (0,0))) b1 0 = some (.slice pq qs.length kq):=by rw [rdc_sng]; rfl
 have ct1:rdc (sng b1 (.cells #[.slice pq qs.length kq,.slice pc cs.length kc,.slice pb bs.length kb,.slice ph hs.length kh] 29 (0,0))) b1 1 = some (.slice pc cs.length kc):=by rw [rdc_sng]; rfl
 have ct2:rdc (sng b1 (.cells #[.slice pq qs.length kq,.slice pc cs.length kc,.slice pb bs.length kb,.slice ph hs.length kh] 29 (0,0))) b1 2 = some (.slice pb bs.length kb):=by rw [rdc_sng]; rfl
 have ct3:rdc (sng b1 (.cells #[.slice pq qs.length kq,.slice pc cs.length kc,.slice pb bs.length kb,.slice ph hs.length kh] 29 (0,0))) b1 3 = some (.slice ph hs.length kh):=by rw [rdc_sng]; rfl
 have ctp:RdP (sng b1 (.cells #[.slice pq qs.length kq,.slice pc cs.length kc,.slice pb bs.length kb,.slice ph hs.length kh] 29 (0,0))) b1 0 [.slice pq qs.length kq,.slice pc cs.length kc]:=rdP_sng (xs:=[.slice pq qs.length kq,.slice pc cs.length kc,.slice pb bs.length kb,.slice ph hs.length kh]) rfl
 refine BH (BK rfl) rfl rfl rfl ?_;rintro _ _ ⟨b2,rfl,rfl⟩;refine AR (ρ:=sng b2 _) takeZ ?_
 have cd:RdN (sng b2 (.cells #[int d.s,int d.d,int d.v,int d.r,int d.e] 31 (0,0))) b2 0 [int d.s,int d.d,int d.v,int d.r,int d.e]:=rdN_sng (vs:=[int d.s,int d.d,int d.v,int d.r,int d.e])
 have cd0:rdc (sng b2 (.cells #[int d.s,int d.d,int d.v,int d.r,int d.e] 31 (0,0))) b2 0 = some (int d.s):=by rw [rdc_sng]; rfl
 have cd1:rdc (sng b2 (.cells #[int d.s,int d.d,int d.v,int d.r,int d.e] 31 (0,0))) b2 1 = some (int d.d):=by rw [rdc_sng]; rfl
 have cd2:rdc (sng b2 (.cells #[int d.s,int d.d,int d.v,int d.r,int d.e] 31 (0,0))) b2 2 = some (int d.v):=by rw [rdc_sng]; rfl
 have cd3:rdc (sng b2 (.cells #[int d.s,int d.d,int d.v,int d.r,int d.e] 31 (0,0))) b2 3 = some (int d.r):=by rw [rdc_sng]; rfl
 have cd4:rdc (sng b2 (.cells #[int d.s,int d.d,int d.v,int d.r,int d.e] 31 (0,0))) b2 4 = some (int d.e):=by rw [rdc_sng]; rfl
 refine AX ?_; rintro _ _ ⟨b,rfl,rfl⟩;refine AD ?_;refine AD ?_;refine AD ?_;refine AE ?_;refine AC ?_;refine AA ?_;refine AT ?_;refine AT ?_
 revert b; intro b4
 refine BZ (Graph_spec hT d) rfl rfl rdZ rfl rfl ?_;rintro _ σg hg
 cases hv:validT qs cs bs hs d with
 | false =>
  rw [hv,if_neg (by simp)] at hg
  obtain ⟨rfl,rfl⟩:=hg
  refine AB ?_;refine AO ?_;refine AO ?_;refine AX ?_; rintro _ _ ⟨b,rfl,rfl⟩;refine AV ?_; rintro _ _ ⟨rfl,rfl⟩;refine AD ?_;refine AE ?_;refine AC ?_;refine AC ?_;refine AA ?_;refine AB ?_;refine CF ?_;refine AE ?_;refine AN rfl ?_;refine AC ?_;refine AA ?_;refine BO ?_;refine AV ?_; rintro _ _ ⟨rfl,rfl⟩;refine AD ?_;refine AD ?_;refine AD ?_;refine AE ?_;exact AI (resSEEE (b1:=b4) (T:=69) (v1:=[int 0,.slice none 0 0,int 0,int 0]) rfl rfl rfl rfl rfl rfl rfl (cells_own memZ)) rsubZ selZ (.inr ⟨rfl,rfl,rfl⟩)
 | true =>
 rw [hv,if_pos rfl] at hg
 obtain ⟨ug,rfl,hOg⟩:=hg
 have hAt:ArcsAt σg ug (arcsG qs cs bs hs d):=hOg.at
 obtain ⟨pg,kg,rfl⟩:=hOg.form
 have h:=vok hv
 have hEl:=ea_len qs cs bs hs d h
 have hAl:(arcsG qs cs bs hs d).length = (arcsE qs cs bs hs d).length:=by unfold arcsG; rw [List.length_map]
 have hM:=flowMax_spec σg (.slice pg (arcsG qs cs bs hs d).length kg) (vsN qs d) (vtx d d.s d.r) (vtx d d.d d.e) (arcsG qs cs bs hs d) hAt (by omega)
 refine AB ?_;refine AO ?_;refine AO ?_;refine AX ?_; rintro _ _ ⟨b,rfl,rfl⟩;refine AV ?_; rintro _ _ ⟨rfl,rfl⟩;refine AD ?_;refine AE ?_;refine AC ?_;refine AC ?_;refine AA ?_;refine AB ?_;refine BF ?_;refine AE ?_;refine AM rfl ?_;refine AK ?_;refine AC ?_;refine AA ?_;refine AG ?_;refine AF ?_;refine AG ?_;refine AF ?_;refine AG ?_;refine AF ?_;refine AG ?_;refine AF ?_;refine BZ hM rfl rfl rdZ rfl rfl ?_;rintro _ σf ⟨fs,F,m,e,rfl,hF,hm⟩
 obtain ⟨he,_⟩:=max_cut h (show MaxN qs cs bs hs d F m e from hm)
 subst he
 obtain ⟨pf,kf,rfl,_⟩:=hF.val Eng.encI_len
 refine AB ?_;refine AO ?_;refine AO ?_;refine AO ?_;refine AD ?_;refine AD ?_;refine AD ?_;refine AE ?_;refine AC ?_;refine AC ?_;refine AA ?_;refine AB ?_;refine BF ?_;refine AE ?_;refine AM rfl ?_;refine AK ?_;refine AC ?_;refine AA ?_;refine AT ?_;refine AB ?_;refine AB ?_;refine AV ?_; rintro _ _ ⟨rfl,rfl⟩;refine AD ?_;refine AD ?_;refine AD ?_;refine AE ?_;exact AI (resSEEE (b1:=b4) (T:=69) (v1:=[int (vsN qs d),.slice pg (arcsG qs cs bs hs d).length kg,int (vtx d d.s d.r),int (vtx d d.d d.e)]) rfl rfl rfl rfl rfl rfl rfl (cells_own memZ)) rsubZ selZ (.inl ⟨rfl,pg,kg,pf,kf,F,m,σg,σf,hAt,hF,hm,rfl,rfl⟩)
set_option maxHeartbeats 16000000 in
theorem Most_spec {ρ τ σ υ:PH} {pq pc pb ph:Option Addr} {kq kc kb kh:Nat} {qs:List Int} {cs:List Ct} {bs:List Bk} {hs:List Hd} (hT:TbAt ρ τ σ υ pq pc pb ph kq kc kb kh qs cs bs hs) (d:Dm) :
  Ans Tryz.prog (fv 9) [.agg #[.slice pq qs.length kq,.slice pc cs.length kc,.slice pb bs.length kb,.slice ph hs.length kh],.agg #[int d.s,int d.d,int d.v,int d.r,int d.e]] [ρ,τ,σ,υ] (fun r=>(validT qs cs bs hs d = true ∧ ∃ (F:List Int) (m:Int),MaxN qs cs bs hs d F m 0 ∧ r = .tuple #[int m,int 0]) ∨ (validT qs cs bs hs d = false ∧ r = .tuple #[int 0,int 1])):=by
 refine spec_in (cap:=[]) Tryz.func9 rfl rfl Tryz.ntmps9 rfl envZ (fun N β=>?_)
 refine AC ?_;refine AA ?_;refine BH (BK rfl) rfl rfl rfl ?_;rintro _ _ ⟨b1,rfl,rfl⟩;refine AR (ρ:=sng b1 _) takeZ ?_
 have ct:RdN (sng b1 (.cells #[.slice pq qs.length kq,.slice pc cs.length kc,.slice pb bs.length kb,.slice ph hs.length kh] 29 (0,0))) b1 0 [.slice pq qs.length kq,.slice pc cs.length kc,.slice pb bs.length kb,.slice ph hs.length kh]:=rdN_sng (vs:=[.slice pq qs.length kq,.slice pc cs.length kc,.slice pb bs.length kb,.slice ph hs.length kh])
 have ct0:rdc (sng b1 (.cells #[.slice pq qs.length kq,.slice pc cs.length kc,.slice pb bs.length kb,.slice ph hs.length kh] 29 (0,0))) b1 0 = some (.slice pq qs.length kq):=by rw [rdc_sng]; rfl
 have ct1:rdc (sng b1 (.cells #[.slice pq qs.length kq,.slice pc cs.length kc,.slice pb bs.length kb,.slice ph hs.length kh] 29 (0,0))) b1 1 = some (.slice pc cs.length kc):=by rw [rdc_sng]; rfl
 have ct2:rdc (sng b1 (.cells #[.slice pq qs.length kq,.slice pc cs.length kc,.slice pb bs.length kb,.slice ph hs.length kh] 29 (0,0))) b1 2 = some (.slice pb bs.length kb):=by rw [rdc_sng]; rfl
 have ct3:rdc (sng b1 (.cells #[.slice pq qs.length kq,.slice pc cs.length kc,.slice pb bs.length kb,.slice ph hs.length kh] 29 (0,0))) b1 3 = some (.slice ph hs.length kh):=by rw [rdc_sng]; rfl
 have ctp:RdP (sng b1 (.cells #[.slice pq qs.length kq,.slice pc cs.length kc,.slice pb bs.length kb,.slice ph hs.length kh] 29 (0,0))) b1 0 [.slice pq qs.length kq,.slice pc cs.length kc]:=rdP_sng (xs:=[.slice pq qs.length kq,.slice pc cs.length kc,.slice pb bs.length kb,.slice ph hs.length kh]) rfl
 refine BH (BK rfl) rfl rfl rfl ?_;rintro _ _ ⟨b2,rfl,rfl⟩;refine AR (ρ:=sng b2 _) takeZ ?_
 have cd:RdN (sng b2 (.cells #[int d.s,int d.d,int d.v,int d.r,int d.e] 31 (0,0))) b2 0 [int d.s,int d.d,int d.v,int d.r,int d.e]:=rdN_sng (vs:=[int d.s,int d.d,int d.v,int d.r,int d.e])
 have cd0:rdc (sng b2 (.cells #[int d.s,int d.d,int d.v,int d.r,int d.e] 31 (0,0))) b2 0 = some (int d.s):=by rw [rdc_sng]; rfl
 have cd1:rdc (sng b2 (.cells #[int d.s,int d.d,int d.v,int d.r,int d.e] 31 (0,0))) b2 1 = some (int d.d):=by rw [rdc_sng]; rfl
 have cd2:rdc (sng b2 (.cells #[int d.s,int d.d,int d.v,int d.r,int d.e] 31 (0,0))) b2 2 = some (int d.v):=by rw [rdc_sng]; rfl
 have cd3:rdc (sng b2 (.cells #[int d.s,int d.d,int d.v,int d.r,int d.e] 31 (0,0))) b2 3 = some (int d.r):=by rw [rdc_sng]; rfl
 have cd4:rdc (sng b2 (.cells #[int d.s,int d.d,int d.v,int d.r,int d.e] 31 (0,0))) b2 4 = some (int d.e):=by rw [rdc_sng]; rfl
 refine AD ?_;refine AD ?_;refine AE ?_;refine AC ?_;refine AA ?_;refine AT ?_;refine AT ?_;refine BE (plMax_spec hT d) rfl rfl Takes.nil rdZ rfl rfl ?_;rintro _ H' (⟨hv,pg,kg,pf,kf,F,m,σg,σf,hAt,hF,hm,rfl,rfl⟩ | ⟨hv,rfl,rfl⟩)
 ·refine AB ?_
  refine AO ?_;refine AO ?_;refine AO ?_;refine AO ?_;refine AX ?_; rintro _ _ ⟨b,rfl,rfl⟩;refine AV ?_; rintro _ _ ⟨rfl,rfl⟩;refine AD ?_;refine AD ?_;refine AD ?_;refine AE ?_;refine AC ?_;refine AA ?_;refine AB ?_;refine AB ?_;refine AD ?_;refine AD ?_;refine AE ?_;exact AI (res2 rfl rfl rfl) rsubZ selZ ⟨rfl,.inl ⟨hv,F,m,hm,rfl⟩⟩
 ·refine AB ?_
  refine AO ?_;refine AO ?_;refine AO ?_;refine AO ?_;refine AX ?_; rintro _ _ ⟨b,rfl,rfl⟩;refine AV ?_; rintro _ _ ⟨rfl,rfl⟩;refine AD ?_;refine AD ?_;refine AD ?_;refine AE ?_;refine AC ?_;refine AA ?_;refine AB ?_;refine AB ?_;refine AD ?_;refine AD ?_;refine AE ?_;exact AI (res2 rfl rfl rfl) rsubZ selZ ⟨rfl,.inr ⟨hv,rfl⟩⟩
end Go.Proofs.YtphehihohghfoaaGreat
/- Paths of the program. -/
namespace Go.Proofs.YtphehihohghfoaaGreat
open Go.Eng Go.Flow
set_option maxRecDepth 100000
set_option maxHeartbeats 4000000

theorem ints_one (l:List Int):∀ u ∈ l.flatMap Eng.encI,u.oneCell' = true:=by
 intro u hu
 rw [List.mem_flatMap] at hu
 obtain ⟨a,_,hu⟩:=hu
 simp only [Eng.encI,List.mem_cons,List.not_mem_nil,or_false] at hu;subst hu; rfl
theorem cloneInt_spec (ρ:PH) (v:Value) (l:List Int) (hv:IntsAt ρ v l) (hl:l.length ≤ 1000000) :
  Makes Tryz.prog (fv 65) [v] [ρ] (fun r σ=>OwnS 3 1 r l.length (l.flatMap Eng.encI) σ):=by
 have hv2:=hv
 obtain ⟨q,c,rfl,hr⟩:=hv.val Eng.encI_len
 refine spec_in (cap:=[]) Tryz.func65 rfl rfl Tryz.ntmps65 rfl envZ (fun N β=>?_)
 cases q with
 | none =>
  have hnil:l = []:=by
   cases l with
   | nil=>rfl
   | cons a l =>
    obtain ⟨b,o,e,_⟩:=hr 0 a rfl
    simp at e
  subst hnil;refine BX ?_;refine AC ?_;refine AA ?_;refine AD ?_;refine AE ?_;refine AC ?_;refine AC ?_;refine AA ?_;refine AB ?_
  focus ((refine' CD _ rfl rfl rfl _; rotate_left; (apply GM; exact rfl; exact rfl; exact rfl)))
  refine AE ?_;refine AN rfl ?_;refine AC ?_;refine AA ?_;refine AD ?_;refine AE ?_;exact AI (res1 rfl rfl) rsubZ selZ ⟨emp,OwnS.nil _ _,rfl⟩
 | some ad =>
  refine AC ?_;refine AA ?_;refine AD ?_;refine AE ?_;refine AC ?_;refine AC ?_;refine AA ?_;refine AB ?_
  focus ((refine' CD _ rfl rfl rfl _; rotate_left; (apply GN; exact rfl; exact rfl; exact rfl)))
  refine AE ?_;refine AM rfl ?_;refine AK ?_;refine AC ?_;refine AA ?_;refine BI ?_; rintro _ _ ⟨b,rfl,rfl⟩;refine AB ?_
  rcases Nat.eq_zero_or_pos l.length with h0 | h0
  ·have hnil:l = []:=List.eq_nil_of_length_eq_zero h0
   subst hnil
   focus ((refine' CD _ rfl rfl rfl _; rotate_left; (apply FJ; exact rfl; exact rfl; exact rfl; exact rfl; omega)))
   refine AD ?_;refine AE ?_;exact AI (res1 rfl rfl) rsubZ selZ ⟨_,OwnS.empty,rfl⟩
  ·obtain ⟨b2,o2,c2,e,hcell⟩:=SlAt.some hv2 h0
   simp only [Value.slice.injEq,Option.some.injEq,true_and] at e
   obtain ⟨rfl,rfl⟩:=e
   refine BH (B5 (by_:=8) (s:=1) (news:=l.flatMap Eng.encI) rfl rfl rfl rfl rfl rfl rfl (OwnS.empty (b:=b)) takeZ (cellsR (ρ:=ρ) hcell memZ) (flat_len Eng.encI_len l) (ints_one l) h0 (by simp only [maxLen]; omega) (by omega)) rfl rfl rfl ?_
   rintro r1 _ ⟨σ,hO,rfl⟩;refine AD ?_;refine AE ?_;refine AI (res1 rfl rfl) rsubZ selZ ⟨σ,?_,rfl⟩
   simpa using hO
theorem OwnS.num {e:TypeId} {b n cap:Nat} {l:List Int} {ρ:PH} (h:OwnS e 1 (.slice (some ⟨b,0,none⟩) n cap) l.length (l.flatMap Eng.encI) ρ) {i:Nat} (hi:i < l.length):rdc ρ b i = some (int (l.getD i 0)):=by
 have hS:SlE Eng.encI 1 ρ (.slice (some ⟨b,0,none⟩) n cap) l:=h.at
 obtain ⟨p,c,e1,hr⟩:=hS.val Eng.encI_len
 simp only [Value.slice.injEq] at e1
 obtain ⟨b',o',e2,h2⟩:=hr.int (List.getElem?_eq_getElem hi)
 rw [← e1.1] at e2;simp only [Option.some.injEq,Addr.mk.injEq,and_true] at e2
 obtain ⟨rfl,rfl⟩:=e2
 rw [Nat.zero_add] at h2;rw [h2]
 simp [List.getD_eq_getElem?_getD,hi]
theorem OwnS.some_of {e:TypeId} {s:Nat} {v:Value} {l:List Int} {ρ:PH} (h:OwnS e s v l.length (l.flatMap Eng.encI) ρ) (h0:0 < l.length):∃ b cap,v = .slice (some ⟨b,0,none⟩) l.length cap:=by
 rcases h.block with ⟨_,h2,_⟩ | ⟨b,cap,cur,h2,_⟩
 ·rw [h2] at h0; simp at h0
 ·exact ⟨b,cap,h2⟩
abbrev roomP (b:Nat):Value:=.func (.func 67) #[] #[.pointer (some ⟨b,0,none⟩)]
theorem paths1_spec (ρ:PH) (b k:Nat) (T e:TypeId) (rv:Value) (rest:List Int) (hO:OwnS e 1 rv rest.length (rest.flatMap Eng.encI) ρ) (hk:k < rest.length) :
  Ans Tryz.prog (roomP b) [int k] [sng b (.cells #[rv] T (0,0)),ρ] (fun r=>r = int (rmP rest k)):=by
 obtain ⟨br,cap,rfl⟩:=OwnS.some_of hO (by omega)
 have c1:rdc (sng b (.cells #[.slice (some ⟨br,0,none⟩) rest.length cap] T (0,0))) b 0 = some (.slice (some ⟨br,0,none⟩) rest.length cap):=by rw [rdc_sng]; rfl
 have c2:=OwnS.num hO hk
 refine spec_in (cap:=[.pointer (some ⟨b,0,none⟩)]) Tryz.func67 rfl rfl Tryz.ntmps67 rfl envZ (fun N β=>?_)
 refine AC ?_;refine AA ?_;refine AD ?_;refine AE ?_;refine AC ?_;refine AA ?_;refine AF ?_;refine AB ?_;refine BS ?_;refine AF ?_;refine AD ?_;refine AE ?_;exact AI (res1 rfl rfl) rsubZ selZ ⟨rfl,rfl⟩

def encPV (x:Value × Int):List Value:=[x.1,int x.2]
theorem encPV_len (x:Value × Int):(encPV x).length = 2:=rfl
def ArcsIn (σ:PH) (es:List (Value × Int)) (ps:List (List Lk × Int)):Prop:=
 es.length = ps.length ∧ ∀ (i:Nat) (e:Value × Int) (p:List Lk × Int),es[i]? = some e → ps[i]? = some p → e.2 = p.2 ∧ IntsAt σ e.1 (ksOf p.1)
theorem ArcsIn.nil (σ:PH):ArcsIn σ [] []:=⟨rfl,by intro i e p h; simp at h⟩
theorem ArcsIn.sub {σ τ:PH} {es:List (Value × Int)} {ps:List (List Lk × Int)} (h:ArcsIn σ es ps) (hs:PH.sub σ τ):ArcsIn τ es ps:=⟨h.1,fun i e p h1 h2=>⟨(h.2 i e p h1 h2).1,hs.slE (h.2 i e p h1 h2).2⟩⟩
theorem ArcsIn.snoc {σ:PH} {es:List (Value × Int)} {ps:List (List Lk × Int)} {e:Value × Int} {p:List Lk × Int} (h:ArcsIn σ es ps) (h1:e.2 = p.2) (h2:IntsAt σ e.1 (ksOf p.1)):ArcsIn σ (es ++ [e]) (ps ++ [p]):=by
 refine ⟨by simp [h.1],fun i e' p' k1 k2=>?_⟩
 by_cases hi:i < es.length
 ·rw [List.getElem?_append_left hi] at k1
  rw [List.getElem?_append_left (by rw [← h.1]; exact hi)] at k2
  exact h.2 i e' p' k1 k2
 ·rw [List.getElem?_append_right (by omega)] at k1
  rw [List.getElem?_append_right (by rw [← h.1]; omega)] at k2
  have hz:i - es.length = 0:=by
   have:=(List.getElem?_eq_some_iff.1 k1).1
   simp at this; omega
  rw [hz] at k1;rw [← h.1,hz] at k2
  simp at k1 k2
  subst k1; subst k2;exact ⟨h1,h2⟩
def PathsAt (σ:PH) (u:Value) (ps:List (List Lk × Int)):Prop:=∃ es,SlE encPV 2 σ u es ∧ ArcsIn σ es ps

set_option maxHeartbeats 8000000 in
theorem flowPaths_spec (ρ σ:PH) (v u:Value) (n s t:Int) (l:List Arc) (fl:List Int) (hv:ArcsAt ρ v l) (hu:IntsAt σ u fl) (hl:l.length ≤ 1000000) :
  Makes Tryz.prog (fv 32) [int n,v,u,int s,int t] [ρ,σ] (fun r τ=>∃ w ps e,r = .tuple #[w,int e] ∧ PathsAt τ w ps ∧ PathsOK n l fl s t ps e):=by
 have hnil:PathsAt emp (.slice none 0 0) []:=⟨[],⟨rfl,.inl ⟨rfl,none,0,rfl⟩⟩,ArcsIn.nil _⟩
 have hv2:=hv
 obtain ⟨q,c,rfl,hr⟩:=hv.val encA_len
 refine spec_in (cap:=[]) Tryz.func32 rfl rfl Tryz.ntmps32 rfl envZ (fun N β=>?_)
 refine AC ?_;refine AA ?_;refine AD ?_;refine AD ?_;refine AE ?_;refine AC ?_;refine AC ?_;refine AA ?_;refine AB ?_;refine AB ?_;refine AB ?_;refine AB ?_;refine AB ?_;refine A2 (flowValue_spec ρ σ _ u n s t l fl hv2 hu hl) rfl rfl rdZ rfl rfl ?_;rintro _ rfl
 by_cases h0:(valueSpec n l fl s t).2 = 0
 rotate_left
 ·refine AB ?_
  refine AO ?_;refine AO ?_;refine AD ?_;refine AD ?_;refine AE ?_;refine AC ?_;refine AA ?_;refine AB ?_;refine CF ?_;refine AE ?_;refine AN rfl ?_;refine AC ?_;refine AA ?_;refine AB ?_;refine AD ?_;refine AD ?_;refine AE ?_;refine BX ?_;exact AI (res2 rfl rfl rfl) rsubZ selZ ⟨emp,⟨_,[],_,rfl,hnil,.inl ⟨h0,rfl,rfl⟩⟩,rfl⟩
 obtain ⟨n',s',t',g,hF0,_⟩:=value_good h0
 obtain ⟨rfl,rfl,rfl⟩:=And.intro g.en (And.intro g.es g.et)
 have hn2:=g.n2
 have hl2:=g.l2
 have hpl:=pl_lt g.ok
 have hcap:∀ a ∈ l,0 ≤ a.c ∧ a.c ≤ 1099511627776:=fun a ha=>by have:=okArc_iff.1 (g.ok a ha); omega
 have hpk:∀ x ∈ plinks l,x.f < n' ∧ x.t < n' ∧ x.k ≤ 40000:=fun x hx=>by have:=hpl x hx; have:=pl_k hx; omega
 have hGok:GOk n' (outsOf (plinks l)) (insOf (plinks l)):=GOk_of hn2 (by rw [plinks_len]; omega) hpk
 refine AB ?_;refine AO ?_;refine AO ?_;refine AD ?_;refine AD ?_;refine AE ?_;refine AC ?_;refine AA ?_;refine AB ?_;refine BF ?_;refine AE ?_;refine AM rfl ?_;refine AK ?_;refine AC ?_;refine AA ?_;refine AB ?_
 refine BZ (cloneInt_spec σ u fl hu (by rw [← hF0.len]; omega)) rfl rfl rdZ rfl rfl ?_
 rintro rv ρr hO
 have hrv1:rv.oneCell' = true:=OwnS.one hO
 refine BH (EW rfl rfl) rfl rfl rfl ?_;rintro _ _ ⟨bb,rfl,rfl⟩;refine CE (D6 rfl rfl hrv1 rfl takeZ SetL.here) rfl rfl ?_;rintro _ _ ⟨rfl,rfl⟩;refine AE ?_;refine AC ?_;refine AA ?_;refine AB ?_;refine BW ?_;refine BE (newGraph_spec n' 67 [.pointer (some ⟨bb,0,none⟩)] hn2) rfl rfl takesZ rdZ rfl rfl ?_;rintro _ _ ⟨gb,ob,ib,rfl,rfl⟩;simp only [List.cons_append,List.nil_append]
 have hG0:=GBl_new gb ob ib n' (roomP bb)
 refine EH (n' + n') ?_;simp only [List.cons_append,List.nil_append];refine AD ?_;refine AE ?_;refine AC ?_;refine AC ?_;refine AA ?_;refine AB ?_;refine AW ?_;refine AB ?_;refine AE ?_;refine AP ?_
 refine BA [0,1,3,4,14,15,41,42] (X:=Nat × List PH) (0,_) (fun x=>x.1 ≤ l.length ∧ GBl gb ob ib n' (roomP bb) (plinks (l.take x.1)) x.2) (fun x=>[(43,int x.1)])
  (fun x=>sng bb (.cells #[rv] 22 (0,0)) :: ρr :: x.2) (fun x=>l.length - x.1) pickZ ⟨by simp,hG0⟩ covZ ?_ ?_
 ·refine Sel.cons takeZ (Sel.cons takeZ (Sel.cons takeZ (Sel.cons takeZ (Sel.cons takeZ ?_))))
  rw [List.replicate_append_replicate];exact Sel.refl
 rintro ⟨k,Hg⟩ ⟨hk,hG⟩
 dsimp only at hk hG ⊢
 by_cases hlt:k < l.length
 ·have hx:=List.getElem?_eq_getElem hlt
  obtain ⟨b',o,rfl,hA,h0',h1',h2'⟩:=arcRow hr hx
  obtain ⟨g1,g2,g3,g4,g5,g6,g7⟩:=okArc_iff.1 (g.ok l[k] (List.getElem_mem hlt))
  obtain ⟨f,hf⟩:=Int.eq_ofNat_of_zero_le g1
  obtain ⟨t2,ht2⟩:=Int.eq_ofNat_of_zero_le g3
  have hlr:=plinks_len (l.take k)
  have hlk:(l.take k).length = k:=by simp; omega
  have hsn:=plinks_snoc (l.take k) l[k]
  rw [← take_snoc' hlt,hlk,hf,ht2] at hsn;simp only [Int.toNat_natCast] at hsn;rw [hf,ht2] at hA
  have a1:=add_bl hG k f t2 (by omega) (by omega) (by omega)
  refine AC ?_;refine AA ?_;refine BC ?_;refine AE ?_;refine AC ?_;refine AN rfl ?_;refine AK ?_;refine AC ?_;refine AP ?_;refine AC ?_;refine AA ?_;refine AB ?_;refine BB ?_;refine AT ?_;refine AX ?_; rintro _ _ ⟨b,rfl,rfl⟩;refine AD ?_;refine AV ?_; rintro _ _ ⟨rfl,rfl⟩;refine AE ?_;refine AA ?_;refine AB ?_;refine AB ?_;refine AG ?_;refine AF ?_;refine AG ?_;refine AF ?_;refine BE a1 rfl rfl (Takes.skips [_,_,_] Takes.all) rdZ rfl rfl ?_;rintro _ H1 ⟨rfl,hG1⟩
  refine CH (H':=sng b (.cells #[int (f:Int),int (t2:Int),int l[k].c] 141 (0,0)) :: sng bb (.cells #[rv] 22 (0,0)) :: ρr :: H1) (by simpa using List.perm_append_comm (l₁:=H1) (l₂:=[_,_,_])) ?_
  refine AE ?_;refine A3 ?_;refine AA ?_;refine A8 ?_;refine AB ?_;refine AE ?_
  refine AY (k + 1,H1) ⟨by dsimp only; omega,?_⟩ (by dsimp only; omega) covZ (Sel.cons takeZ (Sel.cons takeZ (Sel.skip Sel.refl)))
  dsimp only
  rw [hsn];exact hG1
 rw [List.take_of_length_le (by omega)] at hG
 refine CH (H':=Hg ++ [sng bb (.cells #[rv] 22 (0,0)),ρr]) (by simpa using List.perm_append_comm (l₂:=Hg) (l₁:=[_,_])) ?_
 refine DG (fun γ hγ=>?_)
 have hGA:=hG.at hγ
 refine AR (ρ:=γ) takeZ ?_;refine BX ?_;refine BX ?_;refine AC ?_;refine AA ?_;refine AZ ?_;refine AE ?_;refine AC ?_;refine AM rfl ?_;refine A7 rfl ?_;refine AC ?_;refine AA ?_;refine AD ?_;refine AE ?_;refine AP ?_
 refine BA [0,1,3,4,14,15] (X:=(List Int × List (List Lk × Int)) × ((Value × List (Value × Int)) × ((PH × PH) × PH))) ((fl,[]),((.slice none 0 0,[]),((emp,emp),ρr)))
  (fun x=>Flw n' l s' t' x.1.1 ∧ (∀ ps r,RunP n' l s' t' x.1.1 ps r → RunP n' l s' t' fl (x.1.2 ++ ps) r) ∧ OwnS 3 1 rv x.1.1.length (x.1.1.flatMap Eng.encI) x.2.2.2 ∧ OwnS 87 2 x.2.1.1 x.2.1.2.length (x.2.1.2.flatMap encPV) x.2.2.1.1 ∧ ArcsIn x.2.2.1.2 x.2.1.2 x.1.2 ∧ x.1.2.length + npos x.1.1 ≤ l.length)
  (fun x=>[(18,x.2.1.1)]) (fun x=>[sng bb (.cells #[rv] 22 (0,0)),x.2.2.2,x.2.2.1.1,x.2.2.1.2]) (fun x=>(fval s' l x.1.1 + 1099511627776 * (2 * (l.length:Int))).toNat)
  pickZ ⟨hF0,fun _ _ h=>h,hO,OwnS.nil _ _,ArcsIn.nil _,by have:=npos_len fl; have:=hF0.len; dsimp only [List.length_nil]; omega⟩ covZ selZ ?_
 rintro ⟨⟨rest,ps⟩,⟨⟨ov,es⟩,⟨⟨ρo,ρa⟩,ρ1⟩⟩⟩ ⟨hF,hrun,hO1,hOo,hAr,hcnt⟩
 dsimp only at hF hrun hO1 hOo hAr hcnt ⊢
 have hb0:=fval_bd s' l fl (inCap_small l _ hF0.len hF0.cap g.ok)
 have hb1:=fval_bd s' l rest (inCap_small l _ hF.len hF.cap g.ok)
 rw [← hF0.len] at hb0;rw [← hF.len] at hb1
 have hrm:∀ v x,v < n' → x ∈ insOf (plinks l) v → Ans Tryz.prog (roomP bb) [int x.k] [sng bb (.cells #[rv] 22 (0,0)),ρ1] (fun r=>r = int (rmP rest x.k)):=fun v x _ hx=>by
  have hm:x ∈ plinks l:=by unfold insOf at hx; exact (List.mem_filter.1 hx).1
  exact paths1_spec ρ1 bb x.k _ _ rv rest hO1 (by rw [← hF.len]; exact pl_k hm)
 refine AP ?_;refine AC ?_;refine AA ?_;refine AB ?_;refine AB ?_;refine AB ?_;refine BZ (path_spec γ gb n' s' t' (outsOf (plinks l)) (insOf (plinks l)) (roomP bb) (rmP rest) _ hGA hGok g.sn g.tn hrm) rfl rfl rdZ rfl rfl ?_;rintro _ ρp ⟨D,pv,hD,rfl,hP⟩;rw [opens_opn hpl] at hD;rw [nxO_nxt] at hP
 by_cases hd0:0 ≤ D.getD s' 0
 rotate_left
 ·rw [decide_eq_false hd0]
  refine AB ?_;refine AO ?_;refine AO ?_;refine AD ?_;refine AD ?_;refine AE ?_;refine AC ?_;refine AC ?_;refine AA ?_;refine AB ?_;refine A9 ?_;refine AE ?_;refine AN rfl ?_;refine AC ?_;refine AA ?_;refine AB ?_;refine AD ?_;refine AD ?_;refine AE ?_
  refine DR (ρ:=ρo) takeZ (σ:=ρa) takeZ (fun δ k1 k2=>?_)
  refine AI (res2 rfl rfl rfl) rsubZ selZ ⟨δ,⟨ov,ps,0,rfl,⟨es,k1.slE hOo.at,hAr.sub k2⟩,.inr ⟨h0,rfl,rest,?_⟩⟩,rfl⟩
  have:=hrun [] rest (.done hD (by omega))
  simpa using this
 rw [decide_eq_true hd0]
 obtain ⟨hN1,hN2,hN3⟩:=pNext_ok g.ok g.sn g.ne hF hD hd0
 obtain ⟨k0,hk0⟩:=Int.eq_ofNat_of_zero_le hd0
 have hDn:=hD.lt (fun x hx=>hpl x hx.1) g.tn g.sn
 have hPl:(pP l rest D s').length = k0:=path_len hpl hD k0 s' g.sn hk0
 have hPm:∀ x ∈ pP l rest D s',x ∈ plinks l:=fun x hx=>((path_chn hpl hD k0 s' g.sn hk0).all x hx).1.1
 have hroom:pRoom l rest D s' ≤ 1099511627776:=(leastR_le _ _ _).1
 have hIn:IntsAt ρp pv (ksOf (pP l rest D s')):=ownInts (e:=3) (by rw [show (ksOf (pP l rest D s')).length = (pP l rest D s').length from by simp [ksOf]]; exact hP)
 have hlst:=least_spec γ ρp gb (roomP bb) pv (rmP rest) _ (pP l rest D s') hGA.r hIn (by omega) (fun x hx=>hrm x.t x (hpl x (hPm x hx)).2 (by unfold insOf; rw [List.mem_filter]; exact ⟨hPm x hx,by simp⟩))
 have hpv1:pv.oneCell' = true:=SlE.one hIn
 have hroom2:leastR (rmP rest) (pP l rest D s') ≤ 1099511627776:=hroom
 have hroom3:0 < leastR (rmP rest) (pP l rest D s'):=hN2
 obtain ⟨q2,c2,rfl,hr2⟩:=hIn.val Eng.encI_len
 have hkl:(ksOf (pP l rest D s')).length = (pP l rest D s').length:=by simp [ksOf]
 have hmu:=fval_bd s' l (pNext l rest D s') (inCap_small l _ hN1.len hN1.cap g.ok)
 rw [← hN1.len] at hmu;refine AB ?_;refine AO ?_;refine AO ?_;refine AD ?_;refine AD ?_;refine AE ?_;refine AC ?_;refine AC ?_;refine AA ?_;refine AB ?_;refine A9 ?_;refine AE ?_;refine AM rfl ?_;refine AK ?_;refine AC ?_;refine AA ?_;refine AB ?_;refine AB ?_;refine A2 hlst rfl rfl rdZ rfl rfl ?_;rintro _ rfl;refine AD ?_;refine AE ?_;refine AC ?_;refine AC ?_;refine AA ?_;refine AB ?_;refine AW ?_;refine AB ?_;refine AE ?_;refine AP ?_
 refine BA [0,1,3,4,14,15,18,19,21,69,70] (X:=Nat × PH) (0,ρ1) (fun x=>x.1 ≤ (pP l rest D s').length ∧ OwnS 3 1 rv (subAll (pRoom l rest D s') rest ((pP l rest D s').take x.1)).length ((subAll (pRoom l rest D s') rest ((pP l rest D s').take x.1)).flatMap Eng.encI) x.2) (fun x=>[(71,int x.1)])
  (fun x=>[sng bb (.cells #[rv] 22 (0,0)),x.2,ρo,ρa,ρp])
  (fun x=>(pP l rest D s').length - x.1) pickZ ⟨by dsimp only; omega,by simpa [subAll] using hO1⟩ covZ selZ ?_
 rintro ⟨i,ρ2⟩ ⟨hi,hO2⟩
 dsimp only at hi hO2 ⊢
 have hal:(subAll (pRoom l rest D s') rest ((pP l rest D s').take i)).length = l.length:=by rw [subAll_len]; exact hF.len.symm
 by_cases hlt2:i < (pP l rest D s').length
 ·have hx:(ksOf (pP l rest D s'))[i]? = some ((pP l rest D s')[i].k:Int):=by simp [ksOf,hlt2]
  obtain ⟨b,o,rfl,g0⟩:=hr2.int hx
  have hxm:=hPm _ (List.getElem_mem hlt2)
  have hxk:=pl_k hxm
  obtain ⟨br,cap,rfl⟩:=OwnS.some_of hO2 (by omega)
  have hnum:=OwnS.num hO2 (i:=(pP l rest D s')[i].k) (by omega)
  have hic:=inCap_get l _ (pTake_cap g.ok g.sn hF hD hd0 i) (pP l rest D s')[i].k (l[(pP l rest D s')[i].k]'(by omega)) ((subAll (pRoom l rest D s') rest ((pP l rest D s').take i)).getD (pP l rest D s')[i].k 0) (List.getElem?_eq_getElem (by omega)) (by rw [List.getD_eq_getElem?_getD,List.getElem?_eq_getElem (by omega)]; rfl)
  have hcc:=hcap _ (List.getElem_mem (show (pP l rest D s')[i].k < l.length by omega))
  have hsn:=subAll_snoc (pRoom l rest D s') rest ((pP l rest D s').take i) (pP l rest D s')[i]
  rw [← take_snoc' hlt2] at hsn;unfold subP at hsn;refine AC ?_;refine AA ?_;refine BC ?_;refine AE ?_;refine AC ?_;refine AN rfl ?_;refine AK ?_;refine AC ?_;refine AP ?_;refine AC ?_;refine AA ?_;refine BQ ?_;refine AF ?_;refine AD ?_;refine AE ?_;refine AA ?_;refine AF ?_;refine AB ?_;refine BS ?_;refine AF ?_;refine AB ?_;refine CY ?_;refine BS ?_
  refine CE (EZ Eng.encI_len (a:=(subAll (pRoom l rest D s') rest ((pP l rest D s').take i)).getD (pP l rest D s')[i].k 0) (pP l rest D s')[i].k 0 ((subAll (pRoom l rest D s') rest ((pP l rest D s').take i)).getD (pP l rest D s')[i].k 0 - pRoom l rest D s') hO2 rfl (by omega) (by omega) (by rw [List.getD_eq_getElem?_getD,List.getElem?_eq_getElem (by omega)]; rfl) rfl rfl rfl rfl takeZ) rfl rfl ?_
  rintro _ _ ⟨rfl,ρ3,hO3,rfl⟩;refine AE ?_;refine A3 ?_;refine AA ?_;refine A8 ?_;refine AB ?_;refine AE ?_
  refine AY (i + 1,ρ3) ⟨by dsimp only; omega,?_⟩ (by dsimp only; omega) covZ selZ
  dsimp only
  rw [hsn];rw [List.length_set] at hO3 ⊢;exact hO3
 ·rw [List.take_of_length_le (by omega)] at hO2
  have hesl:=hAr.1
  have hnp:=pNext_pos g.ok g.sn g.ne hF hD hd0
  refine AC ?_;refine AA ?_;refine AZ ?_;refine AE ?_;refine AC ?_;refine AM rfl ?_;refine A7 rfl ?_;refine AA ?_;refine AB ?_;refine AB ?_;refine AB ?_;refine BO ?_;refine BI ?_; rintro _ _ ⟨b,rfl,rfl⟩
  refine BH (B5 (by_:=32) (s:=2) (news:=[.slice q2 (ksOf (pP l rest D s')).length c2,int (pRoom l rest D s')]) rfl rfl rfl rfl rfl rfl rfl hOo takeZ (cells_own memZ) rfl (by (repeat (first | exact (fun v hv=>absurd hv List.not_mem_nil) | (refine List.forall_mem_cons.2 ⟨?_,?_⟩; (focus (first | exact rfl | assumption))))); first | done | fail) (by omega) (by simp only [maxLen]; omega) (by omega)) rfl rfl rfl ?_
  rintro q9 _ ⟨ρ4,hQ4,rfl⟩;refine AD ?_;refine AE ?_;refine A3 ?_
  refine DR (ρ:=ρa) takeZ (σ:=ρp) takeZ (fun δ k1 k2=>?_)
  refine AY ((pNext l rest D s',ps ++ [(pP l rest D s',pRoom l rest D s')]),((q9,es ++ [(.slice q2 (ksOf (pP l rest D s')).length c2,pRoom l rest D s')]),((ρ4,δ),ρ2))) ⟨hN1,?_,hO2,?_,(hAr.sub k1).snoc rfl (k2.slE hIn),?_⟩ (by dsimp only; omega) covZ selZ
  ·intro ps2 r hR
   have:=hrun _ r (.step hD hd0 hR)
   dsimp only
   rw [List.append_assoc];exact this
  ·dsimp only
   rw [List.length_append,List.flatMap_append];exact hQ4
  ·dsimp only
   rw [List.length_append,List.length_singleton];omega
end Go.Proofs.YtphehihohghfoaaGreat
/- The reference's list of arcs with what is left on each. No program in sight. No conditions. -/
namespace Go.Flow
end Go.Flow
/- Paths of the reference; paths compared. -/
namespace Go.Proofs.YtphehihohghfoaaGreat
open Go.Eng Go.Flow
set_option maxRecDepth 100000
set_option maxHeartbeats 4000000

end Go.Proofs.YtphehihohghfoaaGreat
/- A range over a function whose iterator keeps numbers of its own. No conditions. -/
namespace Go.Eng
variable {C : Cx} {D : List Deferred} {R H T : List PH} {L : Env} {K : List It}
def IterW (P : Program) (gv : Value) (R1 HI : List PH) (xs : List (List Value)) : Prop :=
  ∀ (y : Value) (S : Type) (Own : S → List PH) (Inv : Nat → S → Prop) (Stop : S → Prop) (Ry : List PH),
    (∀ i σ vs, xs[i]? = some vs → Inv i σ → Spec P y vs Ry (Own σ) (fun v H' => ∃ σ', H' = Own σ' ∧ ((v = .bool true ∧ Inv (i + 1) σ') ∨ (v = .bool false ∧ Stop σ')))) →
    (∃ l, y = yv l) → ∀ σ, Inv 0 σ → Spec P gv [y] (R1 ++ Ry) (Own σ ++ HI) (fun _ H' => ∃ σ', H' = Own σ' ∧ (Inv xs.length σ' ∨ Stop σ'))
theorem FT {P : Program} {Q : Exit → Act → World → Prop} {N : Bs} {M : Nat} {g : Operand} {gf : FuncId} {cap : List Value} {ps : List Nat} {assign body : Code} {X : Type} {R1 HI Hr : List PH} {xs : List (List Value)} {fn : Func} {gc : Code}
    (hg : evalE L g = some (.func (.func gf) #[] cap.toArray)) (hgf : P.funcs[gf]? = some fn) (hgb : fn.body = some gc) (hname : (fn.name == "runtime.NumGoroutine") = false)
    (hit : IterW P (.func (.func gf) #[] cap.toArray) R1 HI xs) (hR1 : ∀ ρ ∈ R1, ρ ∈ R)
    (I : Nat → X → Prop) (Hx : X → List PH) (J : Code → X → Prop) (x0 : X) (hx0 : Hx x0 = T) (hT : Takes H (T ++ HI) Hr) (h0 : I 0 x0)
    (hround : ∀ l (r : Loop) i x vs, xs[i]? = some vs → I i x → r.params = ps.toArray → r.assign = assign → r.body = body → r.state = .ready → r.pending = none → Frm M L ⟨r.tmps, []⟩ →
      Spec P (yv l) vs R (sng l (.loop r) :: Hx x) (fun v H' => ∃ x', (v = .bool true ∧ I (i + 1) x' ∧ H' = sng l (.loop r) :: Hx x') ∨ (v = .bool false ∧ ∃ c, J c x' ∧ H' = sng l (.loop { r with state := .done, pending := some c }) :: Hx x')))
    (hdone : ∀ b x, I xs.length x → JK ⟨none, P, Q, N, M⟩ (mk b :: D) R (sng b defO :: (Hx x ++ Hr)) L K)
    (hjump : ∀ b c x, J c x → JK ⟨none, P, Q, N, M⟩ (mk b :: D) R (sng b defO :: (Hx x ++ Hr)) L (.code c :: K)) :
    JK ⟨none, P, Q, N, M⟩ D R H L (.code (.rangeFunc g ps.toArray assign body) :: K) := by
  subst hx0
  refine ⟨fun a w hf hd hs => wpIn_rangeFunc (fun fnn _ => ?_)⟩
  let r : Loop := { state := .ready, pending := none, fn := fnn, tmps := a.tmps, params := ps.toArray, assign, body, defers := w.heap.size }
  let w1 : World := (w.alloc defO).alloc (.loop r)
  have hs2 := hT.sat hs
  have hs3 := (hs2.alloc defO).alloc (.loop r)
  have hl : (w.alloc defO).heap.size = w.heap.size + 1 := by simp
  rw [hl] at hs3
  refine ⟨w.heap.size + 1, [mk w.heap.size], w1, ⟨.fn (.func gf) cap.toArray, #[yv (w.heap.size + 1)]⟩, w1, gf, ([yv (w.heap.size + 1)] ++ cap).toArray, w1, ?_, ?_, fun _ _ => trivial, ?_, fun h => by simp [Fence.wide] at h, ?_⟩
  · simp [Instr.enterLoop, w1, r]
  · have hgv' : a.eval g = .func (.func gf) #[] cap.toArray := hf.on g _ hg
    have hc : a.eval (.const (yv (w.heap.size + 1))) = yv (w.heap.size + 1) := rfl
    simp [resolve, Deferred.ofValue, hgv', hc]
  · have hname' : ¬ fn.name = "runtime.NumGoroutine" := by simpa using hname
    simp [invoke, callFunc, program, Sem.run, bind, Sem.bind, pure, hgf, hgb, hname']
  · let Own : X × Option Code → List PH := fun σ => match σ.2 with
      | none => sng (w.heap.size + 1) (.loop r) :: Hx σ.1
      | some c => sng (w.heap.size + 1) (.loop { r with state := .done, pending := some c }) :: Hx σ.1
    have hspec := hit (yv (w.heap.size + 1)) (X × Option Code) Own (fun i σ => σ.2 = none ∧ I i σ.1) (fun σ => ∃ c, σ.2 = some c ∧ J c σ.1) R
      (fun i σ vs hvs ⟨h1, h2⟩ => by
        obtain ⟨x, o⟩ := σ
        simp only at h1 h2;subst h1;refine (hround (w.heap.size + 1) r i x vs hvs h2 rfl rfl rfl rfl rfl ⟨hf.size, hf.get⟩).mono ?_;rintro v H' ⟨x', ⟨e1, e2, e3⟩ | ⟨e1, c, e2, e3⟩⟩
        · exact ⟨(x', none), e3, .inl ⟨e1, rfl, e2⟩⟩
        · exact ⟨(x', some c), e3, .inr ⟨e1, c, rfl, e2⟩⟩)
      ⟨_, rfl⟩ (x0, none) ⟨rfl, h0⟩
    have hs4 : Sat N R ((Own (x0, none) ++ HI) ++ (sng w.heap.size defO :: Hr)) w1 := hs3.perm (by
      simp only [Own, List.cons_append]
      exact (List.perm_middle.symm).cons _)
    have hs5 : Sat N (R1 ++ R) (Own (x0, none) ++ HI) w1 := (hs4.rsub (R' := R1 ++ R) (fun ρ hρ => by
      rcases List.mem_append.1 hρ with h | h
      · exact hR1 ρ h
      · exact h)).left
    have hc := hspec N w1 hs5
    unfold CallsV at hc
    have hname' : ¬ fn.name = "runtime.NumGoroutine" := by simpa using hname
    have hrun : ((do let d ← Deferred.ofValue (.func (.func gf) #[] cap.toArray) [yv (w.heap.size + 1)].toArray; invoke d.target d.args : Sem Next).run P w1) = .ok (.enter gf ([yv (w.heap.size + 1)] ++ cap).toArray) w1 := by
      simp [Deferred.ofValue, invoke, callFunc, program, Sem.run, bind, Sem.bind, pure, hgf, hgb, hname']
    rw [hrun] at hc;simp only at hc
    refine CallsIn.mono (show CallsIn (wideR none) 0 P gf _ w1 _ from hc) ?_
    rintro e w3 ⟨v, rfl, H', ⟨⟨x, o⟩, rfl, hfin⟩, hu⟩
    have hs6 := hs4.upd hu
    have hfin' : ∃ r', r'.state ≠ .busy ∧ Own (x, o) = sng (w.heap.size + 1) (.loop r') :: Hx x ∧ ((r'.pending = none ∧ I xs.length x) ∨ ∃ c, r'.pending = some c ∧ J c x) := by
      rcases hfin with ⟨h1, h2⟩ | ⟨c, h1, h2⟩
      · simp only at h1 h2; subst h1; exact ⟨r, by simp [r], rfl, .inl ⟨rfl, h2⟩⟩
      · simp only at h1 h2; subst h1; exact ⟨{ r with state := .done, pending := some c }, by simp, rfl, .inr ⟨c, rfl, h2⟩⟩
    obtain ⟨r', hb, ho, hfin'⟩ := hfin'
    rw [ho] at hs6;simp only [List.cons_append] at hs6
    have hown := hs6.own Take.here
    have hend : (Instr.endLoop (w.heap.size + 1)).run P w3 = .ok r'.pending { w3 with heap := w3.heap.setIfInBounds (w.heap.size + 1) (.loop { r' with state := .exhausted }) } := by
      simp [Instr.endLoop, run_getLoop hown, run_setLoop hown, hb]
    refine ⟨r'.pending, _, hend, ?_⟩
    have hs7 : Sat N R (sng w.heap.size defO :: (Hx x ++ Hr)) { w3 with heap := w3.heap.setIfInBounds (w.heap.size + 1) (.loop { r' with state := .exhausted }) } :=
      ((hs6.turnAny (o' := .loop { r' with state := .exhausted }) Take.here).tail).perm List.perm_middle
    have hfr : Frm M L { a with defers := [mk w.heap.size] ++ a.defers } := ⟨hf.size, hf.get⟩
    have hdf : ({ a with defers := [mk w.heap.size] ++ a.defers } : Act).defers = mk w.heap.size :: D := by simp [hd]
    rcases hfin' with ⟨hp, hI⟩ | ⟨c, hp, hJ⟩
    · rw [hp] at hs7 ⊢
      exact (hdone w.heap.size x hI).run _ _ hfr hdf hs7
    · rw [hp] at hs7 ⊢
      exact (hjump w.heap.size c x hJ).run _ _ hfr hdf hs7

theorem yield_specE {P : Program} {l M : Nat} {r : Loop} {ps : List Nat} {vs : List Value} {L' : Env} {post : Value → List PH → Prop} {A B : Code} (ha : r.assign = A) (hb : r.body = B) (hf : Frm M L ⟨r.tmps, []⟩) (hps : r.params = ps.toArray) (hpl : ∀ p ∈ ps, p < M) (hL : PutI ps vs L L')
    (h : ∀ N β, JK ⟨some l, P, fun _ _ _ => False, N, M⟩ [] (β :: R) (sng l (.loop r) :: H) L' [.code A, .till (wpK ⟨some l, P, RQ P l N (β :: R) post, N, M⟩ [.sem (Instr.beginRound l), .code B] .normal)]) :
    Spec P (yv l) vs R (sng l (.loop r) :: H) post := by
  subst ha hb;exact yield_spec hf hps hpl hL h
end Go.Eng
namespace Go.Flow
theorem needed_get : ∀ (ps : List (List Lk × Int)) (v : Int) (k : Nat), (∀ j, j < k → restV (ps.take j) v ≠ 0) → ∀ p, ps[k]? = some p → restV (ps.take k) v ≠ 0 → (neededL ps v)[k]? = some (p.1, min p.2 (restV (ps.take k) v))
  | [], _, _, _, p, hp, _ => by simp at hp
  | q :: ps, v, 0, _, p, hp, h => by
    simp only [List.getElem?_cons_zero, Option.some.injEq] at hp;subst hp;simp only [List.take_zero, restV] at h ⊢;unfold neededL;rw [if_neg h]
    rfl
  | q :: ps, v, k + 1, hj, p, hp, h => by
    have h0 := hj 0 (by omega)
    simp only [List.take_zero, restV] at h0;simp only [List.getElem?_cons_succ] at hp;simp only [List.take_succ_cons, restV] at h ⊢;unfold neededL;rw [if_neg h0, List.getElem?_cons_succ, Int.min_comm q.2 v]
    exact needed_get ps _ k (fun j hk => by
      have := hj (j + 1) (by omega)
      simpa only [List.take_succ_cons, restV] using this) p hp h
theorem needed_stop : ∀ (ps : List (List Lk × Int)) (v : Int) (k : Nat), (∀ j, j < k → restV (ps.take j) v ≠ 0) → k ≤ ps.length → (k = ps.length ∨ restV (ps.take k) v = 0) → (neededL ps v).length = k
  | [], _, k, _, hk, _ => by simp at hk; subst hk; rfl
  | q :: ps, v, 0, _, _, h => by
    rcases h with h | h
    · simp at h
    · simp only [List.take_zero, restV] at h
      unfold neededL;rw [if_pos h]
      rfl
  | q :: ps, v, k + 1, hj, hk, h => by
    have h0 := hj 0 (by omega)
    simp only [List.take_zero, restV] at h0;unfold neededL
    rw [if_neg h0, List.length_cons, Int.min_comm q.2 v, needed_stop ps _ k (fun j hk => by
      have := hj (j + 1) (by omega)
      simpa only [List.take_succ_cons, restV] using this) (by simpa using hk) (by simpa [List.take_succ_cons, restV] using h)]
end Go.Flow
/- The paths that are needed. -/
namespace Go.Proofs.YtphehihohghfoaaGreat
open Go.Eng Go.Step Go.Flow
set_option maxRecDepth 100000
set_option maxHeartbeats 4000000

theorem pathsV {τ:PH} {es:List (Value × Int)} {ps:PathL} (h:ArcsIn τ es ps) {i:Nat} {e:Value × Int} (he:es[i]? = some e):∃ (q:List Go.Flow.Lk × Int) (a:Option Addr) (c:Nat),ps[i]? = some q ∧ e.2 = q.2 ∧ e.1 = .slice a q.1.length c ∧ IntsAt τ (.slice a (ksOf q.1).length c) (ksOf q.1):=by
 have hi:=(List.getElem?_eq_some_iff.1 he).1
 have hil:i < ps.length:=by rw [← h.1]; exact hi
 have hq:=List.getElem?_eq_getElem hil
 obtain ⟨h1,h2⟩:=h.2 i e _ he hq
 generalize ps[i] = q at hq h1 h2
 obtain ⟨a,c,e1,_⟩:=h2.val Eng.encI_len
 have hl:(ksOf q.1).length = q.1.length:=by unfold ksOf; rw [List.length_map]
 exact ⟨_,a,c,hq,h1,by rw [e1,hl],by rw [← e1]; exact h2⟩
set_option maxHeartbeats 32000000 in
theorem needed_iter (τ:PH) (p:Option Addr) (kk:Nat) (es:List (Value × Int)) (ps:PathL) (hes:SlE encPV 2 τ (.slice p es.length kk) es) (hai:ArcsIn τ es ps) (b1 b2:Nat) (v:Int) (hv:0 ≤ v ∧ v ≤ 1099511627776) (hps:∀ q ∈ ps,0 ≤ q.2) (hl:ps.length ≤ 20000) :
  IterW Tryz.prog (.func (.func 71) #[] #[.pointer (some ⟨b1,0,none⟩),.pointer (some ⟨b2,0,none⟩)]) [sng b1 (.cells #[.slice p es.length kk] 78 (0,0)),τ] [sng b2 (.cells #[int v] 3 (0,0))] (List.zipWith (fun e q=>[e.1,int q.2]) es (neededL ps v)):=by
 intro y S Own Inv Stop Ry hy hyl σ0 hI0
 obtain ⟨yl,rfl⟩:=hyl
 have c1:rdc (sng b1 (.cells #[.slice p es.length kk] 78 (0,0))) b1 0 = some (.slice p es.length kk):=by rw [rdc_sng]; rfl
 have hr:=rowN encPV_len hes
 have hel:=hai.1
 have hxl:∀ k,(neededL ps v).length = k → k ≤ ps.length → (List.zipWith (fun (e:Value × Int) (q:List Go.Flow.Lk × Int)=>[e.1,int q.2]) es (neededL ps v)).length = k:=fun k h1 h2=>by
  rw [List.length_zipWith,h1];omega
 simp only [List.cons_append,List.nil_append]
 refine spec_in (cap:=[.pointer (some ⟨b1,0,none⟩),.pointer (some ⟨b2,0,none⟩)]) Tryz.func71 rfl rfl Tryz.ntmps71 rfl envZ (fun N β=>?_)
 refine CH (H':=sng b2 (.cells #[int v] 3 (0,0)) :: Own σ0) (List.perm_append_comm (l₂:=[_])) ?_;refine AC ?_;refine AA ?_;refine AF ?_;refine AW ?_;refine AB ?_;refine AE ?_;refine AP ?_
 refine BA [0,1,2,7,8] (X:=Nat × S) (0,σ0) (fun z=>z.1 ≤ ps.length ∧ (∀ j,j < z.1 → restV (ps.take j) v ≠ 0) ∧ Inv z.1 z.2) (fun z=>[(9,int z.1)]) (fun z=>sng b2 (.cells #[int (restV (ps.take z.1) v)] 3 (0,0)) :: Own z.2) (fun z=>ps.length - z.1) pickZ ⟨by dsimp only; omega,fun j hj=>by dsimp only at hj; omega,hI0⟩ covZ Sel.refl ?_
 rintro ⟨k,σ'⟩ ⟨hk,hlf,hI⟩
 dsimp only at hk hlf hI ⊢
 by_cases hlt:k < ps.length
 rotate_left
 ·have hke:k = ps.length:=by omega
  have hx:=hxl k (needed_stop ps v k hlf hk (.inl hke)) hk
  refine AC ?_;refine AA ?_;refine AZ ?_;refine AE ?_;refine AC ?_;refine AM rfl ?_;refine A7 rfl ?_
  exact B8 (res0 rfl) (fun _ h=>h) (Sel.skip Sel.refl) ⟨σ',rfl,.inl (by rw [hx]; exact hI)⟩
 have hx:=List.getElem?_eq_getElem (show k < es.length by omega)
 obtain ⟨q,a,c,hq,e2,e1,_⟩:=pathsV hai hx
 have hqm:=hps q (List.mem_of_getElem? hq)
 have hlb:=restV_bd (ps.take k) v hv.1 (fun r hr=>hps r (List.mem_of_mem_take hr))
 have hnext:restV (ps.take (k + 1)) v = restV (ps.take k) v - min q.2 (restV (ps.take k) v):=by
  obtain ⟨h1,h2⟩:=List.getElem?_eq_some_iff.1 hq
  rw [List.take_succ_eq_append_getElem h1,h2,restV_snoc,Int.min_comm]
 have hstop:=fun h0=>hxl k (needed_stop ps v k hlf hk (.inr h0)) hk
 have hget:=needed_get ps v k hlf q hq
 obtain ⟨b6,o6,ep,hrd⟩:=hr k _ hx
 rw [show encPV es[k] = [.slice a q.1.length c,int q.2] by unfold encPV; rw [e1,e2]] at hrd
 have hyk:=fun h0=>hy k σ' [.slice a q.1.length c,int (min q.2 (restV (ps.take k) v))] (by rw [List.getElem?_zipWith,hx,hget h0,← e1]) hI
 have hlf2:restV (ps.take k) v ≠ 0 → ∀ j,j < k + 1 → restV (ps.take j) v ≠ 0:=fun h0 j hj=>by
  by_cases hjk:j < k
  ·exact hlf j hjk
  ·have:j = k:=by omega
   subst this;exact h0
 generalize restV (ps.take k) v = L0 at hlb hnext hstop hget hyk hlf2
 subst ep
 by_cases h0:L0 = 0
 ·have hx2:=hstop h0
  refine AC ?_;refine AA ?_;refine BC ?_;refine AE ?_;refine AC ?_;refine AN rfl ?_;refine AK ?_;refine AC ?_;refine AP ?_;refine AC ?_;refine AA ?_;refine BB ?_;refine AT ?_;refine AX ?_; rintro _ _ ⟨b,rfl,rfl⟩;refine AV ?_; rintro _ _ ⟨rfl,rfl⟩;refine AE ?_;refine AC ?_;refine AC ?_;refine AA ?_;refine AF ?_;refine CI ?_;refine AE ?_;refine AN rfl ?_
  exact AI (res0 rfl) (fun _ h=>h) (Sel.skip (Sel.skip Sel.refl)) ⟨σ',rfl,.inl (by rw [hx2]; exact hI)⟩
 refine AC ?_;refine AA ?_;refine BC ?_;refine AE ?_;refine AC ?_;refine AN rfl ?_;refine AK ?_;refine AC ?_;refine AP ?_;refine AC ?_;refine AA ?_;refine BB ?_;refine AT ?_;refine AX ?_; rintro _ _ ⟨b,rfl,rfl⟩;refine AV ?_; rintro _ _ ⟨rfl,rfl⟩;refine AE ?_;refine AC ?_;refine AC ?_;refine AA ?_;refine AF ?_;refine B4 ?_;refine AE ?_;refine AM rfl ?_;refine AK ?_;refine AC ?_;refine AA ?_;refine AG ?_;refine AF ?_;refine AF ?_;refine FP ?_;refine AD ?_;refine AE ?_;refine AC ?_;refine AA ?_;refine AF ?_;refine AB ?_;refine CY ?_;refine BD ?_; rintro _ _ ⟨rfl,rfl⟩;refine AE ?_;refine AC ?_;refine AA ?_;refine AB ?_;refine AG ?_;refine AF ?_;refine AB ?_
 refine BE (hyk h0) rfl rfl (Takes.skip (Takes.skip Takes.all)) (fun τ hτ=>.inl (by simp [hτ])) rfl rfl ?_
 rintro _ H' ⟨σ3,rfl,⟨rfl,hI3⟩ | ⟨rfl,hSt⟩⟩
 ·refine CH (H':=_ :: _ :: Own σ3) (List.perm_append_comm (l₂:=[_,_])) ?_
  refine A9 ?_;refine AE ?_;refine AM rfl ?_;refine AK ?_;refine A3 ?_;refine AA ?_;refine A8 ?_;refine AB ?_;refine AE ?_
  refine AY (k + 1,σ3) ⟨by dsimp only; omega,hlf2 h0,hI3⟩ (by dsimp only; omega) covZ ?_
  dsimp only
  rw [hnext]
  first | exact Sel.cons .here (Sel.skip Sel.refl) | exact Sel.skip Sel.refl | exact Sel.cons (.there .here) Sel.refl
 ·refine A9 ?_
  refine AE ?_;refine AN rfl ?_
  exact AI (res0 rfl) (fun _ h=>h) Sel.left ⟨σ3,rfl,.inr hSt⟩
theorem needed_spec (p:Option Addr) (n kk:Nat) (v:Int) :
  Eng.Spec Tryz.prog (fv 33) [.slice p n kk,int v] [] [] (fun r H'=>∃ b1 b2,r = .func (.func 71) #[] #[.pointer (some ⟨b1,0,none⟩),.pointer (some ⟨b2,0,none⟩)] ∧ H' = [sng b1 (.cells #[.slice p n kk] 78 (0,0)),sng b2 (.cells #[int v] 3 (0,0))]):=by
 refine spec_in (cap:=[]) Tryz.func33 rfl rfl Tryz.ntmps33 rfl envZ (fun N β=>?_)
 refine AC ?_;refine AA ?_;refine EB ?_; rintro _ _ ⟨b,rfl,rfl⟩;refine EB ?_; rintro _ _ ⟨b,rfl,rfl⟩;refine AD ?_;refine AE ?_;refine AC ?_;refine AA ?_;refine BW ?_;refine AD ?_;refine AE ?_;exact AI (res1 rfl rfl) rsubZ selZ ⟨_,_,rfl,rfl⟩
theorem flat_encI:∀ l:List Int,l.flatMap Eng.encI = l.map int
 | []=>rfl
 | a :: l=>by rw [List.flatMap_cons,flat_encI l]; rfl
theorem ints_at {b:Nat} {t:TypeId} {fr:Nat × Nat} {c:Nat} (l:List Int):IntsAt (sng b (.cells (ints l) t fr)) (.slice (some ⟨b,0,none⟩) l.length c) l:=by
 have:=slE_sng (enc:=Eng.encI) (s:=1) Eng.encI_len (b:=b) (l:=l) (t:=t) (fr:=fr) (c:=c)
 rwa [show elems Eng.encI l = ints l by unfold elems ints; rw [flat_encI]] at this
def AnsAt (σ1 σ2 σ3:PH) (r:Value) (acc:Bool) (vol:Int) (ss:List Sh) (c:Cu):Prop:=
 ∃ (p1:Option Addr) (k1:Nat) (L:List Sq) (p2:Option Addr) (k2:Nat),r = .agg #[.bool acc,int vol,.slice p1 ss.length k1,.slice p2 L.length k2] ∧ ShAt σ1 (.slice p1 ss.length k1) ss ∧ CutL σ2 σ3 (.slice p2 L.length k2) L ∧ cuL L = c
theorem nilCut:CutL emp emp (.slice none 0 0) []:=⟨⟨rfl,.inl ⟨rfl,none,0,rfl⟩⟩,by simp⟩
theorem nilSh:ShAt emp (.slice none 0 0) []:=⟨rfl,.inl ⟨rfl,none,0,rfl⟩⟩
set_option maxHeartbeats 64000000 in
theorem Plan_spec {ρ τ σ υ:PH} {pq pc pb ph:Option Addr} {kq kc kb kh:Nat} {qs:List Int} {cs:List Ct} {bs:List Bk} {hs:List Hd} (hT:TbAt ρ τ σ υ pq pc pb ph kq kc kb kh qs cs bs hs) (d:Dm):Eng.Spec Tryz.prog (fv 11) [.agg #[.slice pq qs.length kq,.slice pc cs.length kc,.slice pb bs.length kb,.slice ph hs.length kh],.agg #[int d.s,int d.d,int d.v,int d.r,int d.e]] [ρ,τ,σ,υ] [] (fun r H'=>(validT qs cs bs hs d = true ∧ ∃ (acc:Bool) (vol:Int) (ss:List Sh) (c:Cu) (a:Value) (σ1 σ2 σ3:PH),r = .tuple #[a,int 0] ∧ H' = [σ1,σ2,σ3] ∧ PlanOK qs cs bs hs d acc vol ss c ∧ AnsAt σ1 σ2 σ3 a acc vol ss c) ∨ (validT qs cs bs hs d = false ∧ H' = [] ∧ r = .tuple #[.agg #[.bool false,int 0,.slice none 0 0,.slice none 0 0],int 1])):=by
 refine spec_in (cap:=[]) Tryz.func11 rfl rfl Tryz.ntmps11 rfl envZ (fun N β=>?_)
 refine AC ?_;refine AA ?_;refine BH (BK rfl) rfl rfl rfl ?_;rintro _ _ ⟨b1,rfl,rfl⟩;refine AR (ρ:=sng b1 _) takeZ ?_
 have ct:RdN (sng b1 (.cells #[.slice pq qs.length kq,.slice pc cs.length kc,.slice pb bs.length kb,.slice ph hs.length kh] 29 (0,0))) b1 0 [.slice pq qs.length kq,.slice pc cs.length kc,.slice pb bs.length kb,.slice ph hs.length kh]:=rdN_sng (vs:=[.slice pq qs.length kq,.slice pc cs.length kc,.slice pb bs.length kb,.slice ph hs.length kh])
 have ct0:rdc (sng b1 (.cells #[.slice pq qs.length kq,.slice pc cs.length kc,.slice pb bs.length kb,.slice ph hs.length kh] 29 (0,0))) b1 0 = some (.slice pq qs.length kq):=by rw [rdc_sng]; rfl
 have ct1:rdc (sng b1 (.cells #[.slice pq qs.length kq,.slice pc cs.length kc,.slice pb bs.length kb,.slice ph hs.length kh] 29 (0,0))) b1 1 = some (.slice pc cs.length kc):=by rw [rdc_sng]; rfl
 have ct2:rdc (sng b1 (.cells #[.slice pq qs.length kq,.slice pc cs.length kc,.slice pb bs.length kb,.slice ph hs.length kh] 29 (0,0))) b1 2 = some (.slice pb bs.length kb):=by rw [rdc_sng]; rfl
 have ct3:rdc (sng b1 (.cells #[.slice pq qs.length kq,.slice pc cs.length kc,.slice pb bs.length kb,.slice ph hs.length kh] 29 (0,0))) b1 3 = some (.slice ph hs.length kh):=by rw [rdc_sng]; rfl
 have ctp:RdP (sng b1 (.cells #[.slice pq qs.length kq,.slice pc cs.length kc,.slice pb bs.length kb,.slice ph hs.length kh] 29 (0,0))) b1 0 [.slice pq qs.length kq,.slice pc cs.length kc]:=rdP_sng (xs:=[.slice pq qs.length kq,.slice pc cs.length kc,.slice pb bs.length kb,.slice ph hs.length kh]) rfl
 refine BH (BK rfl) rfl rfl rfl ?_;rintro _ _ ⟨b2,rfl,rfl⟩;refine AR (ρ:=sng b2 _) takeZ ?_
 have cd:RdN (sng b2 (.cells #[int d.s,int d.d,int d.v,int d.r,int d.e] 31 (0,0))) b2 0 [int d.s,int d.d,int d.v,int d.r,int d.e]:=rdN_sng (vs:=[int d.s,int d.d,int d.v,int d.r,int d.e])
 have cd0:rdc (sng b2 (.cells #[int d.s,int d.d,int d.v,int d.r,int d.e] 31 (0,0))) b2 0 = some (int d.s):=by rw [rdc_sng]; rfl
 have cd1:rdc (sng b2 (.cells #[int d.s,int d.d,int d.v,int d.r,int d.e] 31 (0,0))) b2 1 = some (int d.d):=by rw [rdc_sng]; rfl
 have cd2:rdc (sng b2 (.cells #[int d.s,int d.d,int d.v,int d.r,int d.e] 31 (0,0))) b2 2 = some (int d.v):=by rw [rdc_sng]; rfl
 have cd3:rdc (sng b2 (.cells #[int d.s,int d.d,int d.v,int d.r,int d.e] 31 (0,0))) b2 3 = some (int d.r):=by rw [rdc_sng]; rfl
 have cd4:rdc (sng b2 (.cells #[int d.s,int d.d,int d.v,int d.r,int d.e] 31 (0,0))) b2 4 = some (int d.e):=by rw [rdc_sng]; rfl
 refine BX ?_;refine BX ?_;refine BX ?_;refine AX ?_; rintro _ _ ⟨b,rfl,rfl⟩;refine AD ?_;refine AE ?_;refine AC ?_;refine AA ?_;refine AT ?_;refine AT ?_
 revert b; intro b4
 refine BE (plMax_spec hT d) rfl rfl Takes.nil rdZ rfl rfl ?_;rintro _ H' (⟨hv,pg,kg,pf,kf,F,m,σg,σf,hAt,hF,hm,rfl,rfl⟩ | ⟨hv,rfl,rfl⟩)
 rotate_left
 ·refine AB ?_
  refine AO ?_;refine AO ?_;refine AO ?_;refine AO ?_;refine AX ?_; rintro _ _ ⟨b,rfl,rfl⟩;refine AV ?_; rintro _ _ ⟨rfl,rfl⟩;refine AD ?_;refine AD ?_;refine AD ?_;refine AE ?_;refine AC ?_;refine AC ?_;refine AA ?_;refine AB ?_;refine CF ?_;refine AE ?_;refine AN rfl ?_;refine AC ?_;refine AA ?_;refine BO ?_;refine AB ?_;refine AV ?_; rintro _ _ ⟨rfl,rfl⟩;refine AD ?_;refine AE ?_;exact AI (resSE (b1:=b4) (T:=41) (v1:=[.bool false,int 0,.slice none 0 0,.slice none 0 0]) rfl rfl rfl rfl rfl (cells_own memZ)) rsubZ selZ (.inr ⟨hv,rfl,rfl⟩)
 have h:=vok hv
 have hEl:=ea_len qs cs bs hs d h
 have hAl:(arcsG qs cs bs hs d).length = (arcsE qs cs bs hs d).length:=by unfold arcsG; rw [List.length_map]
 refine AR (ρ:=σg) takeZ ?_;refine AR (ρ:=σf) takeZ ?_;refine AB ?_;refine AO ?_;refine AO ?_;refine AO ?_;refine AO ?_;refine AX ?_; rintro _ _ ⟨b,rfl,rfl⟩;refine AV ?_; rintro _ _ ⟨rfl,rfl⟩;refine AD ?_;refine AD ?_;refine AD ?_;refine AE ?_;refine AC ?_;refine AC ?_;refine AA ?_;refine AB ?_;refine BF ?_;refine AE ?_;refine AM rfl ?_;refine AK ?_;refine AC ?_;refine AC ?_;refine AA ?_;refine AG ?_;refine AF ?_;refine AB ?_
 revert b; intro bg
 by_cases hd:m < d.v
 ·have hK:=flowCut_spec σg (.slice pg (arcsG qs cs bs hs d).length kg) (vsN qs d) (vtx d d.s d.r) (vtx d d.d d.e) (arcsG qs cs bs hs d) hAt (by omega)
  refine CL ?_;refine AE ?_;refine AN rfl ?_;refine AC ?_;refine AA ?_;refine AG ?_;refine AF ?_;refine AG ?_;refine AF ?_;refine AG ?_;refine AF ?_;refine AG ?_;refine AF ?_;refine BZ hK rfl rfl rdZ rfl rfl ?_;rintro _ σk ⟨fs,side,c0,e0,rfl,hI,hk⟩
  obtain ⟨pk,kk2,rfl,_⟩:=hI.val Eng.encI_len
  have hkN:CutN qs cs bs hs d side c0 e0:=hk
  obtain ⟨k1,k2,k3,k4,k5,k6⟩:=cut_facts h hv hm hkN
  subst k1 k2;refine AR (ρ:=σk) takeZ ?_
  have hD:=Sides_spec hT d σk _ side hI (by omega)
  rw [k3,if_pos rfl] at hD;refine AB ?_;refine AO ?_;refine AO ?_;refine AO ?_;refine AD ?_;refine AD ?_;refine AD ?_;refine AE ?_;refine AC ?_;refine AC ?_;refine AA ?_;refine AB ?_;refine BF ?_;refine AE ?_;refine AM rfl ?_;refine AK ?_;refine AC ?_;refine AA ?_;refine AT ?_;refine AT ?_;refine AB ?_;refine BE hD rfl rfl Takes.nil rdZ rfl rfl ?_;rintro _ _ ⟨L,w,σ3,χ3,rfl,rfl,hL,hCL⟩
  obtain ⟨p2,k2,rfl,_⟩:=hCL.1.val encQ_len
  refine AB ?_;refine AO ?_;refine AO ?_;refine AD ?_;refine AD ?_;refine AE ?_;refine AC ?_;refine AA ?_;refine AB ?_;refine AB ?_;refine BO ?_;refine AB ?_;refine AV ?_; rintro _ _ ⟨rfl,rfl⟩;refine AD ?_;refine AE ?_;exact AI (resSE (b1:=b4) (T:=41) (v1:=[.bool false,int c0,.slice none 0 0,.slice p2 L.length k2]) rfl rfl rfl rfl rfl (cells_own memZ)) rsubZ selZ (.inl ⟨hv,false,c0,[],sidesC d qs.length side,_,emp,σ3,χ3,rfl,rfl,⟨F,c0,hm,.inl ⟨hd,rfl,rfl,rfl,side,c0,hkN,rfl⟩⟩,⟨none,0,L,p2,k2,rfl,nilSh,hCL,hL⟩⟩)
 have hP:=flowPaths_spec σg σf (.slice pg (arcsG qs cs bs hs d).length kg) (.slice pf F.length kf) (vsN qs d) (vtx d d.s d.r) (vtx d d.d d.e) (arcsG qs cs bs hs d) F hAt hF (by omega)
 refine BU ?_;refine AE ?_;refine AM rfl ?_;refine AK ?_;refine AC ?_;refine AA ?_;refine AG ?_;refine AF ?_;refine AG ?_;refine AF ?_;refine AB ?_;refine AG ?_;refine AF ?_;refine AG ?_;refine AF ?_;refine BZ hP rfl rfl rdZ rfl rfl ?_;rintro _ τp ⟨w,ps,e,rfl,hPA,hPO⟩
 have hPN:PathN qs cs bs hs d F ps e:=hPO
 obtain ⟨he,_⟩:=path_run h hv hm hPN
 subst he
 obtain ⟨_,N0,S0,T0,hN,hS,hT0,s1,s2,s3,hok,hfw,hmv,rr,hrun⟩:=path_run h hv hm hPN
 have hdm:=h.dm
 unfold okDm at hdm
 have hps0:∀ q ∈ ps,0 ≤ q.2:=fun q hq=>Int.le_of_lt (hrun.pos hok s1 s3 hfw q hq)
 have hsm:=paths_small hPO
 obtain ⟨_,_,_,_,_,_,_,_,hse⟩:=part_ok h hv hm hPN (show d.v ≤ m by omega)
 have hmid:=fun (j i:Nat) (q:List Go.Flow.Lk × Int) (hq:(quotaL ps d.v)[j]? = some q)=>part_mid (i:=i) hok s1 s3 hrun hfw (v:=d.v) (by omega) hq
 have harc:=run_arcs hok s1 s3 hrun hfw
 have hcapb:∀ a ∈ arcsG qs cs bs hs d,a.c ≤ 1099511627776:=fun a ha=>(okArc_iff.1 (hok a ha)).2.2.2.2.2.2
 obtain ⟨es,hes,hai⟩:=hPA
 obtain ⟨pp,kp,rfl,_⟩:=hes.val encPV_len
 refine AR (ρ:=τp) takeZ ?_
 have hlZ:(List.replicate (arcsG qs cs bs hs d).length (0:Int)).length = (arcsG qs cs bs hs d).length:=List.length_replicate
 have hfin:addMany (neededL ps d.v) (List.replicate (arcsG qs cs bs hs d).length 0) = partF qs cs bs hs d ps:=needed_sum ps d.v _ hps0
 refine AB ?_;refine AO ?_;refine AO ?_;refine AD ?_;refine AD ?_;refine AE ?_;refine AC ?_;refine AC ?_;refine AA ?_;refine AB ?_;refine BF ?_;refine AE ?_;refine AM rfl ?_;refine AK ?_;refine AC ?_;refine AA ?_;refine AG ?_;refine AF ?_;refine AW ?_;refine DO ?_; rintro _ _ ⟨b,rfl,rfl⟩;refine BR ?_; rintro _ _ ⟨b,rfl,rfl⟩;refine BD ?_; rintro _ _ ⟨rfl,rfl⟩;refine AE ?_;refine AC ?_;refine AC ?_;refine AA ?_;refine AB ?_;refine AG ?_;refine AF ?_
 revert b; intro bp
 revert b; intro bz
 refine AR (ρ:=sng bp _) takeZ ?_
 have bpf:rdc (sng bp (.cells #[.slice (some ⟨bz,0,none⟩) (arcsG qs cs bs hs d).length (arcsG qs cs bs hs d).length] 22 (0,0))) bp 0 = some (.slice (some ⟨bz,0,none⟩) (arcsG qs cs bs hs d).length (arcsG qs cs bs hs d).length):=by rw [rdc_sng]; rfl
 refine BE (needed_spec pp es.length kp d.v) rfl rfl Takes.nil (fun τ hτ=>by simp at hτ) rfl rfl ?_
 rintro _ _ ⟨b5,b6,rfl,rfl⟩;refine AR (ρ:=sng b5 _) takeZ ?_;refine AE ?_;refine AP ?_
 refine FT (gf:=71) (cap:=[.pointer (some ⟨b5,0,none⟩),.pointer (some ⟨b6,0,none⟩)]) (ps:=[90,91]) (X:=List Int) rfl Tryz.func71 rfl rfl
  (needed_iter τp pp kp es ps hes hai b5 b6 d.v (by omega) hps0 hsm.1) ?_
  (fun i x=>x = addMany ((neededL ps d.v).take i) (List.replicate (arcsG qs cs bs hs d).length 0))
  (fun x=>[sng bz (.cells (ints x) 3 (0,0))]) (fun _ _=>False) (List.replicate (arcsG qs cs bs hs d).length 0) rfl takesZ rfl ?_ ?_ ?_
 ·intro σ' hσ
  simp only [List.mem_cons,List.not_mem_nil,or_false] at hσ ⊢
  rcases hσ with h | h <;> simp [h]
 ·rintro lo r i x vs hvs hx hps has hbd hst hpe hfr
  obtain ⟨st,pe,fnn,tm,prm,asg,bdy,df⟩:=r
  simp only at hps has hbd hst hpe hfr;subst hps hst hpe;rw [List.getElem?_zipWith] at hvs
  cases he:es[i]? with
  | none=>simp [he] at hvs
  | some e =>
  cases hq:(neededL ps d.v)[i]? with
  | none=>simp [he,hq] at hvs
  | some q =>
  simp only [he,hq,Option.some.injEq] at hvs;subst hvs
  obtain ⟨n1,n2,n3,p0,n4,n5⟩:=needed_at hq
  obtain ⟨q',a,c,hq',e2,e1,hIa⟩:=pathsV hai he
  rw [n4] at hq'
  obtain rfl:=Option.some.inj hq'
  rw [← n5] at e1 hIa
  have hmid2:=fun j=>hmid i j q n3
  have hark:=fun x hx=>harc p0 (List.mem_of_getElem? n4) x (by rw [← n5]; exact hx)
  subst hx;rw [n1,n2,e1];simp only [addMany_snoc]
  generalize addMany ((quotaL ps d.v).take i) (List.replicate (arcsG qs cs bs hs d).length 0) = P0 at hmid2
  obtain ⟨_,_,ea,hra⟩:=hIa.val Eng.encI_len
  simp only [Value.slice.injEq] at ea
  obtain ⟨rfl,_,rfl⟩:=ea
  have hql:(ksOf q.1).length = q.1.length:=by unfold ksOf; rw [List.length_map]
  have hq2:=(hsm.2 p0 (List.mem_of_getElem? n4))
  rw [← n5] at hq2
  refine yield_specE has hbd hfr rfl (by intro p hp; simp at hp; omega) putiZ (fun N' β'=>?_)
  refine AC ?_;refine AA ?_;refine AD ?_;refine AE ?_;refine AA ?_;refine AD ?_;refine AE ?_;refine CM rfl rfl ?_;refine CV takeZ rfl ?_;refine AP ?_;refine AC ?_;refine AA ?_;refine AB ?_;refine AW ?_;refine AB ?_;refine AE ?_;refine AP ?_
  refine BA [15,17,92,93] (0:Nat) (fun j=>j ≤ q.1.length) (fun j=>[(94,int j)]) (fun j=>[sng bz (.cells (ints (addAll q.2 P0 (q.1.take j))) 3 (0,0)),sng lo (.loop { state:=.busy,pending:=none,fn:=fnn,tmps:=tm,params:=[90,91].toArray,assign:=asg,body:=bdy,defers:=df })]) (fun j=>q.1.length - j) pickZ (by omega) covZ selZ ?_
  rintro j hj
  by_cases hlt:j < q.1.length
  rotate_left
  ·rw [List.take_of_length_le (by omega)]
   refine AC ?_;refine AA ?_;refine AZ ?_;refine AE ?_;refine AC ?_;refine AM rfl ?_;refine A7 rfl ?_;refine A3 ?_;exact BP takeZ rsubZ selZ ⟨addAll q.2 P0 q.1,.inl ⟨rfl,rfl,rfl⟩⟩
  have hx:=List.getElem?_eq_getElem hlt
  have hm1:=hmid2 j
  have hm2:=hmid2 (j + 1)
  rw [List.take_succ_eq_append_getElem hlt,addAll_snoc] at hm2
  have hxk:=hark _ (List.getElem_mem hlt)
  have hta:addAll q.2 P0 (q.1.take (j + 1)) = addP q.2 (addAll q.2 P0 (q.1.take j)) q.1[j]:=by rw [List.take_succ_eq_append_getElem hlt,addAll_snoc]
  have hkx:(ksOf q.1)[j]? = some ((q.1[j].k:Nat):Int):=by unfold ksOf; rw [List.getElem?_map,hx]; rfl
  obtain ⟨b7,o7,ep,gk⟩:=hra.int hkx
  generalize addAll q.2 P0 (q.1.take j) = P at hm1 hm2 hta
  generalize q.1[j] = y at hx hm2 hxk hta gk hkx
  obtain ⟨s4,s5⟩:=part_step hcapb hm1.1 hm1.2 hm2.1 hxk
  have hPl:=hm1.2
  subst ep;refine AC ?_;refine AA ?_;refine BC ?_;refine AE ?_;refine AC ?_;refine AN rfl ?_;refine AK ?_;refine AC ?_;refine AP ?_;refine AC ?_;refine AA ?_;refine BQ ?_;refine AF ?_;refine AD ?_;refine AE ?_;refine AA ?_;refine AF ?_;refine AB ?_;refine BS ?_;refine AF ?_;refine AB ?_;refine CK ?_;refine BS ?_;refine C1 ?_; rintro _ _ ⟨rfl,rfl⟩;refine AE ?_;refine A3 ?_;refine AA ?_;refine A8 ?_;refine AB ?_;refine AE ?_
  refine AY (j + 1) (by omega) (by omega) covZ ?_
  rw [hta];exact selZ
 ·rintro b9 x hx
  have hxl:(List.zipWith (fun (e:Value × Int) (q:List Go.Flow.Lk × Int)=>[e.1,int q.2]) es (neededL ps d.v)).length = (neededL ps d.v).length:=by
   have:=needed_len ps d.v
   have:=hai.1
   rw [List.length_zipWith];omega
  rw [hxl,List.take_length,hfin] at hx;subst hx
  have hpl2:(partF qs cs bs hs d ps).length = (arcsG qs cs bs hs d).length:=by unfold partF; rw [addMany_len,hlZ]
  have hIz:IntsAt (sng bz (.cells (ints (partF qs cs bs hs d ps)) 3 (0,0))) (.slice (some ⟨bz,0,none⟩) (arcsG qs cs bs hs d).length (arcsG qs cs bs hs d).length) (partF qs cs bs hs d ps):=by
   rw [← hpl2];exact ints_at _
  have hSh:=Shipments_spec hT d _ _ _ hIz
  rw [hse,show shipsR qs cs bs hs d (partF qs cs bs hs d ps) = shipsF (arcsE qs cs bs hs d) (partF qs cs bs hs d ps) by unfold shipsR; rw [if_pos hse]] at hSh
  refine AR (ρ:=sng bz _) takeZ ?_;refine A3 ?_;refine AC ?_;refine AA ?_;refine AT ?_;refine AT ?_;refine AF ?_;refine BZ hSh rfl rfl rdZ rfl rfl ?_;rintro _ σs ⟨us,rfl,hOs⟩
  have hSs:ShAt σs us (shipsF (arcsE qs cs bs hs d) (partF qs cs bs hs d ps)):=hOs.at
  obtain ⟨p1,k1,rfl⟩:=hOs.form
  refine AB ?_;refine AO ?_;refine AO ?_;refine AD ?_;refine AD ?_;refine AE ?_;refine AC ?_;refine AA ?_;refine AG ?_;refine AF ?_;refine AB ?_;refine BO ?_;refine AB ?_;refine AV ?_; rintro _ _ ⟨rfl,rfl⟩;refine AD ?_;refine AE ?_
  refine D5 (v:=.tuple #[.agg #[.bool true,int d.v,.slice p1 (shipsF (arcsE qs cs bs hs d) (partF qs cs bs hs d ps)).length k1,.slice none 0 0],int 0]) (Marks.cons takeZ .nil) ?_ rsubZ ?_ (.inl ⟨hv,true,d.v,shipsF (arcsE qs cs bs hs d) (partF qs cs bs hs d ps),[],_,σs,emp,emp,rfl,rfl,⟨F,m,hm,.inr ⟨by omega,rfl,rfl,rfl,ps,hPN,rfl⟩⟩,⟨p1,k1,[],none,0,rfl,hSs,nilCut,rfl⟩⟩)
  ·exact resSE (b1:=b4) (T:=41) (v1:=[.bool true,int d.v,.slice p1 (shipsF (arcsE qs cs bs hs d) (partF qs cs bs hs d ps)).length k1,.slice none 0 0]) rfl rfl rfl rfl rfl (cells_own memZ)
  ·exact selZ
 ·rintro _ _ _ h; exact h.elim
end Go.Proofs.YtphehihohghfoaaGreat
/- The document's plan; answers compared. -/
namespace Go.Proofs.YtphehihohghfoaaGreat
open Go.Eng Go.Step Go.Flow
set_option maxRecDepth 100000
set_option maxHeartbeats 4000000

end Go.Proofs.YtphehihohghfoaaGreat
/- How much can be brought until when. No program in sight. No conditions. -/
namespace Go.Step
variable {qs:List Int} {cs:List Ct} {bs:List Bk} {hs:List Hd} {d:Dm}
def atE (d:Dm) (t:Int):Dm:=⟨d.s,d.d,d.v,d.r,t⟩
open Classical in
noncomputable def mostV (qs:List Int) (cs:List Ct) (bs:List Bk) (hs:List Hd) (d:Dm):Int:=if h:∃ m F,MaxN qs cs bs hs d F m 0 then Classical.choose h else 0
theorem mostV_eq {F:List Int} {m:Int} (hm:MaxN qs cs bs hs d F m 0):mostV qs cs bs hs d = m:=by
  have h:∃ m F,MaxN qs cs bs hs d F m 0:=⟨m,F,hm⟩
  unfold mostV;rw [dif_pos h]
  obtain ⟨G,hG⟩:=Classical.choose_spec h
  exact (hG.uniq hm).2.1
noncomputable def mostK (qs:List Int) (cs:List Ct) (bs:List Bk) (hs:List Hd) (d:Dm) (k:Nat):Int:=if k = 0 then 0 else mostV qs cs bs hs (atE d (d.r + k))
noncomputable def curveK (qs:List Int) (cs:List Ct) (bs:List Bk) (hs:List Hd) (d:Dm):Nat → List Lv
  | 0=>[]
  | k + 1=>curveK qs cs bs hs d k ++ (if mostK qs cs bs hs d (k + 1) ≠ mostK qs cs bs hs d k then [⟨d.r + (k + 1:Nat),mostK qs cs bs hs d (k + 1)⟩] else [])
theorem curveK_len (qs:List Int) (cs:List Ct) (bs:List Bk) (hs:List Hd) (d:Dm):∀ k,(curveK qs cs bs hs d k).length ≤ k
  | 0=>Nat.le_refl _
  | k + 1=>by
    have:=curveK_len qs cs bs hs d k
    unfold curveK;rw [List.length_append]
    split <;> simp <;> omega
theorem valid_at (hv:validT qs cs bs hs d = true) {k:Nat} (h1:d.r + (k + 1:Nat) ≤ d.e):validT qs cs bs hs (atE d (d.r + (k + 1:Nat))) = true:=by
  obtain ⟨h,hd⟩:=of_decide_eq_true hv
  refine decide_eq_true ⟨h,?_⟩;unfold okDm at hd ⊢;unfold atE
  dsimp only
  omega
theorem mostK_eq {k:Nat} {F:List Int} {m:Int} (hm:MaxN qs cs bs hs (atE d (d.r + (k + 1:Nat))) F m 0):mostK qs cs bs hs d (k + 1) = m:=by
  unfold mostK
  rw [if_neg (by omega)]
  exact mostV_eq hm
end Go.Step
