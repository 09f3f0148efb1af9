/- Texts of this proof, one after the other; no conditions. -/
import Derived.Test.YtcmggofkjcejgaaGreatDoorWB3
import Derived.Test.YtcmggofkjcejgaaGreatDoorWB1
import Derived.Test.YtcmggofkjcejgaaGreatDoorWB2
set_option linter.all false
/- The ends of two sets, one after the other. No program in sight. No conditions. -/
namespace Go.Step
theorem oddB_cases (p:Nat):(oddB p=true∧p=2*(p / 2)+1)∨(oddB p=false∧p=2*(p / 2)):=by
  unfold oddB
  by_cases h:p % 2=1
  · exact .inl ⟨decide_eq_true h,by omega⟩
  · exact .inr ⟨decide_eq_false h,by omega⟩
def nxtT (A B:List Int) (p q:Nat):Int:=if p<A.length then (if q<B.length∧B.getD q 0<A.getD p 0 then B.getD q 0 else A.getD p 0) else B.getD q 0
def stp (A:List Int) (t:Int) (p:Nat):Nat:=if p<A.length∧A.getD p 0=t then p+1 else p
theorem stp_le {A:List Int} {t:Int} {p:Nat} (h:p≤A.length):p≤stp A t p∧stp A t p≤A.length:=by
  unfold stp
  split <;> omega
theorem drop_at {A:List Int} {p:Nat} (h:p<A.length):A.drop p=A.getD p 0::A.drop (p+1):=by
  rw [List.drop_eq_getElem_cons h,List.getD_eq_getElem?_getD,List.getElem?_eq_getElem h]; rfl
theorem mrg_cc (a:Int) (A:List Int) (p:Bool) (b:Int) (B:List Int) (q:Bool):mrg (a::A) p (b::B) q=if a<b then (a,!p,q)::mrg A (!p) (b::B) q else if b<a then (b,p,!q)::mrg (a::A) p B (!q) else (a,!p,!q)::mrg A (!p) B (!q):=by
  conv=>lhs; unfold mrg
theorem mrg_cn (a:Int) (A:List Int) (p q:Bool):mrg (a::A) p [] q=(a,!p,q)::mrg A (!p) [] q:=by
  conv=>lhs; unfold mrg
theorem mrg_nc (b:Int) (B:List Int) (p q:Bool):mrg [] p (b::B) q=(b,p,!q)::mrg [] p B (!q):=by
  conv=>lhs; unfold mrg
theorem mrg_at {A B:List Int} {p q:Nat} (hp:p≤A.length) (hq:q≤B.length) (h:p<A.length∨q<B.length) :
    mrg (A.drop p) (oddB p) (B.drop q) (oddB q)=(nxtT A B p q,oddB (stp A (nxtT A B p q) p),oddB (stp B (nxtT A B p q) q))::mrg (A.drop (stp A (nxtT A B p q) p)) (oddB (stp A (nxtT A B p q) p)) (B.drop (stp B (nxtT A B p q) q)) (oddB (stp B (nxtT A B p q) q)):=by
  by_cases h1:p<A.length
  · by_cases h2:q<B.length
    · rw [drop_at h1,drop_at h2,mrg_cc]
      by_cases c1:A.getD p 0<B.getD q 0
      · have e:nxtT A B p q=A.getD p 0:=by unfold nxtT; rw [if_pos h1,if_neg (by omega)]
        have e1:stp A (A.getD p 0) p=p+1:=by unfold stp; rw [if_pos ⟨h1,rfl⟩]
        have e2:stp B (A.getD p 0) q=q:=by unfold stp; rw [if_neg (by omega)]
        rw [if_pos c1,e,e1,e2,oddB_succ,drop_at h2]
      · by_cases c2:B.getD q 0<A.getD p 0
        · have e:nxtT A B p q=B.getD q 0:=by unfold nxtT; rw [if_pos h1,if_pos ⟨h2,c2⟩]
          have e1:stp A (B.getD q 0) p=p:=by unfold stp; rw [if_neg (by omega)]
          have e2:stp B (B.getD q 0) q=q+1:=by unfold stp; rw [if_pos ⟨h2,rfl⟩]
          rw [if_neg c1,if_pos c2,e,e1,e2,oddB_succ,drop_at h1]
        · have e:nxtT A B p q=A.getD p 0:=by unfold nxtT; rw [if_pos h1,if_neg (by omega)]
          have e1:stp A (A.getD p 0) p=p+1:=by unfold stp; rw [if_pos ⟨h1,rfl⟩]
          have e2:stp B (A.getD p 0) q=q+1:=by unfold stp; rw [if_pos ⟨h2,by omega⟩]
          rw [if_neg c1,if_neg c2,e,e1,e2,oddB_succ,oddB_succ]
    · have hq2:q=B.length:=by omega
      subst hq2
      have e:nxtT A B p B.length=A.getD p 0:=by unfold nxtT; rw [if_pos h1,if_neg (by omega)]
      have e1:stp A (A.getD p 0) p=p+1:=by unfold stp; rw [if_pos ⟨h1,rfl⟩]
      have e2:stp B (A.getD p 0) B.length=B.length:=by unfold stp; rw [if_neg (by omega)]
      rw [drop_at h1,List.drop_length,e,e1,e2,oddB_succ,List.drop_length,mrg_cn]
  · have hp2:p=A.length:=by omega
    subst hp2
    have h2:q<B.length:=by omega
    have e:nxtT A B A.length q=B.getD q 0:=by unfold nxtT; rw [if_neg h1]
    have e1:stp A (B.getD q 0) A.length=A.length:=by unfold stp; rw [if_neg (by omega)]
    have e2:stp B (B.getD q 0) q=q+1:=by unfold stp; rw [if_pos ⟨h2,rfl⟩]
    rw [drop_at h2,List.drop_length,e,e1,e2,oddB_succ,List.drop_length,mrg_nc]
theorem stp_go {A B:List Int} {p q:Nat} (h:p<A.length∨q<B.length):p<stp A (nxtT A B p q) p∨q<stp B (nxtT A B p q) q:=by
  by_cases h1:p<A.length
  · by_cases h2:q<B.length∧B.getD q 0<A.getD p 0
    · have e:nxtT A B p q=B.getD q 0:=by unfold nxtT; rw [if_pos h1,if_pos h2]
      right; rw [e]; unfold stp; rw [if_pos ⟨h2.1,rfl⟩]; omega
    · have e:nxtT A B p q=A.getD p 0:=by unfold nxtT; rw [if_pos h1,if_neg h2]
      left; rw [e]; unfold stp; rw [if_pos ⟨h1,rfl⟩]; omega
  · have e:nxtT A B p q=B.getD q 0:=by unfold nxtT; rw [if_neg h1]
    right; rw [e]; unfold stp; rw [if_pos ⟨by omega,rfl⟩]; omega
theorem mrg_len:∀ (n:Nat) (A:List Int) (p:Bool) (B:List Int) (q:Bool),A.length+B.length≤n→(mrg A p B q).length≤A.length+B.length
  | n,[],p,[],q,_=>by unfold mrg; simp
  | 0,a::A,p,B,q,h=>by simp at h
  | 0,[],p,b::B,q,h=>by simp at h
  | n+1,a::A,p,[],q,h=>by
    rw [mrg_cn]
    have:=mrg_len n A (!p) [] q (by simp at h ⊢; omega)
    simp at this ⊢
    omega
  | n+1,[],p,b::B,q,h=>by
    rw [mrg_nc]
    have:=mrg_len n [] p B (!q) (by simp at h ⊢; omega)
    simp at this ⊢
    omega
  | n+1,a::A,p,b::B,q,h=>by
    rw [mrg_cc]
    have h1:=mrg_len n A (!p) (b::B) q (by simp at h ⊢; omega)
    have h2:=mrg_len n (a::A) p B (!q) (by simp at h ⊢; omega)
    have h3:=mrg_len n A (!p) B (!q) (by simp at h ⊢; omega)
    simp at h1 h2 h3
    split
    · simp; omega
    · split <;> simp <;> omega
theorem mcomb1_len (f:Bool→Bool→Bool) (O:List Int) (e:Int × Bool × Bool):(mcomb1 f O e).length≤O.length+1:=by
  unfold mcomb1
  split
  · omega
  · simp
theorem mcomb_len (f:Bool→Bool→Bool):∀ (S:List (Int × Bool × Bool)) (O:List Int),(mcomb f S O).length≤O.length+S.length
  | [],O=>by simp [mcomb]
  | e::S,O=>by
    have h1:=mcomb_len f S (mcomb1 f O e)
    have h2:=mcomb1_len f O e
    show (mcomb f S (mcomb1 f O e)).length≤_
    simp
    omega
theorem mcomb_next (f:Bool→Bool→Bool) {S:List (Int × Bool × Bool)} {i:Nat} {e:Int × Bool × Bool} (h:S[i]?=some e) (O:List Int):mcomb f (S.take (i+1)) O=mcomb1 f (mcomb f (S.take i) O) e:=by
  obtain ⟨hi,rfl⟩:=List.getElem?_eq_some_iff.1 h
  rw [List.take_succ_eq_append_getElem hi];unfold mcomb;rw [List.foldl_append]
  rfl
theorem mrg_end {A B:List Int} {p q:Bool}:mrg (A.drop A.length) p (B.drop B.length) q=[]:=by
  rw [List.drop_length,List.drop_length];unfold mrg
  rfl
theorem drop_head {α:Type} {S:List α} {k:Nat} {x:α} {r:List α} (h:S.drop k=x::r):S[k]?=some x∧S.drop (k+1)=r∧k<S.length:=by
  have hk:k<S.length:=by
    apply Nat.lt_of_not_le
    intro hc
    rw [List.drop_eq_nil_of_le hc] at h
    simp at h
  rw [List.drop_eq_getElem_cons hk,List.cons.injEq] at h
  exact ⟨by rw [List.getElem?_eq_getElem hk,h.1],h.2,hk⟩
end Go.Step
namespace Go.Eng
variable {C:Cx} {D:List Deferred} {R H:List PH} {L:Env} {K:List It}
end Go.Eng
namespace Go.Proofs.YtcmggofkjcejgaaGreatDoor
open Go.Eng Go.Step
set_option maxRecDepth 100000
set_option maxHeartbeats 64000000
theorem sideNext_spec (ρ:PH) (v:Value) (l:Iv) (b p:Nat) (hv:SpAt ρ v l) (hl:l.length≤4611686018427387903) (hp:p≤2*l.length) :
  Ans Tryz.prog (fv 200) [.pointer (some ⟨b,0,none⟩)] [sng b (.cells #[v,int ((p / 2:Nat):Int),.bool (oddB p)] 304 (0,0)),ρ] (fun r=>r=.tuple #[int ((tog l).getD p 0),.bool (decide (p<2*l.length))]):=by
 obtain ⟨q,c,rfl,hr⟩:=hv.val encS_len
 have hod:=oddB_cases p
 obtain ⟨i,hi⟩:∃ i,p / 2=i:=⟨_,rfl⟩
 rw [hi] at hod ⊢
 have ct:=rdB b 304 [.slice q l.length c,int ((i:Nat):Int),.bool (oddB p)]
 have ct0:=rdC ct 0
 have ct1:=rdC ct 1
 have ct2:=rdC ct 2
 refine spec_in (cap:=[]) Tryz.func200 rfl rfl Tryz.ntmps200 rfl envZ (fun N β=>?_)
 by_cases h0:p=2*l.length
 ·have hR:(tog l).getD p 0=0:=by rw [List.getD_eq_getElem?_getD,List.getElem?_eq_none (by rw [tog_len]; omega)]; rfl
  rw [hR,decide_eq_false (by omega)]
  have hil:i=l.length:=by omega
  refine Aa ?_;refine Ab6 ?_;refine AZ ?_;refine AC ?_
  refine A9 P1Z [] rfl (by kernel_rfl) selZ ?_
  refine Ab8 ?_;refine CL ?_;refine ET ?_;refine Aaw ?_;refine A2 rfl ?_;refine Aa ?_;refine Aap ?_;exact AM (res2 rfl rfl rfl) rsubZ selZ ⟨rfl,rfl⟩
 have hil:i<l.length:=by omega
 obtain ⟨g1,g2⟩:=tog_get l i _ (List.getElem?_eq_getElem hil)
 rw [decide_eq_true (show p<2*l.length by omega)]
 obtain ⟨b4,o4,rfl,hrd,x0,x1⟩:=spRow hr (List.getElem?_eq_getElem hil)
 rcases hod with ⟨ho,hp2⟩|⟨ho,hp2⟩
 ·have hR:(tog l).getD p 0=l[i].2:=by rw [List.getD_eq_getElem?_getD,hp2,g2]; rfl
  rw [hR];rw [ho] at ct ct0 ct1 ct2 ⊢
  generalize l[i]=x at hrd x0 x1
  refine Aa ?_;refine Ab6 ?_;refine AZ ?_;refine AC ?_
  refine A9 P1Z [] rfl (by kernel_rfl) selZ ?_
  refine Ab8 ?_;refine CL ?_;refine EU ?_;refine Aaw ?_;refine AI rfl ?_;refine Aaf ?_;refine BJ ?_;refine Aac ?_;refine Aaa ?_;refine A2 rfl ?_;refine AC ?_
  refine A9 P0Z [] rfl (by kernel_rfl) selZ ?_
  refine Ab8 ?_;refine CI ?_;refine DI ?_;refine AU ?_;refine Abu ?_
  skip
  exact AM (res2 rfl rfl rfl) rsubZ selZ ⟨rfl,rfl⟩
 ·have hR:(tog l).getD p 0=l[i].1:=by rw [List.getD_eq_getElem?_getD,hp2,g1]; rfl
  rw [hR];rw [ho] at ct ct0 ct1 ct2 ⊢
  generalize l[i]=x at hrd x0 x1
  refine Aa ?_;refine Ab6 ?_;refine AZ ?_;refine AC ?_
  refine A9 P1Z [] rfl (by kernel_rfl) selZ ?_
  refine Ab8 ?_;refine CL ?_;refine EU ?_;refine Aaw ?_;refine AI rfl ?_;refine Aaf ?_;refine BJ ?_;refine Aac ?_;refine Aaa ?_;refine Aae ?_;refine BC ?_;refine AC ?_
  refine A9 P0Z [] rfl (by kernel_rfl) selZ ?_
  refine Ab8 ?_;refine CI ?_;refine DR ?_;refine AU ?_;refine Abu ?_
  skip
  exact AM (res2 rfl rfl rfl) rsubZ selZ ⟨rfl,rfl⟩
theorem sidePass_spec (ρ:PH) (v:Value) (l:Iv) (b p:Nat) (t:Int) (hv:SpAt ρ v l) (hl:l.length≤4611686018427387903) (hp:p≤2*l.length) :
  Eng.Spec Tryz.prog (fv 201) [.pointer (some ⟨b,0,none⟩),int t] [ρ] [sng b (.cells #[v,int ((p / 2:Nat):Int),.bool (oddB p)] 304 (0,0))] (fun r H'=>r=.tuple #[]∧H'=[sng b (.cells #[v,int ((stp (tog l) t p / 2:Nat):Int),.bool (oddB (stp (tog l) t p))] 304 (0,0))]):=by
 have hn:=sideNext_spec ρ v l b p hv hl hp
 obtain ⟨q,c,rfl,hr⟩:=hv.val encS_len
 refine spec_in (cap:=[]) Tryz.func201 rfl rfl Tryz.ntmps201 rfl envZ (fun N β=>?_)
 refine Abb ?_;refine AT hn rfl rfl rdZ rfl rfl ?_;rintro _ rfl
 by_cases h1:p<2*l.length
 rotate_left
 ·have hs:stp (tog l) t p=p:=by unfold stp; rw [if_neg (by rw [tog_len]; omega)]
  rw [hs,decide_eq_false h1];refine Ab9 ?_;refine Aaf ?_;refine A4 ?_;refine Abe ?_;refine Abm ?_;exact AM (res0 rfl) rsubZ selZ ⟨rfl,rfl⟩
 rw [decide_eq_true h1]
 by_cases h2:(tog l).getD p 0=t
 rotate_left
 ·have hs:stp (tog l) t p=p:=by unfold stp; rw [if_neg (fun h=>h2 h.2)]
  rw [hs]
  generalize (tog l).getD p 0=z at h2
  refine Ab9 ?_;refine Aaf ?_;refine A4 ?_;refine Aa0 ?_;refine DS ?_;refine AN ?_;refine Aan ?_;exact AM (res0 rfl) rsubZ selZ ⟨rfl,rfl⟩
 have hs:stp (tog l) t p=p+1:=by unfold stp; rw [if_pos ⟨by rw [tog_len]; exact h1,h2⟩]
 rw [hs,h2]
 have hod:=oddB_cases p
 have hi2:(p+1) / 2=if oddB p=true then p / 2+1 else p / 2:=by
  rcases hod with ⟨ho,hp2⟩|⟨ho,hp2⟩
  ·rw [if_pos ho]; omega
  ·rw [if_neg (by rw [ho]; simp)]; omega
 rw [hi2,oddB_succ]
 obtain ⟨i,hi⟩:∃ i,p / 2=i:=⟨_,rfl⟩
 rw [hi] at hod ⊢;clear hn
 rcases hod with ⟨ho,hp2⟩|⟨ho,hp2⟩
 ·rw [ho,if_pos rfl]
  refine Ab9 ?_;refine Aaf ?_;refine A4 ?_;refine Aa0 ?_;refine BA ?_;refine Aa7 ?_;refine Aaf ?_;refine BJ ?_;refine Aac ?_;refine Aan ?_;refine AA ?_;refine AD ?_;refine BJ ?_;refine Aac ?_;refine BU ?_;refine BJ ?_;refine AG ?_;refine BF ?_; rintro _ _ ⟨rfl,rfl⟩;refine AE ?_;refine AA ?_;refine Aak ?_;refine BJ ?_;refine Aac ?_;refine A4 ?_;refine BJ ?_;refine AG ?_;refine BF ?_; rintro _ _ ⟨rfl,rfl⟩;refine AE ?_;exact CN (res0 rfl) rsubZ selZ ⟨rfl,rfl⟩
 ·rw [ho,if_neg (by simp)]
  refine Ab9 ?_;refine Aaf ?_;refine A4 ?_;refine Aa0 ?_;refine BA ?_;refine Aa7 ?_;refine Aaf ?_;refine BJ ?_;refine Aac ?_;refine Aag ?_;refine AA ?_;refine Aak ?_;refine BJ ?_;refine Aac ?_;refine A4 ?_;refine BJ ?_;refine AG ?_;refine BF ?_; rintro _ _ ⟨rfl,rfl⟩;refine AE ?_;exact CN (res0 rfl) rsubZ selZ ⟨rfl,rfl⟩
def encPt (x:Int × Bool × Bool):List Value:=[int x.1,.agg #[.bool x.2.1,.bool x.2.2]]
theorem points_iter (ρ τ:PH) (va vb:Value) (a b:Iv) (b1 b2:Nat) (ha:SpAt ρ va a) (hb:SpAt τ vb b) (hla:a.length≤1000000) (hlb:b.length≤1000000) :
  Iter Tryz.prog (.func (.func 199) #[] #[.pointer (some ⟨b1,0,none⟩),.pointer (some ⟨b2,0,none⟩)]) [sng b1 (.cells #[va] 26 (0,0)),sng b2 (.cells #[vb] 26 (0,0)),ρ,τ] ((mrg (tog a) false (tog b) false).map encPt):=by
 intro y S Own Inv Stop Ry hy hyl σ0 hI0
 obtain ⟨yl,rfl⟩:=hyl
 have hna:=fun bx p hp=>sideNext_spec ρ va a bx p ha (by omega) hp
 have hnb:=fun bx p hp=>sideNext_spec τ vb b bx p hb (by omega) hp
 have hpa:=fun bx p t hp=>sidePass_spec ρ va a bx p t ha (by omega) hp
 have hpb:=fun bx p t hp=>sidePass_spec τ vb b bx p t hb (by omega) hp
 obtain ⟨qa,ca,rfl,hra⟩:=ha.val encS_len
 obtain ⟨qb,cb,rfl,hrb⟩:=hb.val encS_len
 have bx20_3:=rdB b1 26 [.slice qa a.length ca]
 have c1:=rdC bx20_3 0
 have bx21_3:=rdB b2 26 [.slice qb b.length cb]
 have c2:=rdC bx21_3 0
 have la:=tog_len a
 have lb:=tog_len b
 simp only [List.cons_append,List.nil_append]
 refine spec_in (cap:=[.pointer (some ⟨b1,0,none⟩),.pointer (some ⟨b2,0,none⟩)]) Tryz.func199 rfl rfl Tryz.ntmps199 rfl envZ (fun N β=>?_)
 refine AC ?_
 refine EF (X:=Nat × Nat) [0,1,2] (fun _=>True) (fun x=>[(4,.pointer (some ⟨x.1,0,none⟩)),(5,.pointer (some ⟨x.2,0,none⟩))]) (fun x=>sng x.2 (.cells #[.slice qb b.length cb,int ((0 / 2:Nat):Int),.bool (oddB 0)] 304 (0,0))::sng x.1 (.cells #[.slice qa a.length ca,int ((0 / 2:Nat):Int),.bool (oddB 0)] 304 (0,0))::Own σ0) pickZ ?_ ?_
 ·refine A9 (.q 0 (.q 1 (.q 3 (.q 4 (.l2 2 .e (.q 6 (.l 5 .e (.q 7 .nil))) 5 .e (.l 2 .e (.q 6 (.q 7 .nil)))))))) [] rfl (by kernel_rfl) Sel.nil ?_
  repeat' (first
   | (refine AY ?_)
   | (refine AU ?_)
   | (refine DC ?_)
   | (refine A7 ?_)
   | (refine EA ?_ ?_)
   | (refine FZ ?_; rintro _ _ ⟨b,rfl,rfl⟩)
   | (refine FY ?_; rintro _ _ ⟨b,rfl,rfl⟩)
   | fail)
  ·refine CD (_,_) trivial covZ ?_
   exact Sel.refl
  ·refine C8 (List.Perm.swap _ _ _) ?_
   refine CD (_,_) trivial covZ ?_;exact Sel.refl
 rintro ⟨bx,by_⟩ _
 dsimp only
 refine AZ ?_
 refine BT [0,1,2,4,5] (X:=Nat × Nat × Nat × S) (0,0,0,σ0) (fun x=>x.1≤(mrg (tog a) false (tog b) false).length∧x.2.1≤2*a.length∧x.2.2.1≤2*b.length∧(mrg (tog a) false (tog b) false).drop x.1=mrg ((tog a).drop x.2.1) (oddB x.2.1) ((tog b).drop x.2.2.1) (oddB x.2.2.1)∧Inv x.1 x.2.2.2) (fun _=>[]) (fun x=>sng by_ (.cells #[.slice qb b.length cb,int ((x.2.2.1 / 2:Nat):Int),.bool (oddB x.2.2.1)] 304 (0,0))::sng bx (.cells #[.slice qa a.length ca,int ((x.2.1 / 2:Nat):Int),.bool (oddB x.2.1)] 304 (0,0))::Own x.2.2.2) (fun x=>(2*a.length-x.2.1)+(2*b.length-x.2.2.1)) pickZ ⟨by dsimp only; omega,by dsimp only; omega,by dsimp only; omega,rfl,hI0⟩ covZ Sel.refl ?_
 rintro ⟨k,p,q,σ'⟩ ⟨hk,hp,hq,hS,hI⟩
 dsimp only at hk hp hq hS hI ⊢
 have h1:=hna bx p hp
 have h2:=hnb by_ q hq
 refine AZ ?_;refine Aaf ?_;refine AT h1 rfl rfl rdZ rfl rfl ?_;rintro _ rfl;refine Ab9 ?_;refine Aaf ?_;refine AT h2 rfl rfl rdZ rfl rfl ?_;rintro _ rfl
 generalize hm:(tog a).getD p 0=m
 generalize hn:(tog b).getD q 0=n
 by_cases h1:p<2*a.length
 ·rw [decide_eq_true h1]
  by_cases h2:q<2*b.length∧n<m
  ·have hX:nxtT (tog a) (tog b) p q=n:=by unfold nxtT; rw [if_pos (by omega),if_pos (by rw [hm,hn]; omega),hn]
   rw [decide_eq_true h2.1]
   have h2n:=h2.2
   have hlive:p<(tog a).length∨q<(tog b).length:=by omega
   have hS':=mrg_at (by omega) (by omega) hlive
   have hgo:=stp_go hlive
   rw [hX] at hS' hgo;rw [← hS] at hS'
   obtain ⟨g1,g2,g3⟩:=drop_head hS'
   have p1:=stp_le (A:=tog a) (t:=n) (p:=p) (by omega)
   have q1:=stp_le (A:=tog b) (t:=n) (p:=q) (by omega)
   have hy1:=hy k σ' (encPt (n,oddB (stp (tog a) n p),oddB (stp (tog b) n q))) (by rw [List.getElem?_map,g1]; rfl) hI
   have k1:=hpa bx p n hp
   have k2:=hpb by_ q n hq
   generalize stp (tog a) n p=p' at g2 hy1 k1 p1 hgo
   generalize stp (tog b) n q=q' at g2 hy1 k2 q1 hgo
   refine Aay ?_;refine Aca ?_;refine A4 ?_;refine Aat ?_;refine Ab2 ?_;refine Aaf ?_;refine Aas ?_;refine A4 ?_;refine Aak ?_;refine Aa0 ?_;refine BZ ?_;refine AQ ?_;refine AN ?_;refine Aan ?_;refine AA ?_;refine AD ?_;refine Aaa ?_;refine Aa2 ?_;refine BI k1 rfl rfl takesZ rdZ rfl rfl ?_;rintro _ _ ⟨rfl,rfl⟩;refine AE ?_;refine Aa2 ?_;refine BI k2 rfl rfl takesZ rdZ rfl rfl ?_;rintro _ _ ⟨rfl,rfl⟩;refine Aam ?_
   refine A9 (.q 0 (.q 1 (.q 2 (.q 3 (.q 4 (.q 5 (.q 6 (.q 7 (.q 8 (.q 9 (.q 10 (.l 11 .b (.q 12 .nil))))))))))))) [] rfl (by kernel_rfl) Sel.nil ?_
   refine Abx ?_;refine Ab8 ?_
   focus ((refine' CA rfl _ rfl rfl rfl rfl _; rotate_left; (focus (apply CS; exact rfl; exact rfl; exact rfl; exact rfl; exact rfl; exact rfl; exact rfl))))
   refine B9 (C7 rfl hy1 rfl rfl (Takes.skip (Takes.skip Takes.all)) (fun τ hτ=>.inl (by simp [hτ])) rfl rfl (fun _ _ _ w hw=>hw.sel Sel.nil) ?_)
   rintro _ H' ⟨σ1,rfl,⟨rfl,hI1⟩|⟨rfl,hSt⟩⟩
   ·refine DF (H':=_::_::Own σ1) (List.perm_append_comm (l₂:=[_,_])) ?_
    refine CQ ?_;refine Abs ?_;refine BC ?_
    exact BB (k+1,p',q',σ1) ⟨by dsimp only; omega,by dsimp only; omega,by dsimp only; omega,g2,hI1⟩ (by dsimp only; omega) covZ Sel.refl
   ·refine CQ ?_
    refine A7 ?_;refine A2 rfl ?_
    exact AM (res0 rfl) (fun _ h=>h) Sel.left ⟨σ1,rfl,.inr hSt⟩
  ·have hX:nxtT (tog a) (tog b) p q=m:=by unfold nxtT; rw [if_pos (by omega),if_neg (by rw [hm,hn]; omega),hm]
   by_cases h3:q<2*b.length
   ·rw [decide_eq_true h3]
    have h2n:¬ n<m:=fun h=>h2 ⟨h3,h⟩
    have hlive:p<(tog a).length∨q<(tog b).length:=by omega
    have hS':=mrg_at (by omega) (by omega) hlive
    have hgo:=stp_go hlive
    rw [hX] at hS' hgo;rw [← hS] at hS'
    obtain ⟨g1,g2,g3⟩:=drop_head hS'
    have p1:=stp_le (A:=tog a) (t:=m) (p:=p) (by omega)
    have q1:=stp_le (A:=tog b) (t:=m) (p:=q) (by omega)
    have hy1:=hy k σ' (encPt (m,oddB (stp (tog a) m p),oddB (stp (tog b) m q))) (by rw [List.getElem?_map,g1]; rfl) hI
    have k1:=hpa bx p m hp
    have k2:=hpb by_ q m hq
    generalize stp (tog a) m p=p' at g2 hy1 k1 p1 hgo
    generalize stp (tog b) m q=q' at g2 hy1 k2 q1 hgo
    refine Aay ?_;refine Aca ?_;refine A4 ?_;refine Aat ?_;refine Ab2 ?_;refine Aaf ?_;refine Aas ?_;refine A4 ?_;refine Aak ?_;refine Aa0 ?_;refine BP ?_;refine AQ ?_;refine Ab2 ?_;refine Aa2 ?_;refine BI k1 rfl rfl takesZ rdZ rfl rfl ?_;rintro _ _ ⟨rfl,rfl⟩;refine AE ?_;refine Aa2 ?_;refine BI k2 rfl rfl takesZ rdZ rfl rfl ?_;rintro _ _ ⟨rfl,rfl⟩;refine Aam ?_
    refine A9 (.q 0 (.q 1 (.q 2 (.q 3 (.q 4 (.q 5 (.q 6 (.q 7 (.q 8 (.q 9 (.q 10 (.l 11 .b (.q 12 .nil))))))))))))) [] rfl (by kernel_rfl) Sel.nil ?_
    refine Abx ?_;refine Ab8 ?_
    focus ((refine' CA rfl _ rfl rfl rfl rfl _; rotate_left; (focus (apply CS; exact rfl; exact rfl; exact rfl; exact rfl; exact rfl; exact rfl; exact rfl))))
    refine B9 (C7 rfl hy1 rfl rfl (Takes.skip (Takes.skip Takes.all)) (fun τ hτ=>.inl (by simp [hτ])) rfl rfl (fun _ _ _ w hw=>hw.sel Sel.nil) ?_)
    rintro _ H' ⟨σ1,rfl,⟨rfl,hI1⟩|⟨rfl,hSt⟩⟩
    ·refine DF (H':=_::_::Own σ1) (List.perm_append_comm (l₂:=[_,_])) ?_
     refine CQ ?_;refine Abs ?_;refine BC ?_
     exact BB (k+1,p',q',σ1) ⟨by dsimp only; omega,by dsimp only; omega,by dsimp only; omega,g2,hI1⟩ (by dsimp only; omega) covZ Sel.refl
    ·refine CQ ?_
     refine A7 ?_;refine A2 rfl ?_
     exact AM (res0 rfl) (fun _ h=>h) Sel.left ⟨σ1,rfl,.inr hSt⟩
   ·rw [decide_eq_false h3]
    have hlive:p<(tog a).length∨q<(tog b).length:=by omega
    have hS':=mrg_at (by omega) (by omega) hlive
    have hgo:=stp_go hlive
    rw [hX] at hS' hgo;rw [← hS] at hS'
    obtain ⟨g1,g2,g3⟩:=drop_head hS'
    have p1:=stp_le (A:=tog a) (t:=m) (p:=p) (by omega)
    have q1:=stp_le (A:=tog b) (t:=m) (p:=q) (by omega)
    have hy1:=hy k σ' (encPt (m,oddB (stp (tog a) m p),oddB (stp (tog b) m q))) (by rw [List.getElem?_map,g1]; rfl) hI
    have k1:=hpa bx p m hp
    have k2:=hpb by_ q m hq
    generalize stp (tog a) m p=p' at g2 hy1 k1 p1 hgo
    generalize stp (tog b) m q=q' at g2 hy1 k2 q1 hgo
    refine Aay ?_;refine Aca ?_;refine A4 ?_;refine Aat ?_;refine Ab2 ?_;refine Aaf ?_;refine Aas ?_;refine A4 ?_;refine Aak ?_;refine Abe ?_;refine AN ?_;refine Ab2 ?_;refine Aa2 ?_;refine BI k1 rfl rfl takesZ rdZ rfl rfl ?_;rintro _ _ ⟨rfl,rfl⟩;refine AE ?_;refine Aa2 ?_;refine BI k2 rfl rfl takesZ rdZ rfl rfl ?_;rintro _ _ ⟨rfl,rfl⟩;refine Aam ?_
    refine A9 (.q 0 (.q 1 (.q 2 (.q 3 (.q 4 (.q 5 (.q 6 (.q 7 (.q 8 (.q 9 (.q 10 (.l 11 .b (.q 12 .nil))))))))))))) [] rfl (by kernel_rfl) Sel.nil ?_
    refine Abx ?_;refine Ab8 ?_
    focus ((refine' CA rfl _ rfl rfl rfl rfl _; rotate_left; (focus (apply CS; exact rfl; exact rfl; exact rfl; exact rfl; exact rfl; exact rfl; exact rfl))))
    refine B9 (C7 rfl hy1 rfl rfl (Takes.skip (Takes.skip Takes.all)) (fun τ hτ=>.inl (by simp [hτ])) rfl rfl (fun _ _ _ w hw=>hw.sel Sel.nil) ?_)
    rintro _ H' ⟨σ1,rfl,⟨rfl,hI1⟩|⟨rfl,hSt⟩⟩
    ·refine DF (H':=_::_::Own σ1) (List.perm_append_comm (l₂:=[_,_])) ?_
     refine CQ ?_;refine Abs ?_;refine BC ?_
     exact BB (k+1,p',q',σ1) ⟨by dsimp only; omega,by dsimp only; omega,by dsimp only; omega,g2,hI1⟩ (by dsimp only; omega) covZ Sel.refl
    ·refine CQ ?_
     refine A7 ?_;refine A2 rfl ?_
     exact AM (res0 rfl) (fun _ h=>h) Sel.left ⟨σ1,rfl,.inr hSt⟩
 ·rw [decide_eq_false h1]
  by_cases h2:q<2*b.length
  ·have hX:nxtT (tog a) (tog b) p q=n:=by unfold nxtT; rw [if_neg (by omega),hn]
   rw [decide_eq_true h2]
   have hlive:p<(tog a).length∨q<(tog b).length:=by omega
   have hS':=mrg_at (by omega) (by omega) hlive
   have hgo:=stp_go hlive
   rw [hX] at hS' hgo;rw [← hS] at hS'
   obtain ⟨g1,g2,g3⟩:=drop_head hS'
   have p1:=stp_le (A:=tog a) (t:=n) (p:=p) (by omega)
   have q1:=stp_le (A:=tog b) (t:=n) (p:=q) (by omega)
   have hy1:=hy k σ' (encPt (n,oddB (stp (tog a) n p),oddB (stp (tog b) n q))) (by rw [List.getElem?_map,g1]; rfl) hI
   have k1:=hpa bx p n hp
   have k2:=hpb by_ q n hq
   generalize stp (tog a) n p=p' at g2 hy1 k1 p1 hgo
   generalize stp (tog b) n q=q' at g2 hy1 k2 q1 hgo
   refine Aay ?_;refine Aca ?_;refine A4 ?_;refine Aak ?_;refine A4 ?_;refine AQ ?_;refine Aag ?_;refine Aaf ?_;refine Aas ?_;refine A4 ?_;refine Abc ?_;refine Aab ?_;refine Abm ?_;refine AA ?_;refine AD ?_;refine Aaa ?_;refine Aa2 ?_;refine BI k1 rfl rfl takesZ rdZ rfl rfl ?_;rintro _ _ ⟨rfl,rfl⟩;refine AE ?_;refine Aa2 ?_;refine BI k2 rfl rfl takesZ rdZ rfl rfl ?_;rintro _ _ ⟨rfl,rfl⟩;refine Aam ?_
   refine A9 (.q 0 (.q 1 (.q 2 (.q 3 (.q 4 (.q 5 (.q 6 (.q 7 (.q 8 (.q 9 (.q 10 (.l 11 .b (.q 12 .nil))))))))))))) [] rfl (by kernel_rfl) Sel.nil ?_
   refine Abx ?_;refine Ab8 ?_
   focus ((refine' CA rfl _ rfl rfl rfl rfl _; rotate_left; (focus (apply CS; exact rfl; exact rfl; exact rfl; exact rfl; exact rfl; exact rfl; exact rfl))))
   refine B9 (C7 rfl hy1 rfl rfl (Takes.skip (Takes.skip Takes.all)) (fun τ hτ=>.inl (by simp [hτ])) rfl rfl (fun _ _ _ w hw=>hw.sel Sel.nil) ?_)
   rintro _ H' ⟨σ1,rfl,⟨rfl,hI1⟩|⟨rfl,hSt⟩⟩
   ·refine DF (H':=_::_::Own σ1) (List.perm_append_comm (l₂:=[_,_])) ?_
    refine CQ ?_;refine Abs ?_;refine BC ?_
    exact BB (k+1,p',q',σ1) ⟨by dsimp only; omega,by dsimp only; omega,by dsimp only; omega,g2,hI1⟩ (by dsimp only; omega) covZ Sel.refl
   ·refine CQ ?_
    refine A7 ?_;refine A2 rfl ?_
    exact AM (res0 rfl) (fun _ h=>h) Sel.left ⟨σ1,rfl,.inr hSt⟩
  ·rw [decide_eq_false h2]
   have hpe:p=(tog a).length:=by omega
   have hqe:q=(tog b).length:=by omega
   rw [hpe,hqe,mrg_end] at hS
   have hke:k=(mrg (tog a) false (tog b) false).length:=by
    have:=List.drop_eq_nil_iff.1 hS
    omega
   refine Aay ?_;refine Aca ?_;refine A4 ?_;refine Aak ?_;refine A4 ?_;refine Abm ?_
   refine AM (res0 rfl) (fun _ h=>h) (Sel.skip (Sel.skip Sel.refl)) ⟨σ',rfl,.inl ?_⟩
   rw [List.length_map,← hke];exact hI
theorem points_spec (v u:Value) (hv:v.oneCell'=true) (hu:u.oneCell'=true) :
  Eng.Spec Tryz.prog (fv 159) [v,u] [] [] (fun r H'=>∃ b1 b2,r=.func (.func 199) #[] #[.pointer (some ⟨b1,0,none⟩),.pointer (some ⟨b2,0,none⟩)]∧H'=[sng b2 (.cells #[u] 26 (0,0)),sng b1 (.cells #[v] 26 (0,0))]):=by
 refine spec_in (cap:=[]) Tryz.func159 rfl rfl Tryz.ntmps159 rfl envZ (fun N β=>?_)
 refine Aa ?_;refine BG (CZ rfl hv) rfl rfl rfl ?_;rintro _ _ ⟨b1,rfl,rfl⟩;refine BG (CZ rfl hu) rfl rfl rfl ?_;rintro _ _ ⟨b2,rfl,rfl⟩;refine Aaa ?_;refine Aa ?_;refine BN ?_;refine Aaa ?_;exact AM (res1 rfl rfl) rsubZ selZ ⟨b1,b2,rfl,rfl⟩
theorem ivCombine_spec (ρ τ:PH) (va vb:Value) (gf:FuncId) (a b:Iv) (f:Bool→Bool→Bool) (ha:SpAt ρ va a) (hb:SpAt τ vb b) (h0a:chkI a=0) (h0b:chkI b=0) (hlen:a.length+b.length≤1000) (hf:f false false=false)
  (hfn:∀ x y,Ans Tryz.prog (.func (.func gf) #[] #[]) [.bool x,.bool y] [] (fun r=>r=.bool (f x y))) :
  Makes Tryz.prog (fv 120) [va,vb,.func (.func gf) #[] #[]] [ρ,τ] (fun r σ=>∃ u,r=.tuple #[u,int 0]∧OwnS 50 2 u (combI f a b).length ((combI f a b).flatMap encS) σ):=by
 have hca:=ivCheck_spec ρ va a ha (by omega)
 have hcb:=ivCheck_spec τ vb b hb (by omega)
 rw [h0a] at hca;rw [h0b] at hcb
 have hpts:=fun b1 b2=>points_iter ρ τ va vb a b b1 b2 ha hb (by omega) (by omega)
 have hcl:=(combI_ok hf (chkI_norm h0a).2.1 (chkI_norm h0b).2.1).2.2
 have hml:=mrg_len _ (tog a) false (tog b) false (Nat.le_refl _)
 rw [tog_len,tog_len] at hml
 obtain ⟨qa,ca,rfl,_⟩:=ha.val encS_len
 obtain ⟨qb,cb,rfl,_⟩:=hb.val encS_len
 refine spec_in (cap:=[]) Tryz.func120 rfl rfl Tryz.ntmps120 rfl envZ (fun N β=>?_)
 refine CV ?_;refine Aa ?_;refine DD ?_; rintro _ _ ⟨b,rfl,rfl⟩;refine Aca ?_
 revert b; intro b5
 refine AP (ρ:=sng b5 _) takeZ ?_
 have bx55_3:=rdB b5 218 [.func (.func gf) #[] #[]]
 have g5:=rdC bx55_3 0
 refine AT hca rfl rfl rdZ rfl rfl ?_;rintro _ rfl;refine BA ?_;refine Aak ?_;refine AT hcb rfl rfl rdZ rfl rfl ?_;rintro _ rfl;refine BA ?_;refine Ab2 ?_;refine Aa ?_;refine CM ?_; rintro _ _ ⟨b,rfl,rfl⟩;refine AE ?_;refine Aa ?_;refine CM ?_; rintro _ _ ⟨b,rfl,rfl⟩;refine BF ?_; rintro _ _ ⟨rfl,rfl⟩;refine Aam ?_;refine Aa2 ?_
 revert b; intro b9
 revert b; intro b8
 refine BI (points_spec (.slice qa a.length ca) (.slice qb b.length cb) rfl rfl) rfl rfl Takes.nil (fun τ hτ=>by simp at hτ) rfl rfl ?_
 rintro _ _ ⟨b1,b2,rfl,rfl⟩;refine AP (ρ:=sng b1 _) takeZ ?_;refine AP (ρ:=sng b2 _) takeZ ?_;refine AE ?_;refine AZ ?_
 refine D0 (gf:=199) (cap:=[.pointer (some ⟨b1,0,none⟩),.pointer (some ⟨b2,0,none⟩)]) (ps:=[24,25]) (X:=Value × Bool × PH) rfl Tryz.func199 rfl rfl
  (hpts b1 b2) ?_
  (fun i x=>x.2.1=oddB (mcomb f ((mrg (tog a) false (tog b) false).take i) []).length∧OwnS 50 2 x.1 (spans (mcomb f ((mrg (tog a) false (tog b) false).take i) [])).length ((spans (mcomb f ((mrg (tog a) false (tog b) false).take i) [])).flatMap encS) x.2.2)
  (fun x=>[sng b8 (.cells #[x.1] 26 (0,0)),sng b9 (.cells #[.bool x.2.1] 4 (0,0)),x.2.2]) (fun _ _=>False) (.slice none 0 0,false,emp) rfl takesZ ⟨rfl,OwnS.nil _ _⟩ ?_ ?_ ?_
 ·intro σ' hσ
  simp only [List.mem_cons,List.not_mem_nil,or_false] at hσ ⊢
  rcases hσ with h|h|h|h <;> simp [h]
 ·rintro lo r i ⟨u,ins,σ⟩ vs hvs ⟨hins,hO⟩ hps has hbd hst hpe hfr
  obtain ⟨st,pe,fnn,tm,prm,asg,bdy,df⟩:=r
  simp only at hps has hbd hst hpe hfr;subst hps has hbd hst hpe;rw [List.getElem?_map] at hvs
  obtain ⟨⟨t,x,y⟩,hc,rfl⟩:=Option.map_eq_some_iff.1 hvs
  have hnx:=mcomb_next f hc []
  have hOl:=mcomb_len f ((mrg (tog a) false (tog b) false).take i) []
  have hti:((mrg (tog a) false (tog b) false).take i).length≤(mrg (tog a) false (tog b) false).length:=by rw [List.length_take]; omega
  dsimp only at hins hO
  have hsl:=spans_len (mcomb f ((mrg (tog a) false (tog b) false).take i) [])
  simp only [hnx]
  generalize mcomb f ((mrg (tog a) false (tog b) false).take i) []=O at hins hO hOl hsl
  simp only [List.length_nil] at hOl
  have hone:∀ z n (xs:List Value) (χ:PH),OwnS 50 2 z n xs χ→z.oneCell'=true:=fun z n xs χ h=>by obtain ⟨_,_,rfl⟩:=h.form; rfl
  have hu1:=hone _ _ _ _ hO
  have hfxy:=hfn x y
  have hm1:mcomb1 f O (t,x,y)=if f x y=oddB O.length then O else O ++ [t]:=rfl
  refine yield_spec hfr rfl (by intro p hp; simp at hp; omega) putiZ (fun N' β'=>?_)
  dsimp only
  refine Aar ?_;refine AA ?_;refine A3 ?_; rintro _ _ ⟨b,rfl,rfl⟩;refine AV ?_; rintro _ _ ⟨rfl,rfl⟩;refine AE ?_;refine C0 rfl rfl ?_;refine C6 takeZ rfl ?_
  revert b; intro bx
  refine Abf ?_;refine AF ?_
  focus ((refine BK (F0 rfl rfl rfl rfl (by decide)) rfl rfl rfl ?_))
  refine AF ?_
  focus ((refine BK (F3 rfl rfl rfl rfl (by decide)) rfl rfl rfl ?_))
  refine AF ?_;refine AT hfxy rfl rfl rdZ rfl rfl ?_;rintro _ rfl
  cases hfv:f x y with
  | true =>
   cases ins with
   | true =>
    rw [hfv,← hins,if_pos rfl] at hm1;refine Aah ?_;refine AZ ?_;refine Aa2 ?_;refine AF ?_;refine A4 ?_;refine Aax ?_;refine AI rfl ?_;refine Aaf ?_;refine A4 ?_;refine AD ?_;refine AJ rfl rfl rfl ?_;refine AN ?_;refine Aaa ?_;refine Aae ?_;refine Aa1 ?_;refine AD ?_;refine BF ?_; rintro _ _ ⟨rfl,rfl⟩;refine AE ?_;refine BC ?_
    exact B5 takeZ rsubZ selZ ⟨(u,true,σ),.inl ⟨rfl,⟨by rw [hm1]; exact hins,by rw [hm1]; exact hO⟩,rfl⟩⟩
   | false =>
    rw [hfv,← hins,if_neg (by simp)] at hm1
    have hsp:=spans_even t hins.symm
    refine Aah ?_;refine AZ ?_;refine Aa2 ?_;refine AF ?_;refine A4 ?_;refine Aax ?_;refine A2 rfl ?_;refine AA ?_;refine AF ?_;refine AD ?_;refine CB ?_;refine B0 ?_; rintro _ _ ⟨b,rfl,rfl⟩
    refine BG (CX (by_:=16) (s:=2) (news:=[int t,int 0]) rfl rfl rfl rfl rfl rfl rfl hO takeZ (cells_own memZ) rfl oneZ (by omega) (by simp only [maxLen]; omega) (by omega)) rfl rfl rfl ?_
    rintro u1 _ ⟨σ1,hO1,rfl⟩
    have hu2:=hone _ _ _ _ hO1
    refine BF ?_; rintro _ _ ⟨rfl,rfl⟩;refine AE ?_;refine Aa1 ?_;refine AD ?_;refine BF ?_; rintro _ _ ⟨rfl,rfl⟩;refine AE ?_;refine BC ?_;refine B5 takeZ rsubZ selZ ⟨(u1,true,σ1),.inl ⟨rfl,⟨?_,?_⟩,rfl⟩⟩
    ·dsimp only
     rw [hm1,List.length_append,List.length_singleton,oddB_succ,← hins]; rfl
    ·dsimp only
     rw [hm1,hsp,List.length_append,List.flatMap_append];exact hO1
  | false =>
   cases ins with
   | false =>
    rw [hfv,← hins,if_pos rfl] at hm1;refine Aah ?_;refine AZ ?_;refine Aaf ?_;refine Aat ?_;refine AN ?_;refine Abw ?_;refine Aaf ?_;refine A4 ?_;refine AD ?_;refine AF ?_;refine Aax ?_;refine Aae ?_;refine Aa1 ?_;refine AD ?_;refine BF ?_; rintro _ _ ⟨rfl,rfl⟩;refine AE ?_;refine BC ?_
    exact B5 takeZ rsubZ selZ ⟨(u,false,σ),.inl ⟨rfl,⟨by rw [hm1]; exact hins,by rw [hm1]; exact hO⟩,rfl⟩⟩
   | true =>
    rw [hfv,← hins,if_neg (by simp)] at hm1
    obtain ⟨l,c,e1,e2⟩:=spans_odd t hins.symm
    rw [e1] at hO hsl
    have hll:(l ++ [(c,(0:Int))]).length=l.length+1:=by simp
    obtain ⟨bu,cu,rfl⟩:=hO.formP (by omega)
    have hget:(l ++ [(c,(0:Int))])[(l ++ [(c,(0:Int))]).length-1]?=some (c,0):=by simp
    refine Aah ?_;refine AZ ?_;refine Aaf ?_;refine Aat ?_;refine AN ?_;refine Abw ?_;refine Aaf ?_;refine A4 ?_;refine AD ?_;refine AF ?_;refine Aax ?_;refine A2 rfl ?_;refine AA ?_;refine AF ?_;refine AF ?_;refine BE ?_;refine BR ?_;refine AD ?_;refine B6 ?_;refine CE ?_
    refine B4 (C9 encS_len (s:=2) ((l ++ [(c,(0:Int))]).length-1) 1 (c,t) hO rfl (by simp; rfl) (by decide) hget rfl rfl rfl rfl takeZ) rfl rfl ?_
    rintro _ _ ⟨rfl,σ1,hO1,rfl⟩;refine AE ?_;refine Aa1 ?_;refine AD ?_;refine BF ?_; rintro _ _ ⟨rfl,rfl⟩;refine AE ?_;refine BC ?_;refine B5 takeZ rsubZ selZ ⟨(.slice (some ⟨bu,0,none⟩) (l ++ [(c,(0:Int))]).length cu,false,σ1),.inl ⟨rfl,⟨?_,?_⟩,rfl⟩⟩
    ·dsimp only
     rw [hm1,List.length_append,List.length_singleton,oddB_succ,← hins]; rfl
    ·dsimp only
     rw [hm1,e2]
     have es:(l ++ [(c,(0:Int))]).set ((l ++ [(c,(0:Int))]).length-1) (c,t)=l ++ [(c,t)]:=by simp
     rw [es] at hO1
     simpa using hO1
 ·rintro b2' ⟨u,ins,σ⟩ ⟨hins,hO⟩
  rw [List.length_map,List.take_length] at hins hO
  dsimp only at hins hO
  have hO2:OwnS 50 2 u (combI f a b).length ((combI f a b).flatMap encS) σ:=hO
  obtain ⟨p,c,rfl⟩:=hO2.form
  clear hO
  generalize combI f a b=out at hO2 hcl
  refine BC ?_;refine AC ?_;refine Ab5 ?_;refine BE ?_;refine BV ?_;refine Aag ?_;refine Ab5 ?_;refine Aap ?_;exact DQ (Marks.cons .here .nil) (res2 rfl rfl rfl) rsubZ selZ ⟨σ,⟨_,rfl,hO2⟩,rfl⟩
 ·rintro _ _ _ h; exact h.elim
theorem trimR_spec (k:Nat) (hk:k≤9223372036854775807):Ans Tryz.prog (fv 108) [str (List.replicate k 0),.int .u8 0] [] (fun r=>r=str []):=by
 refine spec_in (cap:=[]) Tryz.func108 rfl rfl Tryz.ntmps108 rfl envZ (fun N β=>?_)
 refine Aa ?_;refine Aah ?_;refine AZ ?_
 refine BT [1,4] k (fun j=>j≤k) (fun j=>[(0,str (List.replicate j 0))]) (fun _=>[]) (fun j=>j) pickZ (Nat.le_refl _) covZ selZ ?_
 rintro j hj
 have hl:(List.replicate j (0:UInt8)).length=j:=List.length_replicate
 by_cases h0:j=0
 ·subst h0
  refine Abb ?_
  focus ((refine' BK _ rfl rfl rfl _; rotate_left; (apply BM; exact rfl; exact rfl)))
  refine BV ?_;refine Abc ?_;refine Aab ?_;refine AJ rfl rfl rfl ?_;refine AN ?_;refine AE ?_;refine Aaz ?_;refine Aaf ?_;refine Aaa ?_;exact A5 ⟨rfl,rfl⟩
 ·have hb:(List.replicate j (0:UInt8))[(List.replicate j (0:UInt8)).length-1]?=some 0:=by rw [hl,List.getElem?_replicate,if_pos (by omega)]
  have ht:(List.replicate j (0:UInt8)).take ((List.replicate j (0:UInt8)).length-1)=List.replicate (j-1) 0:=by rw [hl,List.take_replicate]; congr 1; omega
  refine Abb ?_
  focus ((refine' BK _ rfl rfl rfl _; rotate_left; (apply BM; exact rfl; exact rfl)))
  refine DT ?_;refine Aa0 ?_
  focus ((refine' BK _ rfl rfl rfl _; rotate_left; (apply BM; exact rfl; exact rfl)))
  refine BR ?_
  focus ((refine BK (DE (i:=(List.replicate j (0:UInt8)).length-1) rfl rfl rfl hb) rfl rfl rfl ?_))
  refine AD ?_;refine B7 ?_;refine Abm ?_;refine AK ?_;refine AZ ?_;refine AA ?_;refine Aak ?_
  focus ((refine' BK _ rfl rfl rfl _; rotate_left; (apply BM; exact rfl; exact rfl)))
  refine BR ?_
  focus ((refine BK (q_cutH (j:=(List.replicate j (0:UInt8)).length-1) rfl rfl rfl (by omega)) rfl rfl rfl ?_))
  refine Aaa ?_;refine BC ?_;rw [ht]
  skip
  exact BB (j-1) (by omega) (by omega) covZ selZ
theorem trimL_spec:Ans Tryz.prog (fv 107) [str [],.int .u8 0] [] (fun r=>r=str []):=by
 refine spec_in (cap:=[]) Tryz.func107 rfl rfl Tryz.ntmps107 rfl envZ (fun N β=>?_)
 refine Aa ?_;refine Aah ?_;refine AZ ?_
 refine BT [0,1,4] () (fun _=>True) (fun _=>[]) (fun _=>[]) (fun _=>0) pickZ trivial covZ selZ ?_
 rintro _ _
 have hl:([]:List UInt8).length=0:=rfl
 refine Abb ?_
 focus ((refine' BK _ rfl rfl rfl _; rotate_left; (apply BM; exact rfl; exact rfl)))
 refine BV ?_;refine Abc ?_;refine AN ?_;refine AE ?_;refine Aaz ?_;refine Aaf ?_;refine Aaa ?_;exact A5 ⟨rfl,rfl⟩
theorem trim_spec (k:Nat) (hk:k≤9223372036854775807):Ans Tryz.prog (fv 56) [str (List.replicate k 0),str [0]] [] (fun r=>r=str []):=by
 have h1:=trimR_spec k hk
 have h2:=trimL_spec
 have hl1:([0]:List UInt8).length=1:=rfl
 have e0:(([0]:List UInt8) == [])=false:=rfl
 refine spec_in (cap:=[]) Tryz.func56 rfl rfl Tryz.ntmps56 rfl envZ (fun N β=>?_)
 by_cases h0:k=0
 ·subst h0
  refine Abz ?_;refine BK (DU rfl rfl) rfl rfl rfl ?_;refine Aat ?_;refine Abm ?_;refine Aaf ?_;refine Aaa ?_;exact A5 ⟨rfl,rfl⟩
 ·have e1:(List.replicate k (0:UInt8) == [])=false:=by
   cases k with
   | zero=>exact absurd rfl h0
   | succ k=>rfl
  refine Abz ?_;refine BK (DU rfl rfl) rfl rfl rfl ?_;rw [e1];refine Aak ?_
  focus ((refine' BK _ rfl rfl rfl _; rotate_left; (apply DU; exact rfl; exact rfl)))
  refine Aa7 ?_;refine Aaf ?_
  focus ((refine' BK _ rfl rfl rfl _; rotate_left; (apply BM; exact rfl; exact rfl)))
  refine B7 ?_;refine Aak ?_
  focus ((refine' BK _ rfl rfl rfl _; rotate_left; (apply DE (i:=0); exact rfl; exact rfl; exact rfl; exact rfl)))
  refine BZ ?_;refine Abm ?_;refine AC ?_
  refine A9 (.q 0 (.q 1 (.q 2 (.q 4 (.q 5 (.l 3 .e (.l 6 .e (.q 7 .nil)))))))) [] rfl (by kernel_rfl) Sel.nil ?_
  refine Abx ?_
  focus ((refine' CA rfl _ rfl rfl rfl rfl _; rotate_left; (apply DE (i:=0); exact rfl; exact rfl; exact rfl; exact rfl)))
  refine AS ?_
  focus ((refine' CA rfl _ rfl rfl rfl rfl _; rotate_left; (apply DE (i:=0); exact rfl; exact rfl; exact rfl; exact rfl)))
  refine B9 (CJ rfl h1 rfl rfl rdZ rfl rfl ?_);rintro _ rfl
  skip
  refine B9 (CJ rfl h2 rfl rfl rdZ rfl rfl ?_);rintro _ rfl;refine Aaw ?_
  skip
  exact A5 ⟨rfl,rfl⟩
theorem rcvEmpty_spec (b1 b3:Nat) (se tot:Int) (u:Value) (dat:List UInt8) (x y:Nat) (hxy:x≤y) (hy:y≤dat.length) (hd:dat.length≤1999) (hz:(dat.drop x).take (y-x)=List.replicate (y-x) 0) :
  Ans Tryz.prog (.func (.func 55) #[] #[.pointer (some ⟨b1,0,none⟩),.pointer (some ⟨b3,0,none⟩)]) [int (y:Int)] [sng b1 (.cells #[int se,int tot,u,str dat] 34 (0,0)),sng b3 (.cells #[int (x:Int)] 3 (0,0))] (fun r=>r=.bool true):=by
 have ht:=trim_spec (y-x) (by omega)
 have bx195_3:=rdB b1 34 [int se,int tot,u,str dat]
 have f3:=rdC bx195_3 3
 have bx196_3:=rdB b3 3 [int (x:Int)]
 have g0:=rdC bx196_3 0
 refine spec_in (cap:=[.pointer (some ⟨b1,0,none⟩),.pointer (some ⟨b3,0,none⟩)]) Tryz.func55 rfl rfl Tryz.ntmps55 rfl envZ (fun N β=>?_)
 refine Aar ?_;refine Aaj ?_;refine AF ?_;refine AD ?_;refine BK (D8 (i:=x) (j:=y) rfl rfl rfl rfl hxy hy) rfl rfl rfl ?_;rw [hz];refine AT ht rfl rfl rdZ rfl rfl ?_;rintro _ rfl;refine BK (DU rfl rfl) rfl rfl rfl ?_;refine Aaa ?_;exact A5 ⟨rfl,rfl⟩
theorem rcvChk_spec {ρ:PH} {se:Int} {d:List UInt8} {K:Iv} {p:Option Addr} {c:Nat} (hv:SpAt ρ (.slice p K.length c) K) (hK:InI d.length K) (hn1:1≤d.length) (hn:d.length≤990) (hse:0≤se∧se≤1099511627776) :
  Ans Tryz.prog (fv 23) [.agg #[int se,int (totR d K),.slice p K.length c,str (datR d K)]] [ρ] (fun r=>r=int 0):=by
 have hKl:=hK.len (by omega)
 have hc:=ivCheck_spec ρ _ K hv (by omega)
 rw [hK.chk (by omega) (by omega)] at hc
 obtain ⟨h6,h7⟩:=hse
 obtain ⟨q,cc,e0,hr⟩:=hv.val encS_len
 simp only [Value.slice.injEq] at e0
 obtain ⟨rfl,_,rfl⟩:=e0
 by_cases hk0:K=[]
 ·subst hk0
  have e1:totR d [] = -1:=rfl
  have e2:datR d []=[]:=rfl
  rw [e1,e2]
  have hl0:([]:Iv).length=0:=rfl
  have hl1:([]:List UInt8).length=0:=rfl
  have hemp:=fun b1 b3=>rcvEmpty_spec b1 b3 se (-1) (.slice p ([]:Iv).length c) [] 0 0 (Nat.le_refl _) (Nat.zero_le _) (by omega) rfl
  refine spec_in (cap:=[]) Tryz.func23 rfl rfl Tryz.ntmps23 rfl envZ (fun N β=>?_)
  refine Aa ?_;refine BG (BH rfl) rfl rfl rfl ?_;rintro _ _ ⟨b1,rfl,rfl⟩;refine AP (ρ:=sng b1 _) takeZ ?_
  have cr:=rdB b1 34 [int se,int (-1),.slice p ([]:Iv).length c,str []]
  have cr0:=rdC cr 0
  have cr1:=rdC cr 1
  have cr2:=rdC cr 2
  have cr3:=rdC cr 3
  refine Abo ?_;refine BP ?_;refine Aal ?_;refine BV ?_;refine AN ?_;refine Aal ?_;refine BA ?_;refine Abc ?_;refine Aab ?_;refine Aab ?_;refine AN ?_;refine Aa7 ?_;refine Aaj ?_;refine AT hc rfl rfl rdZ rfl rfl ?_;rintro _ rfl;refine BA ?_;refine Aal ?_;refine BE ?_;refine B7 ?_;refine Aac ?_;refine B7 ?_
  focus ((refine' BK _ rfl rfl rfl _; rotate_left; (apply D4; exact rfl; exact rfl; exact rfl)))
  refine Aa7 ?_;refine AC ?_
  refine A9 P2Z [] rfl (by kernel_rfl) Sel.nil ?_
  refine Aai ?_;refine CL ?_;refine DL ?_;refine AS ?_;refine Acb ?_;refine Acb ?_;refine Aa5 ?_;refine BY ?_;refine Abs ?_;refine AC ?_;refine Aaj ?_
  focus ((refine' BK _ rfl rfl rfl _; rotate_left; (apply BM; exact rfl; exact rfl)))
  refine Aac ?_;refine FH ?_;refine Abl ?_;refine Aa ?_;refine CM ?_; rintro _ _ ⟨b,rfl,rfl⟩;refine BF ?_; rintro _ _ ⟨rfl,rfl⟩;refine AE ?_;refine Aa ?_;refine BN ?_;refine Abo ?_;refine Abr ?_
  revert b; intro b3
  refine BT [0,1,3,4,79,80] () (fun _=>True) (fun _=>[(81,int 0)]) (fun _=>[sng b3 (.cells #[int ((0:Nat):Int)] 3 (0,0))]) (fun _=>0) pickZ trivial covZ selZ ?_
  rintro _ _;refine Ab0 ?_;refine Abb ?_;refine Aac ?_
  focus ((refine' BK _ rfl rfl rfl _; rotate_left; (apply BM; exact rfl; exact rfl)))
  refine AT (hemp b1 b3) rfl rfl rdZ rfl rfl ?_;rintro _ rfl;refine Aa6 ?_;refine Aar ?_;exact A5 ⟨rfl,rfl⟩
 ·have e1:totR d K=(d.length:Int):=if_neg hk0
  have e2:datR d K=maskD d K:=if_neg hk0
  rw [e1,e2]
  have hl0:0<K.length:=List.length_pos_iff.2 hk0
  have hl1:=maskD_len d K
  have hx:=List.getElem?_eq_getElem (show 0<K.length by omega)
  have hy:=List.getElem?_eq_getElem (show K.length-1<K.length by omega)
  have hxa:=hK.at _ (List.getElem_mem (show 0<K.length by omega))
  have hya:=hK.at _ (List.getElem_mem (show K.length-1<K.length by omega))
  obtain ⟨b4,o4,rfl,hrd,x0,x1⟩:=spRow hr hx
  obtain ⟨b5,o5,e5,hrd2,y0,y1⟩:=spRow hr hy
  simp only [Option.some.injEq,Addr.mk.injEq,and_true] at e5
  obtain ⟨rfl,rfl⟩:=e5
  generalize K[0]=xf at hrd x0 x1 hxa
  generalize K[K.length-1]=xl at hrd2 y0 y1 hya
  have hemp:=fun b1 b3 x y=>rcvEmpty_spec b1 b3 se (d.length:Int) (.slice (some ⟨b4,o4,none⟩) K.length c) (maskD d K) x y
  generalize hdat:maskD d K=dat at hl1 hemp
  refine spec_in (cap:=[]) Tryz.func23 rfl rfl Tryz.ntmps23 rfl envZ (fun N β=>?_)
  refine Aa ?_;refine BG (BH rfl) rfl rfl rfl ?_;rintro _ _ ⟨b1,rfl,rfl⟩;refine AP (ρ:=sng b1 _) takeZ ?_
  have cr:=rdB b1 34 [int se,int (d.length:Int),.slice (some ⟨b4,o4,none⟩) K.length c,str dat]
  have cr0:=rdC cr 0
  have cr1:=rdC cr 1
  have cr2:=rdC cr 2
  have cr3:=rdC cr 3
  refine Abo ?_;refine BP ?_;refine Aal ?_;refine BV ?_;refine AN ?_;refine Aal ?_;refine DS ?_;refine Aal ?_;refine BP ?_;refine Aal ?_;refine BV ?_;refine AN ?_;refine AQ ?_;refine Aa7 ?_;refine Aaj ?_;refine AT hc rfl rfl rdZ rfl rfl ?_;rintro _ rfl;refine BA ?_;refine Aal ?_;refine BE ?_;refine CK ?_;refine Aac ?_;refine CK ?_
  focus ((refine' BK _ rfl rfl rfl _; rotate_left; (apply D4; exact rfl; exact rfl; exact rfl)))
  refine Aa7 ?_;refine AC ?_
  refine A9 P2Z [] rfl (by kernel_rfl) Sel.nil ?_
  refine Aai ?_;refine CL ?_;refine E4 ?_;refine Abd ?_;refine CI ?_;refine DR ?_;refine AU ?_;refine ES ?_;refine Abd ?_;refine Aai ?_;refine CL ?_;refine CO ?_;refine CI ?_;refine DI ?_;refine AU ?_;refine Aai ?_;refine DL ?_;refine BY ?_;refine BX ?_;refine Abs ?_;refine AC ?_;refine Aaj ?_
  focus ((refine' BK _ rfl rfl rfl _; rotate_left; (apply BM; exact rfl; exact rfl)))
  refine Aac ?_;refine FH ?_;refine Abl ?_;refine Aa ?_;refine CM ?_; rintro _ _ ⟨b,rfl,rfl⟩;refine BF ?_; rintro _ _ ⟨rfl,rfl⟩;refine AE ?_;refine Aa ?_;refine BN ?_;refine Abo ?_;refine Abr ?_
  revert b; intro b3
  refine BT [0,1,3,4,79,80] (X:=Nat × Nat) (0,0) (fun z=>z.1≤K.length∧z.2≤d.length∧(∀ y∈K.take z.1,y.2≤(z.2:Int))∧(∀ y∈K.drop z.1,(z.2:Int)≤y.1)) (fun z=>[(81,int (z.1:Int))]) (fun z=>[sng b3 (.cells #[int (z.2:Int)] 3 (0,0))]) (fun z=>K.length-z.1) pickZ ⟨Nat.zero_le _,Nat.zero_le _,by simp,fun y hy=>(hK.at y (by simpa using hy)).1⟩ covZ selZ ?_
  rintro ⟨k,x⟩ ⟨hk,hxn,hI1,hI2⟩
  dsimp only at hk hxn hI1 hI2 ⊢
  by_cases hlt:k<K.length
  ·have hkx:=List.getElem?_eq_getElem hlt
   have hka:=hK.at _ (List.getElem_mem hlt)
   obtain ⟨b7,o7,e7,hrd7,z0,z1⟩:=spRow hr hkx
   simp only [Option.some.injEq,Addr.mk.injEq,and_true] at e7
   obtain ⟨rfl,rfl⟩:=e7
   have hgm:=gap_mem hK.1 hkx
   have hdk:K.drop k=K[k]::K.drop (k+1):=List.drop_eq_getElem_cons hlt
   have hnd:NormI (K[k]::K.drop (k+1)):=by rw [← hdk]; exact ⟨fun y hy=>hK.1.1 y (List.mem_of_mem_drop hy),hK.1.2.sublist (List.drop_sublist _ _)⟩
   have hix:=hI2 K[k] (by rw [hdk]; exact List.mem_cons_self)
   have htk:K.take (k+1)=K.take k ++ [K[k]]:=by rw [List.take_add_one,hkx]; rfl
   generalize K[k]=y at hkx hka hrd7 z0 z1 hgm hdk hnd hix htk
   obtain ⟨aa,ha⟩:∃ a:Nat,y.1=(a:Int):=⟨y.1.toNat,by omega⟩
   obtain ⟨ee,he⟩:∃ a:Nat,y.2=(a:Int):=⟨y.2.toNat,by omega⟩
   have hz:=maskD_gap (d:=d) (K:=K) (x:=x) (y:=aa) (by omega) (by omega) (fun t h1 h2=>hgm t (fun w hw=>by have:=hI1 w hw; omega) (by omega))
   rw [hdat] at hz
   have hem:=fun b1 b3=>hemp b1 b3 x aa (by omega) (by omega) (by omega) hz
   rw [ha,he] at hrd7;rw [ha] at z0;rw [he] at z1;refine Ab4 ?_;refine Ac ?_;refine A3 ?_; rintro _ _ ⟨b,rfl,rfl⟩;refine AV ?_; rintro _ _ ⟨rfl,rfl⟩;refine Aam ?_;refine Aaf ?_;refine Aac ?_
   revert b; intro b6
   refine AP (ρ:=sng b6 _) takeZ ?_
   have bx580_3:=rdB b6 50 [int (aa:Int),int (ee:Int)]
   have m0:=rdC bx580_3 0
   have m1:=rdC bx580_3 1
   skip
   refine AT (hem b1 b3) rfl rfl rdZ rfl rfl ?_;rintro _ rfl;refine Aa6 ?_;refine AA ?_;refine Aac ?_;refine BF ?_; rintro _ _ ⟨rfl,rfl⟩;refine AE ?_;refine Ab7 ?_
   refine BB (k+1,ee) ⟨by dsimp only; omega,by dsimp only; omega,fun w hw=>?_,fun w hw=>?_⟩ (by dsimp only; omega) covZ selZ
   ·dsimp only at hw ⊢
    rw [htk] at hw
    rcases List.mem_append.1 hw with hw|hw
    ·have:=hI1 w hw; omega
    ·simp at hw; subst hw; omega
   ·dsimp only at hw ⊢
    have:=hnd.hd.2 w hw
    omega
  ·have hke:k=K.length:=by omega
   subst hke;rw [List.take_length] at hI1
   have hz:=maskD_gap (d:=d) (K:=K) (x:=x) (y:=d.length) (by omega) (Nat.le_refl _) (fun t h1 h2=>by
    cases hm:memI K t with
    | false=>rfl
    | true =>
     obtain ⟨w,hw,g1,g2⟩:=memI_iff.1 hm
     have:=hI1 w hw
     omega)
   rw [hdat] at hz
   have hem:=fun b1 b3=>hemp b1 b3 x d.length (by omega) (by omega) (by omega) hz
   refine Ab0 ?_;refine Abb ?_;refine Aac ?_
   focus ((refine' BK _ rfl rfl rfl _; rotate_left; (apply BM; exact rfl; exact rfl)))
   rw [hl1];refine AT (hem b1 b3) rfl rfl rdZ rfl rfl ?_;rintro _ rfl;refine Aa6 ?_;refine Aar ?_;exact A5 ⟨rfl,rfl⟩
end Go.Proofs.YtcmggofkjcejgaaGreatDoor
namespace Go.Eng
variable {C:Cx} {R H:List PH} {L:Env} {dst:Option Tmp} {ty:TypeId} {pos:String} {aft:Array Edge} {g:Option (Nat × Bool)}
theorem elems_bytes (l:List UInt8):elems (fun b:UInt8=>[Value.int .u8 (b.toNat:Int)]) l=(rowS l).toArray:=by
  unfold elems rowS
  congr 1
  induction l with
  | nil=>rfl
  | cons a l ih=>simp only [List.flatMap_cons,List.map_cons,List.cons_append,List.nil_append,ih]
theorem F4 {x y:Operand} {t e:TypeId} {k1 k2:IntKind} {n:Nat} (hx:evalE L x=some (.int k1 (n:Int))) (hy:evalE L y=some (.int k2 (n:Int))) (ht:elemP C.P t=some e) (hs:szP C.P e=some 1) (hz:zeroP C.P e=some (.int .u8 0)) (hb:bytesP C.P e=some 1) (hn:n≤1000000) :
    Loud C R H L ⟨dst,.makeSlice t x y,ty,pos,aft,g⟩ (fun u H2=>∃ b,u=.slice (some ⟨b,0,none⟩) n n∧H2=sng b (.cells (rowS (List.replicate n 0)).toArray e (0,0))::H):=by
  have:=FP (C:=C) (R:=R) (H:=H) (L:=L) (dst:=dst) (ty:=ty) (pos:=pos) (aft:=aft) (g:=g) (enc:=fun b:UInt8=>[Value.int .u8 (b.toNat:Int)]) (0:UInt8) hx hy ht hs hz hb rfl rfl (by omega) (by omega)
  rwa [elems_bytes] at this
theorem cutP_one {b n i:Nat} (h:i<n):cutP (some ⟨b,0,none⟩) n i 1=some ⟨b,i,none⟩:=by
  unfold cutP
  rw [if_neg (by omega)]
  simp [Addr.add_lit]
end Go.Eng
namespace Go.Step
open Go.Eng
theorem cut_cut {d:List UInt8} {a b f t:Nat} (h1:a≤f) (h2:f≤t) (h3:t≤b):((cutD d a b).drop (f-a)).take ((t-a)-(f-a))=(d.drop f).take (t-f):=by
  unfold cutD
  apply List.ext_getElem?
  intro i
  simp only [List.getElem?_take,List.getElem?_drop]
  by_cases h:i<t-f
  · rw [if_pos (by omega),if_pos (by omega),if_pos h]
    congr 1
    omega
  · rw [if_neg (by omega),if_neg h]
theorem datR_le (d:List UInt8) (K:Iv):(datR d K).length=0∧K=[]∨(datR d K).length=d.length∧K≠[]:=by
  unfold datR
  by_cases h:K=[]
  · rw [if_pos h]; exact .inl ⟨rfl,h⟩
  · rw [if_neg h]; exact .inr ⟨maskD_len d K,h⟩
theorem copy_dat (d:List UInt8) (K:Iv) :
    (rowS (List.replicate d.length 0)).take 0 ++ rowS ((datR d K).take (Nat.min (datR d K).length d.length)) ++ (rowS (List.replicate d.length 0)).drop (0+Nat.min (datR d K).length d.length)=rowS (maskD d K):=by
  by_cases h:K=[]
  · subst h
    have e:datR d []=[]:=rfl
    rw [e,maskD_nil]
    simp [rowS]
  · have e:datR d K=maskD d K:=if_neg h
    rw [e,maskD_len]
    have hm:Nat.min d.length d.length=d.length:=Nat.min_self _
    have ht:(maskD d K).take d.length=maskD d K:=List.take_of_length_le (by rw [maskD_len]; exact Nat.le_refl _)
    rw [hm,ht,List.drop_of_length_le (by rw [rowS_len]; simp)]
    simp
theorem copy_piece {d:List UInt8} {K:Iv} {a b:Nat} (hab:a<b) (hb:b≤d.length) :
    (rowS (maskD d K)).take a ++ rowS ((cutD d a b).take (Nat.min (cutD d a b).length (d.length-a))) ++ (rowS (maskD d K)).drop (a+Nat.min (cutD d a b).length (d.length-a))=rowS (maskD d (unionI K [((a:Int),(b:Int))]))∨¬ NormI K:=by
  by_cases hK:NormI K
  rotate_left
  · exact .inr hK
  refine .inl ?_
  have hl:=cutD_len (Nat.le_of_lt hab) hb
  have hm:Nat.min (cutD d a b).length (d.length-a)=b-a:=by rw [hl]; exact Nat.min_eq_left (by omega)
  have ht:(cutD d a b).take (b-a)=cutD d a b:=List.take_of_length_le (by rw [hl]; exact Nat.le_refl _)
  rw [hm,ht,rowS_take,rowS_drop,← rowS_append,← rowS_append]
  congr 1
  rw [show a+(b-a)=b from by omega]
  have h1:NormI [((a:Int),(b:Int))]:=⟨by simp; omega,List.pairwise_singleton _ _⟩
  refine maskD_put (Nat.le_of_lt hab) hb (fun t=>?_)
  obtain ⟨_,k2,_⟩:=combI_ok (f:=fun x y=>x || y) rfl hK h1
  show memI (combI _ _ _) t=_
  rw [k2,mem_one]
theorem unionI_nil {K:Iv} (h:NormI K):unionI [] K=K:=by
  obtain ⟨k1,k2,_⟩:=combI_ok (f:=fun x y=>x || y) rfl NormI.nil h
  refine normI_ext k1 h (fun t=>?_)
  have:memI (unionI [] K) t=(memI [] t || memI K t):=k2 t
  rw [this]; rfl
theorem unionI_sub {n:Int} {A K:Iv} (hA:InI n A) (hK:InI n K) (h:∀ t,memI A t=true→memI K t=true):unionI A K=K:=by
  obtain ⟨k1,k2,_⟩:=combI_ok (f:=fun x y=>x || y) rfl hA.1 hK.1
  refine normI_ext k1 hK.1 (fun t=>?_)
  have:memI (unionI A K) t=(memI A t || memI K t):=k2 t
  rw [this]
  cases hm:memI A t with
  | false=>rfl
  | true=>rw [h t hm]; rfl
theorem unionI_in {n:Int} {A K:Iv} (hA:InI n A) (hK:InI n K):InI n (unionI A K)∧∀ t,memI (unionI A K) t=(memI A t || memI K t):=by
  obtain ⟨k1,k2,_⟩:=combI_ok (f:=fun x y=>x || y) rfl hA.1 hK.1
  refine ⟨⟨k1,fun t ht=>?_⟩,k2⟩
  have:memI (unionI A K) t=(memI A t || memI K t):=k2 t
  rw [this,Bool.or_eq_true] at ht;exact ht.elim (hA.2 t) (hK.2 t)
end Go.Step
namespace Go.Proofs.YtcmggofkjcejgaaGreatDoor
open Go.Eng Go.Step
set_option maxRecDepth 100000
set_option maxHeartbeats 64000000
theorem snOnes (l:Iv):∀ u∈l.flatMap encS,u.oneCell'=true:=by
 intro u hu
 obtain ⟨x,_,hx⟩:=List.mem_flatMap.1 hu
 simp only [encS,List.mem_cons,List.not_mem_nil,or_false] at hx
 rcases hx with rfl|rfl <;> rfl
theorem cloneSnSp_spec (ρ:PH) (v:Value) (l:List (Int × Int)) (hv:SlE encS 2 ρ v l) (hl:l.length≤1000000) :
  Makes Tryz.prog (fv 28) [v] [ρ] (fun r σ=>OwnS 50 2 r l.length (l.flatMap encS) σ):=by
 have hv2:=hv
 obtain ⟨q,c,rfl,hr⟩:=hv.val encS_len
 refine spec_in (cap:=[]) Tryz.func28 rfl rfl Tryz.ntmps28 rfl envZ (fun N β=>?_)
 cases q with
 | none =>
  have hnil:l=[]:=by
   cases l with
   | nil=>rfl
   | cons a l =>
    obtain ⟨b,o,e,_⟩:=hr 0 a rfl
    simp at e
  subst hnil;refine CV ?_;refine Abz ?_
  focus ((refine' BK _ rfl rfl rfl _; rotate_left; (apply FS; exact rfl; exact rfl; exact rfl)))
  refine Aan ?_;refine Aar ?_;exact AM (res1 rfl rfl) rsubZ selZ ⟨emp,OwnS.nil _ _,rfl⟩
 | some ad =>
  refine Abz ?_
  focus ((refine' BK _ rfl rfl rfl _; rotate_left; (apply FT; exact rfl; exact rfl; exact rfl)))
  refine Aag ?_;refine Aa ?_;refine B0 ?_; rintro _ _ ⟨b,rfl,rfl⟩;refine AD ?_
  refine BG (CP (by_:=16) (s:=2) (σ:=ρ) (news:=l.flatMap encS) (m:=l.length) rfl rfl rfl rfl rfl rfl rfl (OwnS.empty (b:=b)) takeZ hv2 (fun b o h=>cellsR h memZ) (snOnes l) (by simp only [maxLen]; omega) (by omega)) rfl rfl rfl ?_
  rintro r1 _ ⟨σ,hO,rfl⟩;refine Aaa ?_;refine AM (res1 rfl rfl) rsubZ selZ ⟨σ,?_,rfl⟩
  simpa using hO
theorem snOr_spec (x y:Bool):Ans Tryz.prog (fv 121) [.bool x,.bool y] [] (fun r=>r=.bool (x || y)):=by
 refine spec_in (cap:=[]) Tryz.func121 rfl rfl Tryz.ntmps121 rfl envZ (fun N β=>?_)
 cases x <;> cases y
 all_goals
  repeat' (first
   | (refine AD ?_)
   | (refine AB ?_)
   | (refine AQ ?_)
   | (refine AN ?_)
   | (refine AC ?_)
   | (refine AA ?_)
   | (refine AE ?_)
   | (refine AJ rfl rfl rfl ?_)
   | fail)
  exact A5 ⟨rfl,rfl⟩
theorem snAndN_spec (x y:Bool):Ans Tryz.prog (fv 123) [.bool x,.bool y] [] (fun r=>r=.bool (x && !y)):=by
 refine spec_in (cap:=[]) Tryz.func123 rfl rfl Tryz.ntmps123 rfl envZ (fun N β=>?_)
 cases x <;> cases y
 all_goals
  repeat' (first
   | (refine AD ?_)
   | (refine AB ?_)
   | (refine AQ ?_)
   | (refine AN ?_)
   | (refine A4 ?_)
   | (refine AC ?_)
   | (refine AA ?_)
   | (refine AE ?_)
   | (refine AJ rfl rfl rfl ?_)
   | fail)
  exact A5 ⟨rfl,rfl⟩
theorem snUnion_spec (ρ τ:PH) (va vb:Value) (a b:Iv) (ha:SpAt ρ va a) (hb:SpAt τ vb b) (h0a:chkI a=0) (h0b:chkI b=0) (hlen:a.length+b.length≤1000) :
  Makes Tryz.prog (fv 63) [va,vb] [ρ,τ] (fun r σ=>∃ p c,r=.tuple #[.slice p (combI (fun x y=>x || y) a b).length c,int 0]∧OwnS 50 2 (.slice p (combI (fun x y=>x || y) a b).length c) (combI (fun x y=>x || y) a b).length ((combI (fun x y=>x || y) a b).flatMap encS) σ):=by
 have h:=ivCombine_spec ρ τ va vb 121 a b (fun x y=>x || y) ha hb h0a h0b hlen rfl snOr_spec
 obtain ⟨qa,ca,rfl,_⟩:=ha.val encS_len
 obtain ⟨qb,cb,rfl,_⟩:=hb.val encS_len
 refine spec_in (cap:=[]) Tryz.func63 rfl rfl Tryz.ntmps63 rfl envZ (fun N β=>?_)
 refine Aa ?_;refine Aap ?_;refine Aa2 ?_;refine CG h rfl rfl rdZ rfl rfl ?_;rintro _ σ ⟨u,rfl,hO⟩
 obtain ⟨p,c,rfl⟩:=hO.form
 refine Aav ?_;refine Aap ?_;exact AM (res2 rfl rfl rfl) rsubZ selZ ⟨σ,⟨p,c,rfl,hO⟩,rfl⟩
theorem snMinus_spec (ρ τ:PH) (va vb:Value) (a b:Iv) (ha:SpAt ρ va a) (hb:SpAt τ vb b) (h0a:chkI a=0) (h0b:chkI b=0) (hlen:a.length+b.length≤1000) :
  Makes Tryz.prog (fv 68) [va,vb] [ρ,τ] (fun r σ=>∃ p c,r=.tuple #[.slice p (combI (fun x y=>x && !y) a b).length c,int 0]∧OwnS 50 2 (.slice p (combI (fun x y=>x && !y) a b).length c) (combI (fun x y=>x && !y) a b).length ((combI (fun x y=>x && !y) a b).flatMap encS) σ):=by
 have h:=ivCombine_spec ρ τ va vb 123 a b (fun x y=>x && !y) ha hb h0a h0b hlen rfl snAndN_spec
 obtain ⟨qa,ca,rfl,_⟩:=ha.val encS_len
 obtain ⟨qb,cb,rfl,_⟩:=hb.val encS_len
 refine spec_in (cap:=[]) Tryz.func68 rfl rfl Tryz.ntmps68 rfl envZ (fun N β=>?_)
 refine Aa ?_;refine Aap ?_;refine Aa2 ?_;refine CG h rfl rfl rdZ rfl rfl ?_;rintro _ σ ⟨u,rfl,hO⟩
 obtain ⟨p,c,rfl⟩:=hO.form
 refine Aav ?_;refine Aap ?_;exact AM (res2 rfl rfl rfl) rsubZ selZ ⟨σ,⟨p,c,rfl,hO⟩,rfl⟩
theorem rcvNew_spec:Ans Tryz.prog (fv 6) [int 0] [] (fun r=>r=.tuple #[.agg #[int 0,int (-1),.slice none 0 0,str []],int 0]):=by
 refine spec_in (cap:=[]) Tryz.func6 rfl rfl Tryz.ntmps6 rfl envZ (fun N β=>?_)
 refine Aa ?_;refine A3 ?_; rintro _ _ ⟨b,rfl,rfl⟩;refine Aas ?_;refine BP ?_;refine Aak ?_;refine BV ?_;refine Ab2 ?_;refine Aaf ?_;refine CB ?_;refine AV ?_; rintro _ _ ⟨rfl,rfl⟩;refine Aaa ?_;exact AM (resSE (v1:=[int 0,int (-1),.slice none 0 0,str []]) rfl rfl rfl rfl rfl (cells_own memZ)) rsubZ selZ ⟨rfl,rfl⟩
theorem rcvComplete_spec {ρ:PH} {se:Int} {d:List UInt8} {K:Iv} {p:Option Addr} {c:Nat} (hv:SpAt ρ (.slice p K.length c) K) (hK:InI d.length K) (hn1:1≤d.length) (hn:d.length≤990) (hse:0≤se∧se≤1099511627776):Ans Tryz.prog (fv 9) [.agg #[int se,int (totR d K),.slice p K.length c,str (datR d K)]] [ρ] (fun r=>r=.bool (decide (K=[((0:Int),(d.length:Int))]))):=by
 have hc:=rcvChk_spec hv hK hn1 hn hse
 have hKl:=hK.len (by omega)
 obtain ⟨q,cc,e0,hr⟩:=hv.val encS_len
 simp only [Value.slice.injEq] at e0
 obtain ⟨rfl,_,rfl⟩:=e0
 by_cases h1:K.length=1
 rotate_left
 ·rw [decide_eq_false (fun h=>h1 (by rw [h]; rfl))]
  refine spec_in (cap:=[]) Tryz.func9 rfl rfl Tryz.ntmps9 rfl envZ (fun N β=>?_)
  refine Aa ?_;refine CU ?_; rintro _ _ ⟨b,rfl,rfl⟩;refine Aah ?_
  refine A9 (.q 0 (.l 1 .e (.q 2 (.q 3 (.q 4 (.q 5 (.q 6 (.q 7 (.q 8 (.q 9 (.q 10 (.q 11 (.q 12 (.q 13 (.q 14 (.q 15 (.q 16 (.q 17 (.q 18 (.q 19 .nil)))))))))))))))))))) [] rfl (by kernel_rfl) selZ ?_
  refine BO ?_;refine B9 (CJ rfl hc rfl rfl rdZ rfl rfl ?_);rintro _ rfl;refine ET ?_;refine Abd ?_;refine CL ?_;refine EU ?_;refine BX ?_;refine AS ?_;refine Acb ?_;refine BY ?_;refine Aaw ?_
  skip
  exact A5 ⟨rfl,rfl⟩
 obtain ⟨x,rfl⟩:∃ x,K=[x]:=List.length_eq_one_iff.1 h1
 have ht:totR d [x]=(d.length:Int):=rfl
 rw [ht] at hc ⊢
 obtain ⟨b4,o4,rfl,hrd,x0,x1⟩:=spRow hr (i:=0) rfl
 have hcond:decide ([x]=[((0:Int),(d.length:Int))])=decide ([x.1,x.2]=[0,(d.length:Int)]):=by
  rw [decide_eq_decide]
  obtain ⟨x1,x2⟩:=x
  simp
 rw [hcond]
 generalize datR d [x]=dat at hc ⊢
 refine spec_in (cap:=[]) Tryz.func9 rfl rfl Tryz.ntmps9 rfl envZ (fun N β=>?_)
 refine Aa ?_;refine BG (BH rfl) rfl rfl rfl ?_;rintro _ _ ⟨b1,rfl,rfl⟩;refine AP (ρ:=sng b1 _) takeZ ?_
 have cr:=rdB b1 34 [int se,int (d.length:Int),.slice (some ⟨b4,o4,none⟩) [x].length c,str dat]
 have cr0:=rdC cr 0
 have cr1:=rdC cr 1
 have cr2:=rdC cr 2
 have cr3:=rdC cr 3
 refine Aah ?_
 refine A9 (.q 0 (.l 1 .e (.q 2 (.q 3 (.q 4 (.q 5 (.q 6 (.q 7 (.q 8 (.q 9 (.q 10 (.q 11 (.q 12 (.q 13 (.q 14 (.q 15 (.q 16 (.q 17 (.q 18 (.q 19 .nil)))))))))))))))))))) [] rfl (by kernel_rfl) selZ ?_
 refine BO ?_;refine B9 (CJ rfl hc rfl rfl rdZ rfl rfl ?_);rintro _ rfl;refine ET ?_;refine Abd ?_;refine CL ?_;refine ET ?_;refine BX ?_;refine Abd ?_;refine DB ?_;refine BO ?_;refine Aai ?_;refine DC ?_
 focus ((refine' CA rfl _ rfl rfl rfl rfl _; rotate_left; (apply q_eqS [x.1,x.2] [0,(d.length:Int)] (n:=2); exact rfl; exact rfl; kernel_rfl; kernel_rfl; kernel_rfl; exact rfl; exact rfl)))
 refine BX ?_;refine Aaw ?_
 skip
 exact A5 ⟨rfl,rfl⟩
theorem rcvData_spec {ρ:PH} {se:Int} {d:List UInt8} {K:Iv} {p:Option Addr} {c:Nat} (hv:SpAt ρ (.slice p K.length c) K) (hK:InI d.length K) (hn1:1≤d.length) (hn:d.length≤990) (hse:0≤se∧se≤1099511627776) (hw:K=[((0:Int),(d.length:Int))]):Ans Tryz.prog (fv 13) [.agg #[int se,int (totR d K),.slice p K.length c,str (datR d K)]] [ρ] (fun r=>r=.tuple #[str d,int 0]):=by
 have hc:=rcvChk_spec hv hK hn1 hn hse
 have hco:=rcvComplete_spec hv hK hn1 hn hse
 rw [decide_eq_true hw] at hco
 have hdd:datR d K=d:=by
  rw [hw]
  show maskD d _=d
  exact maskD_all (fun i hi=>by rw [mem_one,decide_eq_true_iff]; omega)
 rw [hdd] at hc hco ⊢
 refine spec_in (cap:=[]) Tryz.func13 rfl rfl Tryz.ntmps13 rfl envZ (fun N β=>?_)
 refine Aa ?_;refine BG (BH rfl) rfl rfl rfl ?_;rintro _ _ ⟨b1,rfl,rfl⟩;refine AP (ρ:=sng b1 _) takeZ ?_
 have cr:=rdB b1 34 [int se,int (totR d K),.slice p K.length c,str d]
 have cr0:=rdC cr 0
 have cr1:=rdC cr 1
 have cr2:=rdC cr 2
 have cr3:=rdC cr 3
 refine Ab6 ?_;refine Aaq ?_;refine AT hc rfl rfl rdZ rfl rfl ?_;rintro _ rfl;refine Ab1 ?_;refine Aaq ?_;refine AT hco rfl rfl rdZ rfl rfl ?_;rintro _ rfl;refine Aa6 ?_;refine Aaj ?_;refine Aap ?_;exact AM (res2 rfl rfl rfl) rsubZ selZ ⟨rfl,rfl⟩
end Go.Proofs.YtcmggofkjcejgaaGreatDoor
namespace Go.Eng
variable {L:Env} {R H:List PH}
theorem resSEE {fn:Func} {N:Bs} {M:Nat} {P:Program} {t u u' b1:Nat} {T:TypeId} {v1:List Value} {v2 v3:Value} (hr:fn.results = #[.cell t T,.tmp u,.tmp u']) (ht:look L t=some (.pointer (some ⟨b1,0,none⟩))) (hu:look L u=some v2) (hu':look L u'=some v3) (a1:aggP P T=some true)
    (n1:szP P T=some v1.length) (c1:Cells N R H b1 0 v1):∀ a w,Frm M L a→Sat N R H w→(results fn a.tmps).run P w=.ok (.tuple #[.agg v1.toArray,v2,v3]) w:=by
  intro a w hf hs
  have e1:a.tmps[t]?.getD undef=.pointer (some ⟨b1,0,none⟩):=by simpa using hf.get t _ ht
  have e2:a.tmps[u]?.getD undef=v2:=by simpa using hf.get u _ hu
  have e3:a.tmps[u']?.getD undef=v3:=by simpa using hf.get u' _ hu'
  have l1:=run_loadCells_list (P:=P) (w:=w) ⟨b1,0,none⟩ v1 (fun j v hv=>by rw [Addr.add_lit]; exact c1 w hs j v hv)
  simp [results,hr,e1,e2,e3,loadVar,run_isAgg a1,run_sizeOf n1,l1,asAddr]
end Go.Eng
namespace Go.Proofs.YtcmggofkjcejgaaGreatDoor
open Go.Eng Go.Step
set_option maxRecDepth 100000
set_option maxHeartbeats 64000000
theorem rcvMerged_spec {ρ:PH} {se tot:Int} {d dat:List UInt8} {K:Iv} {p:Option Addr} {c:Nat} {x:Sg} {ck:Bool} (hv:SpAt ρ (.slice p K.length c) K) (hK:InI d.length K) (hn:d.length≤990) (hx:okG d.length x) :
  Makes Tryz.prog (fv 26) [.agg #[int se,int tot,.slice p K.length c,str dat],.agg #[int 1,int se,int x.sr,int (x.a:Int),int (d.length:Int),.bool ck,str (cutD d x.a x.b),.slice none 0 0]] [ρ] (fun r σ=>∃ p c,r=.tuple #[.slice p (unionI K [((x.a:Int),(x.b:Int))]).length c,int 0]∧OwnS 50 2 (.slice p (unionI K [((x.a:Int),(x.b:Int))]).length c) (unionI K [((x.a:Int),(x.b:Int))]).length ((unionI K [((x.a:Int),(x.b:Int))]).flatMap encS) σ):=by
 obtain ⟨h1,h2,h3,h4,h5⟩:=hx
 have hl:=cutD_len (Nat.le_of_lt h1) h2
 have hKl:=hK.len (by omega)
 have h1':InI d.length [((x.a:Int),(x.b:Int))]:=⟨⟨by simp; omega,List.pairwise_singleton _ _⟩,fun t ht=>by rw [mem_one,decide_eq_true_iff] at ht; omega⟩
 have hU:=fun bn=>snUnion_spec ρ (sng bn (.cells #[int (x.a:Int),int (x.b:Int)] 50 (0,0))) _ (.slice (some ⟨bn,0,none⟩) 1 1) K [((x.a:Int),(x.b:Int))] hv (slE_sng (l:=[((x.a:Int),(x.b:Int))]) encS_len) (hK.chk (by omega) (by omega)) (h1'.chk (by omega) (by omega)) (by simp; omega)
 refine spec_in (cap:=[]) Tryz.func26 rfl rfl Tryz.ntmps26 rfl envZ (fun N β=>?_)
 refine Aa ?_;refine BG (BH rfl) rfl rfl rfl ?_;rintro _ _ ⟨br,rfl,rfl⟩;refine AP (ρ:=sng br _) takeZ ?_
 have cr:=rdB br 34 [int se,int tot,.slice p K.length c,str dat]
 have cr0:=rdC cr 0
 have cr1:=rdC cr 1
 have cr2:=rdC cr 2
 have cr3:=rdC cr 3
 refine BG (BH rfl) rfl rfl rfl ?_;rintro _ _ ⟨bx,rfl,rfl⟩;refine AP (ρ:=sng bx _) takeZ ?_
 have cx:=rdB bx 39 [int 1,int se,int x.sr,int (x.a:Int),int (d.length:Int),.bool ck,str (cutD d x.a x.b),.slice none 0 0]
 have cx0:=rdC cx 0
 have cx1:=rdC cx 1
 have cx2:=rdC cx 2
 have cx3:=rdC cx 3
 have cx4:=rdC cx 4
 have cx5:=rdC cx 5
 have cx6:=rdC cx 6
 have cx7:=rdC cx 7
 refine Aap ?_;refine Aaj ?_;refine Aac ?_;refine Aac ?_;refine Aac ?_
 focus ((refine' BK _ rfl rfl rfl _; rotate_left; (apply BM; exact rfl; exact rfl)))
 refine CH ?_;refine CB ?_;refine B0 ?_; rintro _ _ ⟨b,rfl,rfl⟩
 have eb:(x.a:Int)+((cutD d x.a x.b).length:Int)=(x.b:Int):=by omega
 rw [eb]
 skip
 revert b; intro bn
 refine CG (hU bn) rfl rfl rdZ rfl rfl ?_;rintro _ σ ⟨p',c',rfl,hO⟩;refine Aav ?_;refine Aap ?_;exact AM (res2 rfl rfl rfl) rsubZ selZ ⟨σ,⟨p',c',rfl,hO⟩,rfl⟩
theorem rcvSuits1_spec {se tot:Int} {d dat:List UInt8} {K:Iv} {p:Option Addr} {c:Nat} {x:Sg} {ck:Bool} (br bx:Nat) :
  Ans Tryz.prog (.func (.func 59) #[] #[.pointer (some ⟨bx,0,none⟩),.pointer (some ⟨br,0,none⟩)]) [] [sng bx (.cells #[int 1,int se,int x.sr,int (x.a:Int),int (d.length:Int),.bool ck,str (cutD d x.a x.b),.slice none 0 0] 39 (0,0)),sng br (.cells #[int se,int tot,.slice p K.length c,str dat] 34 (0,0))] (fun r=>r=.bool true):=by
 have bx74_3:=rdB bx 39 [int 1,int se,int x.sr,int (x.a:Int),int (d.length:Int),.bool ck,str (cutD d x.a x.b),.slice none 0 0]
 have x0:=rdC bx74_3 0
 have x1:=rdC bx74_3 1
 have bx76_3:=rdB br 34 [int se,int tot,.slice p K.length c,str dat]
 have r0:=rdC bx76_3 0
 refine spec_in (cap:=[.pointer (some ⟨bx,0,none⟩),.pointer (some ⟨br,0,none⟩)]) Tryz.func59 rfl rfl Tryz.ntmps59 rfl envZ (fun N β=>?_)
 refine Aar ?_;refine Aaj ?_;refine B7 ?_;refine Abg ?_;refine B7 ?_;refine Aax ?_;exact A5 ⟨rfl,rfl⟩
theorem rcvSuits2_spec {se tot:Int} {d dat:List UInt8} {K:Iv} {p:Option Addr} {c:Nat} {x:Sg} {ck:Bool} (br bx:Nat) (ht:tot = -1∨tot=(d.length:Int)) :
  Ans Tryz.prog (.func (.func 60) #[] #[.pointer (some ⟨br,0,none⟩),.pointer (some ⟨bx,0,none⟩)]) [] [sng bx (.cells #[int 1,int se,int x.sr,int (x.a:Int),int (d.length:Int),.bool ck,str (cutD d x.a x.b),.slice none 0 0] 39 (0,0)),sng br (.cells #[int se,int tot,.slice p K.length c,str dat] 34 (0,0))] (fun r=>r=.bool true):=by
 have bx99_3:=rdB bx 39 [int 1,int se,int x.sr,int (x.a:Int),int (d.length:Int),.bool ck,str (cutD d x.a x.b),.slice none 0 0]
 have x4:=rdC bx99_3 4
 have bx100_3:=rdB br 34 [int se,int tot,.slice p K.length c,str dat]
 have r1:=rdC bx100_3 1
 refine spec_in (cap:=[.pointer (some ⟨br,0,none⟩),.pointer (some ⟨bx,0,none⟩)]) Tryz.func60 rfl rfl Tryz.ntmps60 rfl envZ (fun N β=>?_)
 by_cases h1:tot = -1
 ·refine AC ?_
  refine AA ?_;refine Aba ?_;refine B7 ?_;refine Abc ?_;refine AJ rfl rfl rfl ?_;refine Aax ?_;exact A5 ⟨rfl,rfl⟩
 ·refine AC ?_
  refine AA ?_;refine Aba ?_;refine CK ?_;refine Abg ?_;refine B7 ?_;refine AN ?_;refine Aaa ?_;exact A5 ⟨rfl,rfl⟩
theorem rcvSuits3_spec {ρ:PH} {se tot:Int} {d dat:List UInt8} {K:Iv} {p:Option Addr} {c:Nat} {x:Sg} {ck:Bool} (hv:SpAt ρ (.slice p K.length c) K) (hK:InI d.length K) (hn:d.length≤990) (hx:okG d.length x) (hd:K≠[]→dat=maskD d K) (br bx:Nat) :
  Ans Tryz.prog (.func (.func 61) #[] #[.pointer (some ⟨br,0,none⟩),.pointer (some ⟨bx,0,none⟩)]) [] [sng bx (.cells #[int 1,int se,int x.sr,int (x.a:Int),int (d.length:Int),.bool ck,str (cutD d x.a x.b),.slice none 0 0] 39 (0,0)),sng br (.cells #[int se,int tot,.slice p K.length c,str dat] 34 (0,0)),ρ] (fun r=>r=.bool true):=by
 obtain ⟨h1,h2,h3,h4,h5⟩:=hx
 have hl:=cutD_len (Nat.le_of_lt h1) h2
 have hKl:=hK.len (by omega)
 obtain ⟨q,cc,e0,hr⟩:=hv.val encS_len
 simp only [Value.slice.injEq] at e0
 obtain ⟨rfl,_,rfl⟩:=e0
 have bx149_3:=rdB bx 39 [int 1,int se,int x.sr,int (x.a:Int),int (d.length:Int),.bool ck,str (cutD d x.a x.b),.slice none 0 0]
 have x3:=rdC bx149_3 3
 have x6:=rdC bx149_3 6
 have bx151_3:=rdB br 34 [int se,int tot,.slice p K.length c,str dat]
 have r2:=rdC bx151_3 2
 have r3:=rdC bx151_3 3
 refine spec_in (cap:=[.pointer (some ⟨br,0,none⟩),.pointer (some ⟨bx,0,none⟩)]) Tryz.func61 rfl rfl Tryz.ntmps61 rfl envZ (fun N β=>?_)
 refine Aa ?_;refine Abo ?_;refine Abr ?_
 refine BT [0,1,2,8,9] (0:Nat) (fun k=>k≤K.length) (fun k=>[(10,int k)]) (fun _=>[]) (fun k=>K.length-k) pickZ (Nat.zero_le _) covZ selZ ?_
 rintro k hk
 by_cases hlt:k<K.length
 rotate_left
 ·have hke:k=K.length:=by omega
  subst hke;refine Ab0 ?_;refine Aar ?_;exact A5 ⟨rfl,rfl⟩
 have hkx:=List.getElem?_eq_getElem hlt
 have hka:=hK.at _ (List.getElem_mem hlt)
 have hmem:=List.getElem_mem hlt
 have hne:K≠[]:=fun h=>by rw [h] at hlt; simp at hlt
 have hdd:=hd hne
 obtain ⟨b7,o7,rfl,hrd7,z0,z1⟩:=spRow hr hkx
 generalize K[k]=y at hkx hka hmem hrd7 z0 z1
 obtain ⟨aa,ha⟩:∃ a:Nat,y.1=(a:Int):=⟨y.1.toNat,by omega⟩
 obtain ⟨ee,he⟩:∃ a:Nat,y.2=(a:Int):=⟨y.2.toNat,by omega⟩
 rw [ha,he] at hrd7;rw [ha] at z0;rw [he] at z1;refine Ab4 ?_;refine Ac ?_;refine A3 ?_; rintro _ _ ⟨b,rfl,rfl⟩;refine AV ?_; rintro _ _ ⟨rfl,rfl⟩;refine Aam ?_
 revert b; intro b6
 refine AP (ρ:=sng b6 _) takeZ ?_
 have bx216_3:=rdB b6 50 [int (aa:Int),int (ee:Int)]
 have m0:=rdC bx216_3 0
 have m1:=rdC bx216_3 1
 refine A9 (.q 0 (.q 1 (.q 2 (.q 3 (.q 4 (.q 5 (.q 6 (.q 7 (.q 8 (.q 9 (.q 10 (.q 11 (.q 12 (.q 13 (.q 14 (.q 15 .nil)))))))))))))))) [] rfl (by kernel_rfl) selZ ?_
 refine Aai ?_;refine Aai ?_;refine zd_max ?_;refine Aai ?_;refine Aai ?_;refine Aai ?_
 focus ((refine' CA rfl _ rfl rfl rfl rfl _; rotate_left; (apply BM; exact rfl; exact rfl)))
 refine EV ?_;refine zd_min ?_;refine Abu ?_
 have eb:(x.a:Int)+((cutD d x.a x.b).length:Int)=(x.b:Int):=by omega
 rw [eb]
 have ef:max (aa:Int) (x.a:Int)=((max aa x.a:Nat):Int):=by omega
 have et:min (ee:Int) (x.b:Int)=((min ee x.b:Nat):Int):=by omega
 rw [ef,et]
 generalize hfv:max aa x.a=f
 generalize htv:min ee x.b=t
 refine AC ?_
 refine A9 (.q 0 (.q 1 (.q 2 (.q 3 (.q 4 (.q 5 (.q 6 (.q 7 (.q 8 (.q 9 (.q 10 (.q 11 (.q 12 (.q 13 (.q 14 (.q 15 (.q 16 (.q 17 (.q 18 (.q 19 (.q 20 (.q 21 .nil)))))))))))))))))))))) [] rfl (by kernel_rfl) selZ ?_
 by_cases hft:f<t
 ·have hcc:=cut_cut (d:=d) (a:=x.a) (b:=x.b) (f:=f) (t:=t) (by omega) (by omega) (by omega)
  have hmp:=maskD_piece (d:=d) (K:=K) (x:=f) (y:=t) (by omega) (by omega) (fun u g1 g2=>memI_iff.2 ⟨y,hmem,by omega,by omega⟩)
  have hlm:=maskD_len d K
  rw [← hdd] at hmp hlm
  have es1:(f:Int)-(x.a:Int)=((f-x.a:Nat):Int):=by omega
  have es2:(t:Int)-(x.a:Int)=((t-x.a:Nat):Int):=by omega
  refine Abx ?_;refine zd_lt ?_;refine Abd ?_;refine Abx ?_
  refine CA rfl (D8 (i:=f) (j:=t) rfl rfl rfl rfl (by omega) (by omega)) rfl rfl rfl rfl ?_
  rw [hmp];refine Aai ?_;refine Abd ?_;refine FE ?_;refine Abd ?_;refine FE ?_;rw [es1]
  skip
  rw [es2]
  refine CA rfl (D8 (i:=f-x.a) (j:=t-x.a) rfl rfl rfl rfl (by omega) (by omega)) rfl rfl rfl rfl ?_
  rw [hcc];refine CA rfl (q_neT rfl rfl) rfl rfl rfl rfl ?_;rw [beq_self_eq_true];refine BX ?_;refine Abs ?_;refine Ab7 ?_
  exact BB (k+1) (by omega) (by omega) covZ selZ
 ·refine AS ?_
  refine AS ?_;refine ES ?_;refine AS ?_;refine Acb ?_;refine Acb ?_;refine AW rfl rfl rfl rfl rfl ?_;refine BY ?_;refine Abs ?_;refine Ab7 ?_
  exact BB (k+1) (by omega) (by omega) covZ selZ
theorem rcvSuits4_spec {ρ:PH} {se tot:Int} {d dat:List UInt8} {K:Iv} {p:Option Addr} {c:Nat} {x:Sg} {ck:Bool} (hv:SpAt ρ (.slice p K.length c) K) (hK:InI d.length K) (hn:d.length≤990) (hx:okG d.length x) (br bx:Nat) :
  Ans Tryz.prog (.func (.func 62) #[] #[.pointer (some ⟨br,0,none⟩),.pointer (some ⟨bx,0,none⟩)]) [] [sng bx (.cells #[int 1,int se,int x.sr,int (x.a:Int),int (d.length:Int),.bool ck,str (cutD d x.a x.b),.slice none 0 0] 39 (0,0)),sng br (.cells #[int se,int tot,.slice p K.length c,str dat] 34 (0,0)),ρ] (fun r=>r=.bool true):=by
 have hm:=rcvMerged_spec (se:=se) (tot:=tot) (dat:=dat) (ck:=ck) hv hK hn hx
 have xw:=rdB bx 39 [int 1,int se,int x.sr,int (x.a:Int),int (d.length:Int),.bool ck,str (cutD d x.a x.b),.slice none 0 0]
 have rw':RdN (sng br (.cells #[int se,int tot,.slice p K.length c,str dat] 34 (0,0))) br 0 [int se,int tot,.slice p K.length c,str dat]:=rdN_sng (vs:=[int se,int tot,.slice p K.length c,str dat])
 refine spec_in (cap:=[.pointer (some ⟨br,0,none⟩),.pointer (some ⟨bx,0,none⟩)]) Tryz.func62 rfl rfl Tryz.ntmps62 rfl envZ (fun N β=>?_)
 refine Aar ?_;refine Aaq ?_;refine AR ?_;refine CG hm rfl rfl rdZ rfl rfl ?_;rintro _ σ ⟨p',c',rfl,hO⟩;refine Ab9 ?_;refine Aaf ?_;refine B7 ?_;refine Aaa ?_;exact A5 ⟨rfl,rfl⟩
theorem rcvSuits_spec {ρ:PH} {se tot:Int} {d dat:List UInt8} {K:Iv} {p:Option Addr} {c:Nat} {x:Sg} {ck:Bool} (hv:SpAt ρ (.slice p K.length c) K) (hK:InI d.length K) (hn:d.length≤990) (hx:okG d.length x) (hd:K≠[]→dat=maskD d K) (ht:tot = -1∨tot=(d.length:Int)) :
  Ans Tryz.prog (fv 25) [.agg #[int se,int tot,.slice p K.length c,str dat],.agg #[int 1,int se,int x.sr,int (x.a:Int),int (d.length:Int),.bool ck,str (cutD d x.a x.b),.slice none 0 0]] [ρ] (fun r=>r=.bool true):=by
 have hs1:=fun br bx=>rcvSuits1_spec (se:=se) (tot:=tot) (d:=d) (dat:=dat) (K:=K) (p:=p) (c:=c) (x:=x) (ck:=ck) br bx
 have hs2:=fun br bx=>rcvSuits2_spec (se:=se) (tot:=tot) (d:=d) (dat:=dat) (K:=K) (p:=p) (c:=c) (x:=x) (ck:=ck) br bx ht
 have hs3:=fun br bx=>rcvSuits3_spec (se:=se) (tot:=tot) (ck:=ck) hv hK hn hx hd br bx
 have hs4:=fun br bx=>rcvSuits4_spec (se:=se) (tot:=tot) (dat:=dat) (ck:=ck) hv hK hn hx br bx
 refine spec_in (cap:=[]) Tryz.func25 rfl rfl Tryz.ntmps25 rfl envZ (fun N β=>?_)
 refine Aa ?_;refine BG (BH rfl) rfl rfl rfl ?_;rintro _ _ ⟨br,rfl,rfl⟩;refine AP (ρ:=sng br _) takeZ ?_
 have cr:=rdB br 34 [int se,int tot,.slice p K.length c,str dat]
 have cr0:=rdC cr 0
 have cr1:=rdC cr 1
 have cr2:=rdC cr 2
 have cr3:=rdC cr 3
 refine BG (BH rfl) rfl rfl rfl ?_;rintro _ _ ⟨bx,rfl,rfl⟩;refine AP (ρ:=sng bx _) takeZ ?_
 have cx:=rdB bx 39 [int 1,int se,int x.sr,int (x.a:Int),int (d.length:Int),.bool ck,str (cutD d x.a x.b),.slice none 0 0]
 have cx0:=rdC cx 0
 have cx1:=rdC cx 1
 have cx2:=rdC cx 2
 have cx3:=rdC cx 3
 have cx4:=rdC cx 4
 have cx5:=rdC cx 5
 have cx6:=rdC cx 6
 have cx7:=rdC cx 7
 refine Aah ?_;refine Aa ?_;refine BN ?_;refine BN ?_;refine BN ?_;refine BN ?_;refine B0 ?_; rintro _ _ ⟨b,rfl,rfl⟩;refine Abr ?_
 revert b; intro bf
 refine AP (ρ:=sng bf _) takeZ ?_
 have bx396_3:=rdB bf 25 [(.func (.func 59) #[] #[.pointer (some ⟨bx,0,none⟩),.pointer (some ⟨br,0,none⟩)]),(.func (.func 60) #[] #[.pointer (some ⟨br,0,none⟩),.pointer (some ⟨bx,0,none⟩)]),(.func (.func 61) #[] #[.pointer (some ⟨br,0,none⟩),.pointer (some ⟨bx,0,none⟩)]),(.func (.func 62) #[] #[.pointer (some ⟨br,0,none⟩),.pointer (some ⟨bx,0,none⟩)])]
 have f0:=rdC bx396_3 0
 have f1:=rdC bx396_3 1
 have f2:=rdC bx396_3 2
 have f3:=rdC bx396_3 3
 refine BT [4,11,12] (0:Nat) (fun k=>k≤4) (fun k=>[(13,int k)]) (fun _=>[]) (fun k=>4-k) pickZ (Nat.zero_le _) covZ selZ ?_
 rintro k hk4
 have hk:k=0∨k=1∨k=2∨k=3∨k=4:=by omega
 rcases hk with hk|hk|hk|hk|hk
 ·subst hk
  refine Ab4 ?_;refine DA ?_;refine AF ?_;refine Abv ?_;refine AT (hs1 br bx) rfl rfl rdZ rfl rfl ?_;rintro _ rfl;refine Aa6 ?_;refine Aa4 ?_
  exact BB 1 (by omega) (by omega) covZ selZ
 ·subst hk
  refine Ab4 ?_;refine DA ?_;refine AF ?_;refine Abv ?_;refine AT (hs2 br bx) rfl rfl rdZ rfl rfl ?_;rintro _ rfl;refine Aa6 ?_;refine Aa4 ?_
  exact BB 2 (by omega) (by omega) covZ selZ
 ·subst hk
  refine Ab4 ?_;refine DA ?_;refine AF ?_;refine Abv ?_;refine AT (hs3 br bx) rfl rfl rdZ rfl rfl ?_;rintro _ rfl;refine Aa6 ?_;refine Aa4 ?_
  exact BB 3 (by omega) (by omega) covZ selZ
 ·subst hk
  refine Ab4 ?_;refine DA ?_;refine AF ?_;refine Abv ?_;refine AT (hs4 br bx) rfl rfl rdZ rfl rfl ?_;rintro _ rfl;refine Aa6 ?_;refine Aa4 ?_
  exact BB 4 (by omega) (by omega) covZ selZ
 ·subst hk
  refine Ab0 ?_;refine Aar ?_;exact A5 ⟨rfl,rfl⟩
theorem rcvHear_spec {ρ:PH} {se:Int} {d:List UInt8} {K:Iv} {p:Option Addr} {c:Nat} {x:Sg} (hv:SpAt ρ (.slice p K.length c) K) (hK:InI d.length K) (hn1:1≤d.length) (hn:d.length≤990) (hse:0≤se∧se≤1099511627776) (hx:okG d.length x) :
    Eng.Spec Tryz.prog (fv 7) [.agg #[int se,int (totR d K),.slice p K.length c,str (datR d K)],.agg #[int 1,int se,int x.sr,int (x.a:Int),int (d.length:Int),.bool (decide (1≤x.sr)),str (cutD d x.a x.b),.slice none 0 0]] [ρ] [] (fun r H'=>∃ p1 c1 σ1,OwnS 50 2 (.slice p1 (unionI K [((x.a:Int),(x.b:Int))]).length c1) (unionI K [((x.a:Int),(x.b:Int))]).length ((unionI K [((x.a:Int),(x.b:Int))]).flatMap encS) σ1 ∧
      ((¬ 1≤x.sr∧r=.tuple #[.agg #[int se,int (d.length:Int),.slice p1 (unionI K [((x.a:Int),(x.b:Int))]).length c1,str (maskD d (unionI K [((x.a:Int),(x.b:Int))]))],.slice none 0 0,int 0]∧H'=[σ1]) ∨
       (1≤x.sr∧∃ p2 c2 σ2 bn,OwnS 50 2 (.slice p2 (unionI K [((x.a:Int),(x.b:Int))]).length c2) (unionI K [((x.a:Int),(x.b:Int))]).length ((unionI K [((x.a:Int),(x.b:Int))]).flatMap encS) σ2∧r=.tuple #[.agg #[int se,int (d.length:Int),.slice p1 (unionI K [((x.a:Int),(x.b:Int))]).length c1,str (maskD d (unionI K [((x.a:Int),(x.b:Int))]))],.slice (some ⟨bn,0,none⟩) 1 1,int 0]∧H'=[sng bn (.cells #[int 2,int se,int x.sr,int 0,int (d.length:Int),.bool false,str [],.slice p2 (unionI K [((x.a:Int),(x.b:Int))]).length c2] 39 (0,0)),σ2,σ1]))):=by
  have hc:=rcvChk_spec hv hK hn1 hn hse
  have hsg:=segChk_spec hx (by omega) hse
  have ht:totR d K = -1∨totR d K=(d.length:Int):=by unfold totR; split <;> simp
  have hd:K≠[]→datR d K=maskD d K:=fun h=>if_neg h
  have hsu:=rcvSuits_spec (se:=se) (tot:=totR d K) (dat:=datR d K) (ck:=decide (1≤x.sr)) hv hK hn hx hd ht
  have hme:=rcvMerged_spec (se:=se) (tot:=totR d K) (dat:=datR d K) (ck:=decide (1≤x.sr)) hv hK hn hx
  have hcd:=copy_dat d K
  have hcp:=copy_piece (d:=d) (K:=K) hx.1 hx.2.1
  have hcp:=hcp.resolve_right (fun h=>h hK.1)
  obtain ⟨hKU,_,hKne⟩:=hK.put (a:=(x.a:Int)) (b:=(x.b:Int)) (by omega) (by have:=hx.1; omega) (by have:=hx.2.1; omega)
  have hdl:=datR_le d K
  have hml:=maskD_len d K
  have hml2:=maskD_len d (unionI K [((x.a:Int),(x.b:Int))])
  have hKUl:=hKU.len (by omega)
  obtain ⟨h1,h2,h3,h4,h5⟩:=hx
  have hl:=cutD_len (Nat.le_of_lt h1) h2
  generalize hck:decide (1≤x.sr)=ck at hsg hsu hme ⊢
  refine spec_in (cap:=[]) Tryz.func7 rfl rfl Tryz.ntmps7 rfl envZ (fun N β=>?_)
  refine Aa ?_;refine BG (BH rfl) rfl rfl rfl ?_;rintro _ _ ⟨b2,rfl,rfl⟩;refine BG (BH rfl) rfl rfl rfl ?_;rintro _ _ ⟨b3,rfl,rfl⟩;refine AP (ρ:=sng b3 _) takeZ ?_
  have cx:=rdB b3 39 [int 1,int se,int x.sr,int (x.a:Int),int (d.length:Int),.bool ck,str (cutD d x.a x.b),.slice none 0 0]
  have cx0:=rdC cx 0
  have cx1:=rdC cx 1
  have cx2:=rdC cx 2
  have cx3:=rdC cx 3
  have cx4:=rdC cx 4
  have cx5:=rdC cx 5
  have cx6:=rdC cx 6
  have cx7:=rdC cx 7
  refine A3 ?_; rintro _ _ ⟨b,rfl,rfl⟩;refine Ab6 ?_;refine Aaq ?_
  revert b; intro b4
  refine AT hc rfl rfl rdZ rfl rfl ?_;rintro _ rfl;refine BA ?_;refine AD ?_;refine AR ?_;refine AT hsg rfl rfl rdZ rfl rfl ?_;rintro _ rfl;refine BA ?_;refine Aa7 ?_;refine Aaq ?_;refine AR ?_;refine AT hsu rfl rfl rdZ rfl rfl ?_;rintro _ rfl;refine Aa6 ?_;refine Aaq ?_;refine AR ?_;refine CG hme rfl rfl rdZ rfl rfl ?_;rintro _ σ1 ⟨p1,c1,rfl,hO1⟩;refine Ab9 ?_;refine Aaj ?_
  refine BG (F4 rfl rfl rfl rfl rfl rfl (by omega)) rfl rfl rfl ?_
  rintro _ _ ⟨b9,rfl,rfl⟩;refine Abv ?_;refine Aac ?_
  refine BG (EW (o:=0) (dl:=d.length) (l:=datR d K) rfl rfl rfl rfl takeZ (by rw [List.size_toArray,rowS_len,List.length_replicate,Nat.zero_add]; exact Nat.min_le_right _ _)) rfl rfl rfl ?_
  rintro _ _ ⟨rfl,rfl⟩;rw [List.toList_toArray,hcd];refine Aam ?_
  have ec:cutP (some ⟨b9,0,none⟩) d.length x.a 1=some ⟨b9,x.a,none⟩:=cutP_one (by omega)
  refine A9 (.q 0 (.q 1 (.q 2 (.q 3 (.q 4 (.q 5 (.l 6 .b .nil))))))) [] rfl (by kernel_rfl) Sel.nil ?_
  refine Abd ?_;refine E6 ?_;refine Aai ?_
  refine B9 (a_b rfl (EW (b:=b9) (o:=x.a) (dl:=d.length-x.a) (dc:=d.length-x.a) (l:=cutD d x.a x.b) (by show some (Value.slice (cutP (some ⟨b9,0,none⟩) d.length x.a 1) _ _)=_; rw [ec]) rfl rfl rfl takeZ (by
    rw [List.size_toArray,rowS_len,hml]
    have:Nat.min (cutD d x.a x.b).length (d.length-x.a)≤d.length-x.a:=Nat.min_le_right _ _
    omega)) rfl rfl rfl (fun _ _ _ w hw=>hw.sel Sel.nil) ?_)
  rintro _ _ ⟨rfl,rfl⟩;rw [List.toList_toArray,hcp];refine A7 ?_;refine AC ?_
  refine A9 (.q 0 (.q 1 (.p 2 (.p 3 (.p 4 (.q 5 (.l 6 .b (.q 7 (.l 8 .b (.q 9 (.l 10 .b .nil))))))))))) [sng b9 _] rfl (by kernel_rfl) selZ ?_
  refine Aai ?_;refine EQ ?_;refine EQ ?_
  refine FO rfl (q_b2s (l:=maskD d (unionI K [((x.a:Int),(x.b:Int))])) (b:=b9) (o:=0) (by rw [hml2]; exact rfl) (cells_own memZ) rfl rfl rfl) rfl rfl rfl ?_
  refine AX ?_;refine CF ?_; rintro _ _ ⟨rfl,rfl⟩;refine AX ?_;refine CF ?_; rintro _ _ ⟨rfl,rfl⟩;refine AX ?_;refine CF ?_; rintro _ _ ⟨rfl,rfl⟩;refine A7 ?_;refine AC ?_;refine Aaj ?_;refine A4 ?_;refine AE ?_;refine AP (ρ:=sng b2 (.cells #[int se,int (d.length:Int),.slice p1 (unionI K [((x.a:Int),(x.b:Int))]).length c1,str (maskD d (unionI K [((x.a:Int),(x.b:Int))]))] 34 (0,0))) takeZ ?_
  have cr:=rdB b2 34 [int se,int (d.length:Int),.slice p1 (unionI K [((x.a:Int),(x.b:Int))]).length c1,str (maskD d (unionI K [((x.a:Int),(x.b:Int))]))]
  have cr0:=rdC cr 0
  have cr1:=rdC cr 1
  cases ck with
  | false =>
    have hs:¬ 1≤x.sr:=of_decide_eq_false hck
    refine A2 rfl ?_;refine Aaq ?_;refine AV ?_; rintro _ _ ⟨rfl,rfl⟩;refine Aap ?_;exact AM (H':=[σ1]) (resSEE (b1:=b4) (T:=34) (v1:=[int se,int (d.length:Int),.slice p1 (unionI K [((x.a:Int),(x.b:Int))]).length c1,str (maskD d (unionI K [((x.a:Int),(x.b:Int))]))]) rfl rfl rfl rfl rfl rfl (cells_own memZ)) rsubZ selZ ⟨p1,c1,σ1,hO1,.inl ⟨hs,rfl,rfl⟩⟩
  | true =>
    have hs:1≤x.sr:=of_decide_eq_true hck
    refine Aae ?_;refine AC ?_
    refine EF (X:=Nat × Option Addr × Nat × PH) [2,4] (fun z=>OwnS 50 2 (.slice z.2.1 (unionI K [((x.a:Int),(x.b:Int))]).length z.2.2.1) (unionI K [((x.a:Int),(x.b:Int))]).length ((unionI K [((x.a:Int),(x.b:Int))]).flatMap encS) z.2.2.2) (fun z=>[(10,.pointer (some ⟨z.1,0,none⟩)),(11,int 0)]) (fun z=>[sng z.1 (.cells #[int 2,int se,int x.sr,int 0,int (d.length:Int),.bool false,str [],.slice z.2.1 (unionI K [((x.a:Int),(x.b:Int))]).length z.2.2.1] 39 (0,0)),z.2.2.2,sng b4 (.cells #[int 0,int 0,.slice none 0 0,str []] 34 (0,0)),σ1]) pickZ ?_ ?_
    · refine A9 (.q 0 (.q 1 (.q 2 (.q 3 (.q 4 (.q 5 (.q 6 (.l2 7 .e (.l2 8 .e (.q 9 (.q 10 (.p 11 (.l 12 .e (.l 13 .b (.q 14 .nil)))))) 12 .e (.l 8 .e (.q 9 (.q 10 (.p 11 (.l 13 .b (.q 14 .nil))))))) 12 .e (.l 7 .e (.l 8 .e (.q 9 (.q 10 (.p 11 (.l 13 .b (.q 14 .nil))))))))))))))) [] rfl (by kernel_rfl) Sel.nil ?_
      repeat' (first
        | (refine AS ?_)
        | (refine AU ?_)
        | (refine AX ?_)
        | (refine EA ?_ ?_)
        | (refine CR ?_; rintro _ _ ⟨b,rfl,rfl⟩)
        | fail)
      · refine BW rfl (cloneSnSp_spec σ1 _ (unionI K [((x.a:Int),(x.b:Int))]) hO1.at (by omega)) rfl rfl rdZ rfl rfl ?_
        rintro _ _ ⟨σ2,hO2,rfl⟩
        obtain ⟨p2,c2,rfl⟩:=hO2.form
        repeat' (first
          | (refine EA ?_ ?_)
          | (refine CR ?_; rintro _ _ ⟨b,rfl,rfl⟩)
          | fail)
        · refine CJ rfl (segClaim_spec (se:=se) (sr:=x.sr) (n:=d.length) hO2.at hKU hn1 (by omega) hs h5 hse) rfl rfl rdZ rfl rfl ?_
          rintro _ rfl;refine AS ?_;refine Abp ?_;refine C1 ?_; rintro _ _ ⟨b,rfl,rfl⟩
          revert b; intro b10
          refine B9 ?_;refine' DG rfl _ rfl rfl _ _
          rotate_left
          · apply BL; exact rfl; exact rfl; exact takeZ; exact oneZ; exact rfl; exact rfl
          · rintro _ _ ⟨_,rfl⟩ w hw; exact hw.sel Sel.nil
          rintro _ _ ⟨rfl,rfl⟩;refine Aaw ?_
          skip
          exact CD (b10,p2,c2,σ2) hO2 covZ selZ
        · revert b; intro b10
          refine B9 (CJ rfl (segClaim_spec (se:=se) (sr:=x.sr) (n:=d.length) hO2.at hKU hn1 (by omega) hs h5 hse) rfl rfl rdZ rfl rfl ?_)
          rintro _ rfl;refine AS ?_;refine Abp ?_;refine B9 ?_;refine' DG rfl _ rfl rfl _ _
          rotate_left
          · apply BL; exact rfl; exact rfl; exact takeZ; exact oneZ; exact rfl; exact rfl
          · rintro _ _ ⟨_,rfl⟩ w hw; exact hw.sel Sel.nil
          rintro _ _ ⟨rfl,rfl⟩;refine Aaw ?_
          skip
          exact CD (b10,p2,c2,σ2) hO2 covZ selZ
      · revert b; intro b10
        refine B9 (BW rfl (cloneSnSp_spec σ1 _ (unionI K [((x.a:Int),(x.b:Int))]) hO1.at (by omega)) rfl rfl rdZ rfl rfl ?_)
        rintro _ _ ⟨σ2,hO2,rfl⟩
        obtain ⟨p2,c2,rfl⟩:=hO2.form
        skip
        refine B9 (CJ rfl (segClaim_spec (se:=se) (sr:=x.sr) (n:=d.length) hO2.at hKU hn1 (by omega) hs h5 hse) rfl rfl rdZ rfl rfl ?_)
        rintro _ rfl;refine AS ?_;refine Abp ?_;refine B9 ?_;refine' DG rfl _ rfl rfl _ _
        rotate_left
        · apply BL; exact rfl; exact rfl; exact takeZ; exact oneZ; exact rfl; exact rfl
        · rintro _ _ ⟨_,rfl⟩ w hw; exact hw.sel Sel.nil
        rintro _ _ ⟨rfl,rfl⟩;refine Aaw ?_
        skip
        exact CD (b10,p2,c2,σ2) hO2 covZ selZ
    rintro ⟨b10,p2,c2,σ2⟩ hO2
    dsimp only at hO2 ⊢
    refine AP (ρ:=sng b10 (.cells #[int 2,int se,int x.sr,int 0,int (d.length:Int),.bool false,str [],.slice p2 (unionI K [((x.a:Int),(x.b:Int))]).length c2] 39 (0,0))) takeZ ?_
    have cp:=rdB b10 39 [int 2,int se,int x.sr,int 0,int (d.length:Int),.bool false,str [],.slice p2 (unionI K [((x.a:Int),(x.b:Int))]).length c2]
    refine Abb ?_;refine Ab1 ?_
    refine A9 (.q 0 (.p 1 (.l2 2 .e (.l 3 .b (.q 4 (.q 5 .nil))) 3 .b (.l 2 .e (.q 4 (.q 5 .nil)))))) [] rfl (by kernel_rfl) Sel.nil ?_
    have hfl:Flat [.agg #[int 2,int se,int x.sr,int 0,int (d.length:Int),.bool false,str [],.slice p2 (unionI K [((x.a:Int),(x.b:Int))]).length c2]] [int 2,int se,int x.sr,int 0,int (d.length:Int),.bool false,str [],.slice p2 (unionI K [((x.a:Int),(x.b:Int))]).length c2]:=Flat.agg (ws:=[int 2,int se,int x.sr,int 0,int (d.length:Int),.bool false,str [],.slice p2 (unionI K [((x.a:Int),(x.b:Int))]).length c2]) Flat.nil
    repeat' (first
      | (refine BO ?_)
      | (refine E5 ?_)
      | (refine EA ?_ ?_)
      | fail)
    · refine a_e rfl (B8 (cs:=[int 2,int se,int x.sr,int 0,int (d.length:Int),.bool false,str [],.slice p2 (unionI K [((x.a:Int),(x.b:Int))]).length c2]) rfl rfl rfl rfl rfl oneZ hfl rfl) rfl rfl rfl (by rintro _ _ ⟨b,rfl,rfl⟩ w hw; exact hw.tail) ?_
      rintro _ _ ⟨bn,rfl,rfl⟩
      skip
      refine B9 ?_;refine' DG rfl _ rfl rfl _ _
      rotate_left
      · apply BL; exact rfl; exact rfl; exact takeZ; exact oneZ; exact rfl; exact rfl
      · rintro _ _ ⟨_,rfl⟩ w hw; exact hw.sel Sel.nil
      rintro _ _ ⟨rfl,rfl⟩;refine Abu ?_
      skip
      exact AM (H':=[sng bn (.cells #[int 2,int se,int x.sr,int 0,int (d.length:Int),.bool false,str [],.slice p2 (unionI K [((x.a:Int),(x.b:Int))]).length c2] 39 (0,0)),σ2,σ1]) (resSEE (b1:=b4) (T:=34) (v1:=[int se,int (d.length:Int),.slice p1 (unionI K [((x.a:Int),(x.b:Int))]).length c1,str (maskD d (unionI K [((x.a:Int),(x.b:Int))]))]) rfl rfl rfl rfl rfl rfl (cells_own memZ)) rsubZ selZ ⟨p1,c1,σ1,hO1,.inr ⟨hs,p2,c2,σ2,bn,hO2,rfl,rfl⟩⟩
    · refine' DG rfl _ rfl rfl _ _
      rotate_left
      · apply BL; exact rfl; exact rfl; exact takeZ; exact oneZ; exact rfl; exact rfl
      · rintro _ _ ⟨_,rfl⟩ w hw; exact hw.sel Sel.nil
      rintro _ _ ⟨rfl,rfl⟩
      skip
      refine B9 (a_e rfl (B8 (cs:=[int 2,int se,int x.sr,int 0,int (d.length:Int),.bool false,str [],.slice p2 (unionI K [((x.a:Int),(x.b:Int))]).length c2]) rfl rfl rfl rfl rfl oneZ hfl rfl) rfl rfl rfl (by rintro _ _ ⟨b,rfl,rfl⟩ w hw; exact hw.tail) ?_)
      rintro _ _ ⟨bn,rfl,rfl⟩;refine Abu ?_
      skip
      exact AM (H':=[sng bn (.cells #[int 2,int se,int x.sr,int 0,int (d.length:Int),.bool false,str [],.slice p2 (unionI K [((x.a:Int),(x.b:Int))]).length c2] 39 (0,0)),σ2,σ1]) (resSEE (b1:=b4) (T:=34) (v1:=[int se,int (d.length:Int),.slice p1 (unionI K [((x.a:Int),(x.b:Int))]).length c1,str (maskD d (unionI K [((x.a:Int),(x.b:Int))]))]) rfl rfl rfl rfl rfl rfl (cells_own memZ)) rsubZ selZ ⟨p1,c1,σ1,hO1,.inr ⟨hs,p2,c2,σ2,bn,hO2,rfl,rfl⟩⟩
end Go.Proofs.YtcmggofkjcejgaaGreatDoor
namespace Go.Flow
structure Arc where
  f:Int
  t:Int
  c:Int
  deriving DecidableEq,Inhabited
def okArc (n:Int) (a:Arc):Bool:=decide (0≤a.f∧a.f<n∧0≤a.t∧a.t<n∧a.f≠a.t∧0≤a.c∧a.c≤1099511627776)
def chk (n:Int) (l:List Arc):Int:=if n<0 then 2 else if 2000<n∨20000<l.length then 4 else if l.all (okArc n) then 0 else 2
def okEnds (n s t:Int):Bool:=decide (0≤s∧s<n∧0≤t∧t<n∧s≠t)
theorem okArc_iff {n:Int} {a:Arc}:okArc n a=true↔(0≤a.f∧a.f<n∧0≤a.t∧a.t<n∧a.f≠a.t∧0≤a.c∧a.c≤1099511627776):=by unfold okArc; rw [decide_eq_true_eq]
theorem okEnds_iff {n s t:Int}:okEnds n s t=true↔(0≤s∧s<n∧0≤t∧t<n∧s≠t):=by unfold okEnds; rw [decide_eq_true_eq]
theorem chk_ok {n:Int} {l:List Arc} (h:chk n l=0):0≤n∧n≤2000∧l.length≤20000∧∀ a∈l,okArc n a=true:=by
  unfold chk at h
  split at h
  · simp at h
  · split at h
    · simp at h
    · split at h
      · rename_i h3
        rw [List.all_eq_true] at h3
        exact ⟨by omega,by omega,by omega,h3⟩
      · simp at h
def fval (v:Int):List Arc→List Int→Int
  | a::l,x::fl=>((if a.f=v then x else 0)-(if a.t=v then x else 0))+fval v l fl
  | _,_=>0
def inCap:List Arc→List Int→Bool
  | a::l,x::fl=>decide (0≤x∧x≤a.c) && inCap l fl
  | _,_=>true
theorem inCap_get:∀ (l:List Arc) (fl:List Int),inCap l fl=true→∀ (i:Nat) (a:Arc) (x:Int),l[i]?=some a→fl[i]?=some x→0≤x∧x≤a.c
  | [],_,_,i,a,x,h1,_=>by simp at h1
  | _::_,[],_,i,a,x,_,h2=>by simp at h2
  | b::l,y::fl,h,i,a,x,h1,h2=>by
    simp only [inCap,Bool.and_eq_true,decide_eq_true_eq] at h
    cases i with
    | zero=>simp at h1 h2; subst h1; subst h2; exact h.1
    | succ i=>simp at h1 h2; exact inCap_get l fl h.2 i a x h1 h2
def balanced (n:Nat) (l:List Arc) (fl:List Int) (s t:Int):Bool:=(List.range n).all (fun (v:Nat)=>decide ((v:Int)=s∨(v:Int)=t∨fval (v:Int) l fl=0))
def valueSpec (n:Int) (l:List Arc) (fl:List Int) (s t:Int):Int × Int:=
  if chk n l≠0 then (0,chk n l) else if okEnds n s t=false then (0,2) else if fl.length≠l.length then (0,10) else if inCap l fl=false then (0,2)
  else if balanced n.toNat l fl s t=false then (0,24) else (fval s l fl,0)
def capOf (p:Nat→Bool):List Arc→Int
  | []=>0
  | a::l=>(if p a.f.toNat=true∧p a.t.toNat=false then a.c else 0)+capOf p l
end Go.Flow
namespace Go.Flow
def leastR (rm:Nat→Int) (p:List Lk):Int:=p.foldl (fun m x=>min m (rm x.k)) 1099511627776
def rmR (l:List Arc) (fl:List Int) (k:Nat):Int:=if k % 2=0 then (l.getD (k / 2) default).c-fl.getD (k / 2) 0 else fl.getD (k / 2) 0
def rlFrom:Nat→List Arc→List Lk
  | _,[]=>[]
  | i,a::l=>⟨2*i,a.f.toNat,a.t.toNat⟩::⟨2*i+1,a.t.toNat,a.f.toNat⟩::rlFrom (i+1) l
def rlinks (l:List Arc):List Lk:=rlFrom 0 l
theorem rlFrom_mem {n:Nat}:∀ (l:List Arc) (i:Nat),(∀ a∈l,okArc n a=true)→∀ x∈rlFrom i l,x.f<n∧x.t<n∧x.k<2*(i+l.length)
  | [],_,_,x,hx=>by simp [rlFrom] at hx
  | a::l,i,hok,x,hx=>by
    have ha:=okArc_iff.1 (hok a (by simp))
    simp only [rlFrom,List.mem_cons,List.length_cons] at hx ⊢
    rcases hx with rfl|rfl|hx
    · exact ⟨by simp only; omega,by simp only; omega,by simp only; omega⟩
    · exact ⟨by simp only; omega,by simp only; omega,by simp only; omega⟩
    · have:=rlFrom_mem l (i+1) (fun b hb=>hok b (by simp [hb])) x hx
      exact ⟨this.1,this.2.1,by omega⟩
theorem rlinks_mem {n:Nat} {l:List Arc} (hok:∀ a∈l,okArc n a=true) {x:Lk} (hx:x∈rlinks l):x.f<n∧x.t<n∧x.k<2*l.length:=by
  have:=rlFrom_mem l 0 hok x hx
  simpa using this
end Go.Flow
namespace Go.Flow
def opn (ls:List Lk) (rm:Nat→Int) (x:Lk):Prop:=x∈ls∧0<rm x.k
inductive Chn (E:Lk→Prop):Nat→List Lk→Nat→Prop
  | nil {v:Nat}:Chn E v [] v
  | cons {x:Lk} {v:Nat} {p:List Lk} {u:Nat}:x.f=v→E x→Chn E x.t p u→Chn E v (x::p) u
theorem Chn.mono {E E':Lk→Prop} (h:∀ x,E x→E' x) {v u:Nat} {p:List Lk} (hc:Chn E v p u):Chn E' v p u:=by
  induction hc with
  | nil=>exact .nil
  | cons h1 h2 _ ih=>exact .cons h1 (h _ h2) ih
theorem Chn.all {E:Lk→Prop} {v u:Nat} {p:List Lk} (hc:Chn E v p u):∀ x∈p,E x:=by
  induction hc with
  | nil=>simp
  | cons _ h2 _ ih=>intro y hy; simp at hy; rcases hy with rfl|hy; exact h2; exact ih y hy
section
variable {n t:Nat} {ls:List Lk} {rm:Nat→Int} {D:List Int}
theorem nxt_some (hls:∀ x∈ls,x.f<n∧x.t<n) (hD:IsDist n t (opn ls rm) D) {v:Nat} (hv:v<n) (hd:0<D.getD v 0) :
    ∃ x,nxt ls rm D v=some x∧x.f=v∧opn ls rm x∧D.getD x.t 0=D.getD v 0-1:=by
  obtain ⟨y,hy,hyf,hyt⟩:=hD.step v hv hd
  cases e:nxt ls rm D v with
  | none =>
    unfold nxt at e;rw [List.find?_eq_none] at e
    have:=e y hy.1
    exact absurd (by rw [Bool.and_eq_true,Bool.and_eq_true,decide_eq_true_eq,decide_eq_true_eq,near,decide_eq_true_eq]; exact ⟨⟨hy.2,hyf⟩,hyt⟩) this
  | some x =>
    have hm:=List.mem_of_find?_eq_some e
    have hp:=List.find?_some e
    simp only [Bool.and_eq_true,decide_eq_true_eq,near] at hp;exact ⟨x,rfl,hp.1.2,⟨hm,hp.1.1⟩,hp.2⟩
theorem path_chn (hls:∀ x∈ls,x.f<n∧x.t<n) (hD:IsDist n t (opn ls rm) D):∀ (k:Nat) (v:Nat),v<n→D.getD v 0=(k:Int) →
    Chn (fun x=>opn ls rm x∧D.getD x.t 0=D.getD x.f 0-1∧D.getD x.f 0≤k) v (pathD (nxt ls rm D) D v) t:=by
  intro k
  induction k with
  | zero =>
    intro v hv h
    have:=hD.zero v hv h
    subst this
    rw [pathD_end (by omega)]
    exact .nil
  | succ k ih =>
    intro v hv h
    obtain ⟨x,hx,hf,ho,hn⟩:=nxt_some hls hD hv (by omega)
    rw [pathD_step hx (by omega) hn]
    have h2:=ih x.t (hls x ho.1).2 (by rw [hn,h]; omega)
    exact .cons hf ⟨ho,by rw [hf]; exact hn,by rw [hf]; omega⟩ (h2.mono (fun y hy=>⟨hy.1,hy.2.1,by have:=hy.2.2; omega⟩))
theorem path_sorted (hls:∀ x∈ls,x.f<n∧x.t<n) (hD:IsDist n t (opn ls rm) D):∀ (k:Nat) (v:Nat),v<n→D.getD v 0=(k:Int) →
    (pathD (nxt ls rm D) D v).Pairwise (fun x y=>D.getD y.f 0<D.getD x.f 0):=by
  intro k
  induction k with
  | zero =>
    intro v hv h
    rw [pathD_end (by omega)]
    exact List.Pairwise.nil
  | succ k ih =>
    intro v hv h
    obtain ⟨x,hx,hf,ho,hn⟩:=nxt_some hls hD hv (by omega)
    rw [pathD_step hx (by omega) hn]
    have hxt:=(hls x ho.1).2
    refine List.pairwise_cons.2 ⟨fun y hy=>?_,ih x.t hxt (by rw [hn,h]; omega)⟩
    have:=((path_chn hls hD k x.t hxt (by rw [hn,h]; omega)).all y hy).2.2
    rw [hf]; omega
end
/-! ### links of the residual graph -/
theorem fval_set (v:Int):∀ (l:List Arc) (fl:List Int) (i:Nat) (a:Arc) (y:Int),l[i]?=some a→l.length=fl.length →
    fval v l (fl.set i y)=fval v l fl+((if a.f=v then y-fl.getD i 0 else 0)-(if a.t=v then y-fl.getD i 0 else 0))
  | [],_,i,a,y,h,_=>by simp at h
  | b::l,[],i,a,y,_,h=>by simp at h
  | b::l,x::fl,i,a,y,h,hl=>by
    cases i with
    | zero =>
      simp at h; subst h
      simp only [List.set_cons_zero,fval,List.getD_cons_zero]
      split <;> split <;> omega
    | succ i =>
      simp only [List.set_cons_succ,fval,List.getD_cons_succ]
      rw [fval_set v l fl i a y (by simpa using h) (by simpa using hl)]
      omega
theorem inCap_set:∀ (l:List Arc) (fl:List Int) (i:Nat) (a:Arc) (y:Int),l[i]?=some a→inCap l fl=true→0≤y→y≤a.c→inCap l (fl.set i y)=true
  | [],_,i,a,y,h,_,_,_=>by simp at h
  | b::l,[],i,a,y,_,h,_,_=>by simp [inCap]
  | b::l,x::fl,i,a,y,h,hc,h1,h2=>by
    simp only [inCap,Bool.and_eq_true,decide_eq_true_eq] at hc
    cases i with
    | zero =>
      simp at h; subst h
      simp only [List.set_cons_zero,inCap,Bool.and_eq_true,decide_eq_true_eq];exact ⟨⟨h1,h2⟩,hc.2⟩
    | succ i =>
      simp only [List.set_cons_succ,inCap,Bool.and_eq_true,decide_eq_true_eq]
      exact ⟨hc.1,inCap_set l fl i a y (by simpa using h) hc.2 h1 h2⟩
def augR (room:Int) (fl:List Int) (x:Lk):List Int:=fl.set (x.k / 2) (if x.k % 2=0 then fl.getD (x.k / 2) 0+room else fl.getD (x.k / 2) 0-room)
def augAll (room:Int) (fl:List Int) (p:List Lk):List Int:=p.foldl (augR room) fl
theorem getD_set' {l:List Int} {i j:Nat} {x:Int} (h:i≠j):(l.set i x).getD j 0=l.getD j 0:=by
  rw [List.getD_eq_getElem?_getD,List.getElem?_set_ne h,← List.getD_eq_getElem?_getD]
theorem leastR_le (rm:Nat→Int):∀ (p:List Lk) (m:Int),p.foldl (fun m x=>min m (rm x.k)) m≤m∧∀ x∈p,p.foldl (fun m x=>min m (rm x.k)) m≤rm x.k
  | [],m=>by simp
  | y::p,m=>by
    have ih:=leastR_le rm p (min m (rm y.k))
    refine ⟨by simp only [List.foldl_cons]; omega,fun x hx=>?_⟩
    simp only [List.foldl_cons]
    simp at hx
    rcases hx with rfl|hx
    · omega
    · exact ih.2 x hx
theorem leastR_pos (rm:Nat→Int):∀ (p:List Lk) (m:Int),0<m→(∀ x∈p,0<rm x.k)→0<p.foldl (fun m x=>min m (rm x.k)) m
  | [],m,h,_=>by simpa using h
  | y::p,m,h,hp=>by
    simp only [List.foldl_cons]
    exact leastR_pos rm p _ (by have:=hp y (by simp); omega) (fun x hx=>hp x (by simp [hx]))
structure Flw (n:Nat) (l:List Arc) (s t:Nat) (fl:List Int):Prop where
  len:l.length=fl.length
  cap:inCap l fl=true
  bal:∀ v:Nat,v<n→v≠s→v≠t→fval v l fl=0
section
variable {n s t:Nat} {l:List Arc}
theorem rl_lt (hok:∀ a∈l,okArc n a=true):∀ x∈rlinks l,x.f<n∧x.t<n:=fun _ hx=>⟨(rlinks_mem hok hx).1,(rlinks_mem hok hx).2.1⟩
abbrev rE (l:List Arc) (fl:List Int):Lk→Prop:=opn (rlinks l) (rmR l fl)
abbrev rP (l:List Arc) (fl:List Int) (D:List Int) (s:Nat):List Lk:=pathD (nxt (rlinks l) (rmR l fl) D) D s
abbrev rNext (l:List Arc) (fl:List Int) (D:List Int) (s:Nat):List Int:=augAll (leastR (rmR l fl) (rP l fl D s)) fl (rP l fl D s)
end
inductive RunR (n:Nat) (l:List Arc) (s t:Nat):List Int→List Int→Prop
  | done {fl D:List Int}:IsDist n t (rE l fl) D→D.getD s 0<0→RunR n l s t fl fl
  | step {fl D F:List Int}:IsDist n t (rE l fl) D→0≤D.getD s 0→RunR n l s t (rNext l fl D s) F→RunR n l s t fl F
theorem RunR.uniq {n s t:Nat} {l:List Arc} (hok:∀ a∈l,okArc n a=true) {fl F G:List Int} (h1:RunR n l s t fl F) (h2:RunR n l s t fl G):F=G:=by
  have hE:∀ fl x,rE l fl x→x.f<n∧x.t<n:=fun fl x hx=>rl_lt hok x hx.1
  induction h1 generalizing G with
  | done hD hn =>
    cases h2 with
    | done=>rfl
    | step hD2 h0 _=>rw [hD.uniq (hE _) hD2] at hn; omega
  | step hD h0 _ ih =>
    cases h2 with
    | done hD2 hn=>rw [hD.uniq (hE _) hD2] at h0; omega
    | step hD2 _ hr=>rw [hD.uniq (hE _) hD2] at ih; exact ih hr
end Go.Flow
namespace Go.Flow
theorem Chn.take {E:Lk→Prop} {v u:Nat} {p:List Lk} (hc:Chn E v p u):∀ i,∃ w,Chn E v (p.take i) w:=by
  induction hc with
  | nil=>intro i; exact ⟨_,by simpa using Chn.nil⟩
  | cons h1 h2 _ ih =>
    intro i
    cases i with
    | zero=>exact ⟨_,by simpa using Chn.nil⟩
    | succ i=>obtain ⟨w,hw⟩:=ih i; exact ⟨w,.cons h1 h2 hw⟩
end Go.Flow
namespace Go.Flow
def sumTo (g:Nat→Int):Nat→Int
  | 0=>0
  | n+1=>sumTo g n+g n
theorem sumTo_add (g h:Nat→Int):∀ n,sumTo (fun v=>g v+h v) n=sumTo g n+sumTo h n
  | 0=>rfl
  | n+1=>by simp only [sumTo]; rw [sumTo_add g h n]; omega
theorem sumTo_congr {g h:Nat→Int}:∀ n,(∀ v,v<n→g v=h v)→sumTo g n=sumTo h n
  | 0,_=>rfl
  | n+1,e=>by simp only [sumTo]; rw [sumTo_congr n (fun v hv=>e v (by omega)),e n (by omega)]
theorem sumTo_zero {g:Nat→Int}:∀ n,(∀ v,v<n→g v=0)→sumTo g n=0
  | 0,_=>rfl
  | n+1,e=>by simp only [sumTo]; rw [sumTo_zero n (fun v hv=>e v (by omega)),e n (by omega)]; rfl
theorem sumTo_one {g:Nat→Int} {k:Nat}:∀ n,k<n→(∀ v,v<n→v≠k→g v=0)→sumTo g n=g k
  | 0,h,_=>by omega
  | n+1,h,e=>by
    simp only [sumTo]
    by_cases hk:k=n
    · subst hk
      rw [sumTo_zero k (fun v hv=>e v (by omega) (by omega))]; omega
    · rw [sumTo_one n (by omega) (fun v hv hne=>e v (by omega) hne),e n (by omega) (by omega)]; omega
def netB (B:Nat→Bool):List Arc→List Int→Int
  | a::l,x::fl=>((if B a.f.toNat=true then x else 0)-(if B a.t.toNat=true then x else 0))+netB B l fl
  | _,_=>0
theorem netB_eq {n:Nat} (B:Nat→Bool):∀ (l:List Arc) (fl:List Int),(∀ a∈l,okArc n a=true)→sumTo (fun v=>if B v=true then fval v l fl else 0) n=netB B l fl
  | [],fl,_=>by
    rw [sumTo_zero n (fun v _=>by simp [fval])]; rfl
  | a::l,[],_=>by
    rw [sumTo_zero n (fun v _=>by simp [fval])]; rfl
  | a::l,x::fl,h=>by
    obtain ⟨g1,g2,g3,g4,_⟩:=okArc_iff.1 (h a (by simp))
    have ih:=netB_eq B l fl (fun b hb=>h b (by simp [hb]))
    simp only [netB];rw [← ih]
    have e1:sumTo (fun v=>if B v=true then (if a.f=(v:Int) then x else 0) else 0) n=if B a.f.toNat=true then x else 0:=by
      rw [sumTo_one (k:=a.f.toNat) n (by omega) (fun v _ hne=>by rw [if_neg (show ¬ a.f=(v:Int) by omega)]; split <;> rfl)]
      rw [if_pos (show a.f=((a.f.toNat:Nat):Int) by omega)]
    have e2:sumTo (fun v=>if B v=true then (if a.t=(v:Int) then -x else 0) else 0) n=if B a.t.toNat=true then -x else 0:=by
      rw [sumTo_one (k:=a.t.toNat) n (by omega) (fun v _ hne=>by rw [if_neg (show ¬ a.t=(v:Int) by omega)]; split <;> rfl)]
      rw [if_pos (show a.t=((a.t.toNat:Nat):Int) by omega)]
    have e3:sumTo (fun v=>if B v=true then fval v (a::l) (x::fl) else 0) n=sumTo (fun v=>((if B v=true then (if a.f=(v:Int) then x else 0) else 0)+(if B v=true then (if a.t=(v:Int) then -x else 0) else 0))+(if B v=true then fval v l fl else 0)) n:=by
      apply sumTo_congr
      intro v _
      simp only [fval]
      repeat' split
      all_goals omega
    rw [e3,sumTo_add,sumTo_add,e1,e2]
    repeat' split
    all_goals omega
section
variable {n s t:Nat} {l:List Arc} {fl:List Int} {B:Nat→Bool}
end
inductive Rch (E:Lk→Prop) (s:Nat):Nat→Prop
  | refl:Rch E s s
  | step {x:Lk}:Rch E s x.f→E x→Rch E s x.t
theorem Rch.sub {E:Lk→Prop} {s:Nat} {B:Nat→Bool} (hs:B s=true) (hcl:∀ x,E x→B x.f=true→B x.t=true) {v:Nat} (h:Rch E s v):B v=true:=by
  induction h with
  | refl=>exact hs
  | step _ hx ih=>exact hcl _ hx ih
section
variable {n s t:Nat} {l:List Arc} {fl:List Int} {B:Nat→Bool}
def IsReach (n:Nat) (E:Lk→Prop) (s:Nat) (B:Nat→Bool):Prop:=∀ v,v<n→(B v=true↔Rch E s v)
end
end Go.Flow
