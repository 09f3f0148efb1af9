/- Texts of this proof, one after the other; no conditions. -/
import Derived.Test.YtphehihohghfoaaGreatWB8
import Derived.Test.YtphehihohghfoaaGreatWB2
import Derived.Test.YtphehihohghfoaaGreatWB6
import Derived.Test.YtphehihohghfoaaGreatWB5
import Derived.Test.YtphehihohghfoaaGreatWB1
set_option linter.all false
/- The ends of two sets, in their order: an iterator. -/
namespace Go.Proofs.YtphehihohghfoaaGreat
open Go.Eng Go.Step
set_option maxRecDepth 100000
set_option maxHeartbeats 4000000

def encPt (x:Int × Bool × Bool):List Value:=[int x.1,.agg #[.bool x.2.1,.bool x.2.2]]
set_option maxHeartbeats 32000000 in
theorem points_iter (ρ τ:PH) (va vb:Value) (a b:Iv) (b1 b2:Nat) (ha:SpAt ρ va a) (hb:SpAt τ vb b) (hla:a.length ≤ 1000000) (hlb:b.length ≤ 1000000) :
  Iter Tryz.prog (.func (.func 149) #[] #[.pointer (some ⟨b1,0,none⟩),.pointer (some ⟨b2,0,none⟩)]) [sng b1 (.cells #[va] 91 (0,0)),sng b2 (.cells #[vb] 91 (0,0)),ρ,τ] ((mrg (tog a) false (tog b) false).map encPt):=by
 intro y S Own Inv Stop Ry hy hyl σ0 hI0
 obtain ⟨yl,rfl⟩:=hyl
 have hna:=fun bx p hp=>sideNext_spec ρ va a bx p ha (by omega) hp
 have hnb:=fun bx p hp=>sideNext_spec τ vb b bx p hb (by omega) hp
 have hpa:=fun bx p t hp=>sidePass_spec ρ va a bx p t ha (by omega) hp
 have hpb:=fun bx p t hp=>sidePass_spec τ vb b bx p t hb (by omega) hp
 obtain ⟨qa,ca,rfl,hra⟩:=ha.val encS_len
 obtain ⟨qb,cb,rfl,hrb⟩:=hb.val encS_len
 have c1:rdc (sng b1 (.cells #[.slice qa a.length ca] 91 (0,0))) b1 0 = some (.slice qa a.length ca):=by rw [rdc_sng]; rfl
 have c2:rdc (sng b2 (.cells #[.slice qb b.length cb] 91 (0,0))) b2 0 = some (.slice qb b.length cb):=by rw [rdc_sng]; rfl
 have la:=tog_len a
 have lb:=tog_len b
 simp only [List.cons_append,List.nil_append]
 refine spec_in (cap:=[.pointer (some ⟨b1,0,none⟩),.pointer (some ⟨b2,0,none⟩)]) Tryz.func149 rfl rfl Tryz.ntmps149 rfl envZ (fun N β=>?_)
 refine AD ?_
 refine ES (X:=Nat × Nat) [0,1,2] (fun _=>True) (fun x=>[(4,.pointer (some ⟨x.1,0,none⟩)),(5,.pointer (some ⟨x.2,0,none⟩))]) (fun x=>sng x.2 (.cells #[.slice qb b.length cb,int ((0 / 2:Nat):Int),.bool (oddB 0)] 232 (0,0)) :: sng x.1 (.cells #[.slice qa a.length ca,int ((0 / 2:Nat):Int),.bool (oddB 0)] 232 (0,0)) :: Own σ0) pickZ ?_ ?_
 ·refine A5 (.q 0 (.q 1 (.q 3 (.q 4 (.l2 2 .e (.q 6 (.l 5 .e (.q 7 .nil))) 5 .e (.l 2 .e (.q 6 (.q 7 .nil)))))))) [] rfl (by kernel_rfl) Sel.nil ?_
  repeat' (first
   | (refine BT ?_)
   | (refine AQ ?_)
   | (refine CQ ?_)
   | (refine A6 ?_)
   | (refine FI ?_ ?_)
   | (refine FV ?_; rintro _ _ ⟨b,rfl,rfl⟩)
   | (refine GX ?_; rintro _ _ ⟨b,rfl,rfl⟩)
   | fail)
  ·refine DQ (_,_) trivial covZ ?_
   exact Sel.refl
  ·refine CF (List.Perm.swap _ _ _) ?_
   refine DQ (_,_) trivial covZ ?_;exact Sel.refl
 rintro ⟨bx,by_⟩ _
 dsimp only
 refine AP ?_
 refine BD [0,1,2,4,5] (X:=Nat × Nat × Nat × S) (0,0,0,σ0) (fun x=>x.1 ≤ (mrg (tog a) false (tog b) false).length ∧ x.2.1 ≤ 2 * a.length ∧ x.2.2.1 ≤ 2 * b.length ∧ (mrg (tog a) false (tog b) false).drop x.1 = mrg ((tog a).drop x.2.1) (oddB x.2.1) ((tog b).drop x.2.2.1) (oddB x.2.2.1) ∧ Inv x.1 x.2.2.2) (fun _=>[]) (fun x=>sng by_ (.cells #[.slice qb b.length cb,int ((x.2.2.1 / 2:Nat):Int),.bool (oddB x.2.2.1)] 232 (0,0)) :: sng bx (.cells #[.slice qa a.length ca,int ((x.2.1 / 2:Nat):Int),.bool (oddB x.2.1)] 232 (0,0)) :: Own x.2.2.2) (fun x=>(2 * a.length - x.2.1) + (2 * b.length - x.2.2.1)) pickZ ⟨by dsimp only; omega,by dsimp only; omega,by dsimp only; omega,rfl,hI0⟩ covZ Sel.refl ?_
 rintro ⟨k,p,q,σ'⟩ ⟨hk,hp,hq,hS,hI⟩
 dsimp only at hk hp hq hS hI ⊢
 have h1:=hna bx p hp
 have h2:=hnb by_ q hq
 refine AP ?_;refine AD ?_;refine AA ?_;refine AB ?_;refine A2 h1 rfl rfl rdZ rfl rfl ?_;rintro _ rfl;refine AB ?_;refine AO ?_;refine AO ?_;refine AC ?_;refine AC ?_;refine AE ?_;refine AD ?_;refine AA ?_;refine AB ?_;refine A2 h2 rfl rfl rdZ rfl rfl ?_;rintro _ rfl
 generalize hm:(tog a).getD p 0 = m
 generalize hn:(tog b).getD q 0 = n
 by_cases h1:p < 2 * a.length
 ·rw [decide_eq_true h1]
  by_cases h2:q < 2 * b.length ∧ n < m
  ·have hX:nxtT (tog a) (tog b) p q = n:=by unfold nxtT; rw [if_pos (by omega),if_pos (by rw [hm,hn]; omega),hn]
   rw [decide_eq_true h2.1]
   have h2n:=h2.2
   have hlive:p < (tog a).length ∨ q < (tog b).length:=by omega
   have hS':=mrg_at (by omega) (by omega) hlive
   have hgo:=stp_go hlive
   rw [hX] at hS' hgo;rw [← hS] at hS'
   obtain ⟨g1,g2,g3⟩:=drop_head hS'
   have p1:=stp_le (A:=tog a) (t:=n) (p:=p) (by omega)
   have q1:=stp_le (A:=tog b) (t:=n) (p:=q) (by omega)
   have hy1:=hy k σ' (encPt (n,oddB (stp (tog a) n p),oddB (stp (tog b) n q))) (by rw [List.getElem?_map,g1]; rfl) hI
   have k1:=hpa bx p n hp
   have k2:=hpb by_ q n hq
   generalize stp (tog a) n p = p' at g2 hy1 k1 p1 hgo
   generalize stp (tog b) n q = q' at g2 hy1 k2 q1 hgo
   refine AB ?_;refine AO ?_;refine AO ?_;refine AC ?_;refine AC ?_;refine AE ?_;refine AD ?_;refine AD ?_;refine AA ?_;refine AB ?_;refine BB ?_;refine AB ?_;refine AH rfl rfl rfl ?_;refine AH rfl rfl rfl ?_;refine AJ ?_;refine AE ?_;refine AN rfl ?_;refine AL ?_;refine AD ?_;refine AA ?_;refine AB ?_;refine AC ?_;refine AE ?_;refine AD ?_;refine AD ?_;refine AA ?_;refine AB ?_;refine BB ?_;refine AB ?_;refine AB ?_;refine AB ?_;refine AB ?_;refine AB ?_;refine BC ?_;refine AK ?_;refine AJ ?_;refine AE ?_;refine AM rfl ?_;refine AA ?_;refine AB ?_;refine AC ?_;refine AE ?_;refine AD ?_;refine AA ?_;refine AB ?_;refine AB ?_;refine BE k1 rfl rfl takesZ rdZ rfl rfl ?_;rintro _ _ ⟨rfl,rfl⟩;refine AE ?_;refine AD ?_;refine AA ?_;refine AB ?_;refine AB ?_;refine BE k2 rfl rfl takesZ rdZ rfl rfl ?_;rintro _ _ ⟨rfl,rfl⟩;refine AE ?_;refine AD ?_
   refine A5 (.q 0 (.q 1 (.q 2 (.q 3 (.q 4 (.q 5 (.q 6 (.q 7 (.q 8 (.q 9 (.q 10 (.l 11 .b (.q 12 .nil))))))))))))) [] rfl (by kernel_rfl) Sel.nil ?_
   refine AR ?_;refine AR ?_;refine AR ?_;refine A0 ?_;refine AU ?_;refine AQ ?_;refine AR ?_;refine A0 ?_;refine AU ?_;refine AQ ?_
   focus ((refine' CV rfl _ rfl rfl rfl rfl _; rotate_left; (focus (apply DC; exact rfl; exact rfl; exact rfl; exact rfl; exact rfl; exact rfl; exact rfl))))
   refine CN (DT rfl hy1 rfl rfl (Takes.skip (Takes.skip Takes.all)) (fun τ hτ=>.inl (by simp [hτ])) rfl rfl (fun _ _ _ w hw=>hw.sel Sel.nil) ?_)
   rintro _ H' ⟨σ1,rfl,⟨rfl,hI1⟩ | ⟨rfl,hSt⟩⟩
   ·refine D8 (H':=_ :: _ :: Own σ1) (List.perm_append_comm (l₂:=[_,_])) ?_
    refine CS ?_;refine A6 ?_;refine AN rfl ?_;refine AL ?_;refine A4 ?_
    exact AX (k + 1,p',q',σ1) ⟨by dsimp only; omega,by dsimp only; omega,by dsimp only; omega,g2,hI1⟩ (by dsimp only; omega) covZ Sel.refl
   ·refine CS ?_
    refine A6 ?_;refine AM rfl ?_
    exact AI (res0 rfl) (fun _ h=>h) Sel.left ⟨σ1,rfl,.inr hSt⟩
  ·have hX:nxtT (tog a) (tog b) p q = m:=by unfold nxtT; rw [if_pos (by omega),if_neg (by rw [hm,hn]; omega),hm]
   by_cases h3:q < 2 * b.length
   ·rw [decide_eq_true h3]
    have h2n:¬ n < m:=fun h=>h2 ⟨h3,h⟩
    have hlive:p < (tog a).length ∨ q < (tog b).length:=by omega
    have hS':=mrg_at (by omega) (by omega) hlive
    have hgo:=stp_go hlive
    rw [hX] at hS' hgo;rw [← hS] at hS'
    obtain ⟨g1,g2,g3⟩:=drop_head hS'
    have p1:=stp_le (A:=tog a) (t:=m) (p:=p) (by omega)
    have q1:=stp_le (A:=tog b) (t:=m) (p:=q) (by omega)
    have hy1:=hy k σ' (encPt (m,oddB (stp (tog a) m p),oddB (stp (tog b) m q))) (by rw [List.getElem?_map,g1]; rfl) hI
    have k1:=hpa bx p m hp
    have k2:=hpb by_ q m hq
    generalize stp (tog a) m p = p' at g2 hy1 k1 p1 hgo
    generalize stp (tog b) m q = q' at g2 hy1 k2 q1 hgo
    refine AB ?_;refine AO ?_;refine AO ?_;refine AC ?_;refine AC ?_;refine AE ?_;refine AD ?_;refine AD ?_;refine AA ?_;refine AB ?_;refine BB ?_;refine AB ?_;refine AH rfl rfl rfl ?_;refine AH rfl rfl rfl ?_;refine AJ ?_;refine AE ?_;refine AN rfl ?_;refine AL ?_;refine AD ?_;refine AA ?_;refine AB ?_;refine AC ?_;refine AE ?_;refine AD ?_;refine AD ?_;refine AA ?_;refine AB ?_;refine BB ?_;refine AB ?_;refine AB ?_;refine AB ?_;refine AB ?_;refine AB ?_;refine AZ ?_;refine AK ?_;refine AJ ?_;refine AE ?_;refine AN rfl ?_;refine AL ?_;refine AD ?_;refine AA ?_;refine AB ?_;refine AB ?_;refine BE k1 rfl rfl takesZ rdZ rfl rfl ?_;rintro _ _ ⟨rfl,rfl⟩;refine AE ?_;refine AD ?_;refine AA ?_;refine AB ?_;refine AB ?_;refine BE k2 rfl rfl takesZ rdZ rfl rfl ?_;rintro _ _ ⟨rfl,rfl⟩;refine AE ?_;refine AD ?_
    refine A5 (.q 0 (.q 1 (.q 2 (.q 3 (.q 4 (.q 5 (.q 6 (.q 7 (.q 8 (.q 9 (.q 10 (.l 11 .b (.q 12 .nil))))))))))))) [] rfl (by kernel_rfl) Sel.nil ?_
    refine AR ?_;refine AR ?_;refine AR ?_;refine A0 ?_;refine AU ?_;refine AQ ?_;refine AR ?_;refine A0 ?_;refine AU ?_;refine AQ ?_
    focus ((refine' CV rfl _ rfl rfl rfl rfl _; rotate_left; (focus (apply DC; exact rfl; exact rfl; exact rfl; exact rfl; exact rfl; exact rfl; exact rfl))))
    refine CN (DT rfl hy1 rfl rfl (Takes.skip (Takes.skip Takes.all)) (fun τ hτ=>.inl (by simp [hτ])) rfl rfl (fun _ _ _ w hw=>hw.sel Sel.nil) ?_)
    rintro _ H' ⟨σ1,rfl,⟨rfl,hI1⟩ | ⟨rfl,hSt⟩⟩
    ·refine D8 (H':=_ :: _ :: Own σ1) (List.perm_append_comm (l₂:=[_,_])) ?_
     refine CS ?_;refine A6 ?_;refine AN rfl ?_;refine AL ?_;refine A4 ?_
     exact AX (k + 1,p',q',σ1) ⟨by dsimp only; omega,by dsimp only; omega,by dsimp only; omega,g2,hI1⟩ (by dsimp only; omega) covZ Sel.refl
    ·refine CS ?_
     refine A6 ?_;refine AM rfl ?_
     exact AI (res0 rfl) (fun _ h=>h) Sel.left ⟨σ1,rfl,.inr hSt⟩
   ·rw [decide_eq_false h3]
    have hlive:p < (tog a).length ∨ q < (tog b).length:=by omega
    have hS':=mrg_at (by omega) (by omega) hlive
    have hgo:=stp_go hlive
    rw [hX] at hS' hgo;rw [← hS] at hS'
    obtain ⟨g1,g2,g3⟩:=drop_head hS'
    have p1:=stp_le (A:=tog a) (t:=m) (p:=p) (by omega)
    have q1:=stp_le (A:=tog b) (t:=m) (p:=q) (by omega)
    have hy1:=hy k σ' (encPt (m,oddB (stp (tog a) m p),oddB (stp (tog b) m q))) (by rw [List.getElem?_map,g1]; rfl) hI
    have k1:=hpa bx p m hp
    have k2:=hpb by_ q m hq
    generalize stp (tog a) m p = p' at g2 hy1 k1 p1 hgo
    generalize stp (tog b) m q = q' at g2 hy1 k2 q1 hgo
    refine AB ?_;refine AO ?_;refine AO ?_;refine AC ?_;refine AC ?_;refine AE ?_;refine AD ?_;refine AD ?_;refine AA ?_;refine AB ?_;refine BB ?_;refine AB ?_;refine AH rfl rfl rfl ?_;refine AH rfl rfl rfl ?_;refine AJ ?_;refine AE ?_;refine AN rfl ?_;refine AL ?_;refine AD ?_;refine AA ?_;refine AB ?_;refine AC ?_;refine AE ?_;refine AD ?_;refine AD ?_;refine AA ?_;refine AB ?_;refine BB ?_;refine AB ?_;refine AB ?_;refine AB ?_;refine AH rfl rfl rfl ?_;refine AH rfl rfl rfl ?_;refine AH rfl rfl rfl ?_;refine AJ ?_;refine AJ ?_;refine AE ?_;refine AN rfl ?_;refine AL ?_;refine AD ?_;refine AA ?_;refine AB ?_;refine AB ?_;refine BE k1 rfl rfl takesZ rdZ rfl rfl ?_;rintro _ _ ⟨rfl,rfl⟩;refine AE ?_;refine AD ?_;refine AA ?_;refine AB ?_;refine AB ?_;refine BE k2 rfl rfl takesZ rdZ rfl rfl ?_;rintro _ _ ⟨rfl,rfl⟩;refine AE ?_;refine AD ?_
    refine A5 (.q 0 (.q 1 (.q 2 (.q 3 (.q 4 (.q 5 (.q 6 (.q 7 (.q 8 (.q 9 (.q 10 (.l 11 .b (.q 12 .nil))))))))))))) [] rfl (by kernel_rfl) Sel.nil ?_
    refine AR ?_;refine AR ?_;refine AR ?_;refine A0 ?_;refine AU ?_;refine AQ ?_;refine AR ?_;refine A0 ?_;refine AU ?_;refine AQ ?_
    focus ((refine' CV rfl _ rfl rfl rfl rfl _; rotate_left; (focus (apply DC; exact rfl; exact rfl; exact rfl; exact rfl; exact rfl; exact rfl; exact rfl))))
    refine CN (DT rfl hy1 rfl rfl (Takes.skip (Takes.skip Takes.all)) (fun τ hτ=>.inl (by simp [hτ])) rfl rfl (fun _ _ _ w hw=>hw.sel Sel.nil) ?_)
    rintro _ H' ⟨σ1,rfl,⟨rfl,hI1⟩ | ⟨rfl,hSt⟩⟩
    ·refine D8 (H':=_ :: _ :: Own σ1) (List.perm_append_comm (l₂:=[_,_])) ?_
     refine CS ?_;refine A6 ?_;refine AN rfl ?_;refine AL ?_;refine A4 ?_
     exact AX (k + 1,p',q',σ1) ⟨by dsimp only; omega,by dsimp only; omega,by dsimp only; omega,g2,hI1⟩ (by dsimp only; omega) covZ Sel.refl
    ·refine CS ?_
     refine A6 ?_;refine AM rfl ?_
     exact AI (res0 rfl) (fun _ h=>h) Sel.left ⟨σ1,rfl,.inr hSt⟩
 ·rw [decide_eq_false h1]
  by_cases h2:q < 2 * b.length
  ·have hX:nxtT (tog a) (tog b) p q = n:=by unfold nxtT; rw [if_neg (by omega),hn]
   rw [decide_eq_true h2]
   have hlive:p < (tog a).length ∨ q < (tog b).length:=by omega
   have hS':=mrg_at (by omega) (by omega) hlive
   have hgo:=stp_go hlive
   rw [hX] at hS' hgo;rw [← hS] at hS'
   obtain ⟨g1,g2,g3⟩:=drop_head hS'
   have p1:=stp_le (A:=tog a) (t:=n) (p:=p) (by omega)
   have q1:=stp_le (A:=tog b) (t:=n) (p:=q) (by omega)
   have hy1:=hy k σ' (encPt (n,oddB (stp (tog a) n p),oddB (stp (tog b) n q))) (by rw [List.getElem?_map,g1]; rfl) hI
   have k1:=hpa bx p n hp
   have k2:=hpb by_ q n hq
   generalize stp (tog a) n p = p' at g2 hy1 k1 p1 hgo
   generalize stp (tog b) n q = q' at g2 hy1 k2 q1 hgo
   refine AB ?_;refine AO ?_;refine AO ?_;refine AC ?_;refine AC ?_;refine AE ?_;refine AD ?_;refine AD ?_;refine AA ?_;refine AB ?_;refine BB ?_;refine AB ?_;refine AB ?_;refine BB ?_;refine AK ?_;refine AE ?_;refine AN rfl ?_;refine AL ?_;refine AD ?_;refine AA ?_;refine AB ?_;refine AC ?_;refine AE ?_;refine AD ?_;refine AD ?_;refine AA ?_;refine AB ?_;refine BB ?_;refine AB ?_;refine AH rfl rfl rfl ?_;refine AH rfl rfl rfl ?_;refine AH rfl rfl rfl ?_;refine AH rfl rfl rfl ?_;refine AH rfl rfl rfl ?_;refine AH rfl rfl rfl ?_;refine AK ?_;refine AE ?_;refine AM rfl ?_;refine AA ?_;refine AB ?_;refine AC ?_;refine AE ?_;refine AD ?_;refine AA ?_;refine AB ?_;refine AB ?_;refine BE k1 rfl rfl takesZ rdZ rfl rfl ?_;rintro _ _ ⟨rfl,rfl⟩;refine AE ?_;refine AD ?_;refine AA ?_;refine AB ?_;refine AB ?_;refine BE k2 rfl rfl takesZ rdZ rfl rfl ?_;rintro _ _ ⟨rfl,rfl⟩;refine AE ?_
   refine AD ?_
   refine A5 (.q 0 (.q 1 (.q 2 (.q 3 (.q 4 (.q 5 (.q 6 (.q 7 (.q 8 (.q 9 (.q 10 (.l 11 .b (.q 12 .nil))))))))))))) [] rfl (by kernel_rfl) Sel.nil ?_
   refine AR ?_;refine AR ?_;refine AR ?_;refine A0 ?_;refine AU ?_;refine AQ ?_;refine AR ?_;refine A0 ?_;refine AU ?_;refine AQ ?_
   focus ((refine' CV rfl _ rfl rfl rfl rfl _; rotate_left; (focus (apply DC; exact rfl; exact rfl; exact rfl; exact rfl; exact rfl; exact rfl; exact rfl))))
   refine CN (DT rfl hy1 rfl rfl (Takes.skip (Takes.skip Takes.all)) (fun τ hτ=>.inl (by simp [hτ])) rfl rfl (fun _ _ _ w hw=>hw.sel Sel.nil) ?_)
   rintro _ H' ⟨σ1,rfl,⟨rfl,hI1⟩ | ⟨rfl,hSt⟩⟩
   ·refine D8 (H':=_ :: _ :: Own σ1) (List.perm_append_comm (l₂:=[_,_])) ?_
    refine CS ?_;refine A6 ?_;refine AN rfl ?_;refine AL ?_;refine A4 ?_
    exact AX (k + 1,p',q',σ1) ⟨by dsimp only; omega,by dsimp only; omega,by dsimp only; omega,g2,hI1⟩ (by dsimp only; omega) covZ Sel.refl
   ·refine CS ?_
    refine A6 ?_;refine AM rfl ?_
    exact AI (res0 rfl) (fun _ h=>h) Sel.left ⟨σ1,rfl,.inr hSt⟩
  ·rw [decide_eq_false h2]
   have hpe:p = (tog a).length:=by omega
   have hqe:q = (tog b).length:=by omega
   rw [hpe,hqe,mrg_end] at hS
   have hke:k = (mrg (tog a) false (tog b) false).length:=by
    have:=List.drop_eq_nil_iff.1 hS
    omega
   refine AB ?_;refine AO ?_;refine AO ?_;refine AC ?_;refine AC ?_;refine AE ?_;refine AD ?_;refine AD ?_;refine AA ?_;refine AB ?_;refine BB ?_;refine AB ?_;refine AB ?_;refine BB ?_;refine AK ?_;refine AE ?_;refine AM rfl ?_
   refine AI (res0 rfl) (fun _ h=>h) (Sel.skip (Sel.skip Sel.refl)) ⟨σ',rfl,.inl ?_⟩
   rw [List.length_map,← hke];exact hI
end Go.Proofs.YtphehihohghfoaaGreat
/- Sets combined. -/
namespace Go.Proofs.YtphehihohghfoaaGreat
open Go.Eng Go.Step
set_option maxRecDepth 100000
set_option maxHeartbeats 4000000

theorem points_spec (v u:Value) (hv:v.oneCell' = true) (hu:u.oneCell' = true) :
  Eng.Spec Tryz.prog (fv 133) [v,u] [] [] (fun r H'=>∃ b1 b2,r = .func (.func 149) #[] #[.pointer (some ⟨b1,0,none⟩),.pointer (some ⟨b2,0,none⟩)] ∧ H' = [sng b2 (.cells #[u] 91 (0,0)),sng b1 (.cells #[v] 91 (0,0))]):=by
 refine spec_in (cap:=[]) Tryz.func133 rfl rfl Tryz.ntmps133 rfl envZ (fun N β=>?_)
 refine AD ?_;refine AA ?_;refine BH (CW rfl hv) rfl rfl rfl ?_;rintro _ _ ⟨b1,rfl,rfl⟩;refine BH (CW rfl hu) rfl rfl rfl ?_;rintro _ _ ⟨b2,rfl,rfl⟩;refine AC ?_;refine AE ?_;refine AD ?_;refine AA ?_;refine BU ?_;refine AC ?_;refine AE ?_;exact AI (res1 rfl rfl) rsubZ selZ ⟨b1,b2,rfl,rfl⟩
set_option maxHeartbeats 32000000 in
theorem ivCombine_spec (ρ τ:PH) (va vb:Value) (gf:FuncId) (a b:Iv) (f:Bool → Bool → Bool) (ha:SpAt ρ va a) (hb:SpAt τ vb b) (h0a:chkI a = 0) (h0b:chkI b = 0) (hlen:a.length + b.length ≤ 1000) (hf:f false false = false)
  (hfn:∀ x y,Ans Tryz.prog (.func (.func gf) #[] #[]) [.bool x,.bool y] [] (fun r=>r = .bool (f x y))) :
  Makes Tryz.prog (fv 99) [va,vb,.func (.func gf) #[] #[]] [ρ,τ] (fun r σ=>∃ u,r = .tuple #[u,int 0] ∧ OwnS 93 2 u (combI f a b).length ((combI f a b).flatMap encS) σ):=by
 have hca:=ivCheck_spec ρ va a ha (by omega)
 have hcb:=ivCheck_spec τ vb b hb (by omega)
 rw [h0a] at hca;rw [h0b] at hcb
 have hpts:=fun b1 b2=>points_iter ρ τ va vb a b b1 b2 ha hb (by omega) (by omega)
 have hcl:=(combI_ok hf (chkI_norm h0a).2.1 (chkI_norm h0b).2.1).2.2
 have hml:=mrg_len _ (tog a) false (tog b) false (Nat.le_refl _)
 rw [tog_len,tog_len] at hml
 obtain ⟨qa,ca,rfl,_⟩:=ha.val encS_len
 obtain ⟨qb,cb,rfl,_⟩:=hb.val encS_len
 refine spec_in (cap:=[]) Tryz.func99 rfl rfl Tryz.ntmps99 rfl envZ (fun N β=>?_)
 refine BV ?_;refine AD ?_;refine AA ?_;refine D7 ?_; rintro _ _ ⟨b,rfl,rfl⟩;refine AC ?_;refine AC ?_;refine AE ?_;refine AD ?_;refine AD ?_;refine AA ?_;refine AB ?_
 revert b; intro b5
 refine AS (ρ:=sng b5 _) takeZ ?_
 have g5:rdc (sng b5 (.cells #[.func (.func gf) #[] #[]] 183 (0,0))) b5 0 = some (.func (.func gf) #[] #[]):=by rw [rdc_sng]; rfl
 refine A2 hca rfl rfl rdZ rfl rfl ?_;rintro _ rfl;refine BG ?_;refine AB ?_;refine AB ?_;refine A2 hcb rfl rfl rdZ rfl rfl ?_;rintro _ rfl;refine BG ?_;refine AJ ?_;refine AE ?_;refine AN rfl ?_;refine AL ?_;refine AD ?_;refine AA ?_;refine BP ?_; rintro _ _ ⟨b,rfl,rfl⟩;refine AE ?_;refine AD ?_;refine AA ?_;refine BP ?_; rintro _ _ ⟨b,rfl,rfl⟩;refine A7 ?_; rintro _ _ ⟨rfl,rfl⟩;refine AE ?_;refine AD ?_;refine AD ?_;refine AA ?_;refine AB ?_;refine AB ?_
 revert b; intro b9
 revert b; intro b8
 refine BE (points_spec (.slice qa a.length ca) (.slice qb b.length cb) rfl rfl) rfl rfl Takes.nil (fun τ hτ=>by simp at hτ) rfl rfl ?_
 rintro _ _ ⟨b1,b2,rfl,rfl⟩;refine AS (ρ:=sng b1 _) takeZ ?_;refine AS (ρ:=sng b2 _) takeZ ?_;refine AE ?_;refine AP ?_
 refine CX (gf:=149) (cap:=[.pointer (some ⟨b1,0,none⟩),.pointer (some ⟨b2,0,none⟩)]) (ps:=[24,25]) (X:=Value × Bool × PH) rfl Tryz.func149 rfl rfl
  (hpts b1 b2) ?_
  (fun i x=>x.2.1 = oddB (mcomb f ((mrg (tog a) false (tog b) false).take i) []).length ∧ OwnS 93 2 x.1 (spans (mcomb f ((mrg (tog a) false (tog b) false).take i) [])).length ((spans (mcomb f ((mrg (tog a) false (tog b) false).take i) [])).flatMap encS) x.2.2)
  (fun x=>[sng b8 (.cells #[x.1] 91 (0,0)),sng b9 (.cells #[.bool x.2.1] 4 (0,0)),x.2.2]) (fun _ _=>False) (.slice none 0 0,false,emp) rfl takesZ ⟨rfl,OwnS.nil _ _⟩ ?_ ?_ ?_
 ·intro σ' hσ
  simp only [List.mem_cons,List.not_mem_nil,or_false] at hσ ⊢
  rcases hσ with h | h | h | h <;> simp [h]
 ·rintro lo r i ⟨u,ins,σ⟩ vs hvs ⟨hins,hO⟩ hps has hbd hst hpe hfr
  obtain ⟨st,pe,fnn,tm,prm,asg,bdy,df⟩:=r
  simp only at hps has hbd hst hpe hfr;subst hps has hbd hst hpe;rw [List.getElem?_map] at hvs
  obtain ⟨⟨t,x,y⟩,hc,rfl⟩:=Option.map_eq_some_iff.1 hvs
  have hnx:=mcomb_next f hc []
  have hOl:=mcomb_len f ((mrg (tog a) false (tog b) false).take i) []
  have hti:((mrg (tog a) false (tog b) false).take i).length ≤ (mrg (tog a) false (tog b) false).length:=by rw [List.length_take]; omega
  dsimp only at hins hO
  have hsl:=spans_len (mcomb f ((mrg (tog a) false (tog b) false).take i) [])
  simp only [hnx]
  generalize mcomb f ((mrg (tog a) false (tog b) false).take i) [] = O at hins hO hOl hsl
  simp only [List.length_nil] at hOl
  have hone:∀ z n (xs:List Value) (χ:PH),OwnS 93 2 z n xs χ → z.oneCell' = true:=fun z n xs χ h=>by obtain ⟨_,_,rfl⟩:=h.form; rfl
  have hu1:=hone _ _ _ _ hO
  have hfxy:=hfn x y
  have hm1:mcomb1 f O (t,x,y) = if f x y = oddB O.length then O else O ++ [t]:=rfl
  refine yield_spec hfr rfl (by intro p hp; simp at hp; omega) putiZ (fun N' β'=>?_)
  dsimp only
  refine AD ?_;refine AA ?_;refine AC ?_;refine AE ?_;refine AA ?_;refine AY ?_; rintro _ _ ⟨b,rfl,rfl⟩;refine AW ?_; rintro _ _ ⟨rfl,rfl⟩;refine AE ?_;refine CK rfl rfl ?_;refine CU takeZ rfl ?_
  revert b; intro bx
  refine AP ?_;refine AD ?_;refine AA ?_;refine AF ?_
  focus ((refine CE (GY rfl rfl rfl rfl (by decide)) rfl rfl rfl ?_))
  refine AF ?_
  focus ((refine CE (GZ rfl rfl rfl rfl (by decide)) rfl rfl rfl ?_))
  refine AF ?_;refine A2 hfxy rfl rfl rdZ rfl rfl ?_;rintro _ rfl
  cases hfv:f x y with
  | true =>
   cases ins with
   | true =>
    rw [hfv,← hins,if_pos rfl] at hm1;refine AC ?_;refine AE ?_;refine AD ?_;refine AP ?_;refine AD ?_;refine AA ?_;refine AB ?_;refine AB ?_;refine AF ?_;refine BB ?_;refine AK ?_;refine AC ?_;refine AE ?_;refine AN rfl ?_;refine AD ?_;refine AA ?_;refine AB ?_;refine BB ?_;refine AB ?_;refine AH rfl rfl rfl ?_;refine AJ ?_;refine AC ?_;refine AE ?_;refine AN rfl ?_;refine AL ?_;refine A4 ?_;refine AA ?_;refine AB ?_;refine A7 ?_; rintro _ _ ⟨rfl,rfl⟩;refine AE ?_;refine A4 ?_
    exact BO takeZ rsubZ selZ ⟨(u,true,σ),.inl ⟨rfl,⟨by rw [hm1]; exact hins,by rw [hm1]; exact hO⟩,rfl⟩⟩
   | false =>
    rw [hfv,← hins,if_neg (by simp)] at hm1
    have hsp:=spans_even t hins.symm
    refine AC ?_;refine AE ?_;refine AD ?_;refine AP ?_;refine AD ?_;refine AA ?_;refine AB ?_;refine AB ?_;refine AF ?_;refine BB ?_;refine AK ?_;refine AC ?_;refine AE ?_;refine AM rfl ?_;refine AA ?_;refine AF ?_;refine AB ?_;refine BR ?_;refine BF ?_; rintro _ _ ⟨b,rfl,rfl⟩
    refine BH (BZ (by_:=16) (s:=2) (news:=[int t,int 0]) rfl rfl rfl rfl rfl rfl rfl hO takeZ (cells_own memZ) rfl (by (repeat (first | exact (fun v hv=>absurd hv List.not_mem_nil) | (refine List.forall_mem_cons.2 ⟨?_,?_⟩; (focus (first | exact rfl | assumption))))); first | done | fail) (by omega) (by simp only [maxLen]; omega) (by omega)) rfl rfl rfl ?_
    rintro u1 _ ⟨σ1,hO1,rfl⟩
    have hu2:=hone _ _ _ _ hO1
    refine A7 ?_; rintro _ _ ⟨rfl,rfl⟩;refine AE ?_;refine A4 ?_;refine AA ?_;refine AB ?_;refine A7 ?_; rintro _ _ ⟨rfl,rfl⟩;refine AE ?_;refine A4 ?_;refine BO takeZ rsubZ selZ ⟨(u1,true,σ1),.inl ⟨rfl,⟨?_,?_⟩,rfl⟩⟩
    ·dsimp only
     rw [hm1,List.length_append,List.length_singleton,oddB_succ,← hins]; rfl
    ·dsimp only
     rw [hm1,hsp,List.length_append,List.flatMap_append];exact hO1
  | false =>
   cases ins with
   | false =>
    rw [hfv,← hins,if_pos rfl] at hm1;refine AC ?_;refine AE ?_;refine AD ?_;refine AP ?_;refine AD ?_;refine AA ?_;refine AB ?_;refine AB ?_;refine AH rfl rfl rfl ?_;refine AH rfl rfl rfl ?_;refine AJ ?_;refine AC ?_;refine AE ?_;refine AN rfl ?_;refine AD ?_;refine AA ?_;refine AB ?_;refine BB ?_;refine AB ?_;refine AF ?_;refine AK ?_;refine AC ?_;refine AE ?_;refine AN rfl ?_;refine AL ?_;refine A4 ?_;refine AA ?_;refine AB ?_;refine A7 ?_; rintro _ _ ⟨rfl,rfl⟩;refine AE ?_;refine A4 ?_
    exact BO takeZ rsubZ selZ ⟨(u,false,σ),.inl ⟨rfl,⟨by rw [hm1]; exact hins,by rw [hm1]; exact hO⟩,rfl⟩⟩
   | true =>
    rw [hfv,← hins,if_neg (by simp)] at hm1
    obtain ⟨l,c,e1,e2⟩:=spans_odd t hins.symm
    rw [e1] at hO hsl
    have hll:(l ++ [(c,(0:Int))]).length = l.length + 1:=by simp
    obtain ⟨bu,cu,rfl⟩:=hO.formP (by omega)
    have hget:(l ++ [(c,(0:Int))])[(l ++ [(c,(0:Int))]).length - 1]? = some (c,0):=by simp
    refine AC ?_;refine AE ?_;refine AD ?_;refine AP ?_;refine AD ?_;refine AA ?_;refine AB ?_;refine AB ?_;refine AH rfl rfl rfl ?_;refine AH rfl rfl rfl ?_;refine AJ ?_;refine AC ?_;refine AE ?_;refine AN rfl ?_;refine AD ?_;refine AA ?_;refine AB ?_;refine BB ?_;refine AB ?_;refine AF ?_;refine AK ?_;refine AC ?_;refine AE ?_;refine AM rfl ?_;refine AA ?_;refine AF ?_;refine AF ?_;refine AV ?_;refine DI ?_;refine AB ?_;refine BA ?_;refine DV ?_
    refine B5 (EZ encS_len (s:=2) ((l ++ [(c,(0:Int))]).length - 1) 1 (c,t) hO rfl (by simp; rfl) (by decide) hget rfl rfl rfl rfl takeZ) rfl rfl ?_
    rintro _ _ ⟨rfl,σ1,hO1,rfl⟩;refine AE ?_;refine A4 ?_;refine AA ?_;refine AB ?_;refine A7 ?_; rintro _ _ ⟨rfl,rfl⟩;refine AE ?_;refine A4 ?_;refine BO takeZ rsubZ selZ ⟨(.slice (some ⟨bu,0,none⟩) (l ++ [(c,(0:Int))]).length cu,false,σ1),.inl ⟨rfl,⟨?_,?_⟩,rfl⟩⟩
    ·dsimp only
     rw [hm1,List.length_append,List.length_singleton,oddB_succ,← hins]; rfl
    ·dsimp only
     rw [hm1,e2]
     have es:(l ++ [(c,(0:Int))]).set ((l ++ [(c,(0:Int))]).length - 1) (c,t) = l ++ [(c,t)]:=by simp
     rw [es] at hO1
     simpa using hO1
 ·rintro b2' ⟨u,ins,σ⟩ ⟨hins,hO⟩
  rw [List.length_map,List.take_length] at hins hO
  dsimp only at hins hO
  have hO2:OwnS 93 2 u (combI f a b).length ((combI f a b).flatMap encS) σ:=hO
  obtain ⟨p,c,rfl⟩:=hO2.form
  clear hO
  generalize combI f a b = out at hO2 hcl
  refine A4 ?_;refine AD ?_;refine AD ?_;refine AA ?_;refine AF ?_;refine AV ?_;refine BX ?_;refine AE ?_;refine AN rfl ?_;refine AL ?_;refine AD ?_;refine AA ?_;refine AF ?_;refine AC ?_;refine AC ?_;refine AE ?_;exact D0 (Marks.cons .here .nil) (res2 rfl rfl rfl) rsubZ selZ ⟨σ,⟨_,rfl,hO2⟩,rfl⟩
 ·rintro _ _ _ h; exact h.elim
end Go.Proofs.YtphehihohghfoaaGreat
/- How many ticks a set has; the sets of a set of vertices have as many as it has. No program in sight. No conditions. -/
namespace Go.Step
open Go.Flow (sideChk capacitySpec)
variable {qs:List Int} {cs:List Ct} {bs:List Bk} {hs:List Hd} {d:Dm}
end Go.Step
/- The sides of a cut are short. No program in sight. No conditions. -/
namespace Go.Step
theorem norm_len:∀ {l:Iv} {a b:Int},NormI l → (∀ x ∈ l,a ≤ x.1 ∧ x.2 ≤ b) → (l.length:Int) ≤ max 0 (b - a)
  | [],a,b,_,_=>by simp only [List.length_nil]; omega
  | x :: l,a,b,h,hb=>by
    have h1:=hb x (by simp)
    have h2:=h.1 x (by simp)
    have hp:=List.pairwise_cons.1 h.2
    have ih:=norm_len (l:=l) (a:=x.2 + 1) (b:=b) ⟨fun y hy=>h.1 y (by simp [hy]),hp.2⟩ (fun y hy=>by
      have h3:=hp.1 y hy
      have h4:=hb y (by simp [hy])
      exact ⟨by omega,h4.2⟩)
    rw [List.length_cons];omega
section
variable {qs:List Int} {cs:List Ct} {bs:List Bk} {hs:List Hd} {d:Dm}
theorem sideI_small (h:VOk qs cs bs hs d) (side:List Int) (n:Int):(sideI d side n).length ≤ 102:=by
  have hdm:=h.dm
  unfold okDm at hdm
  have:=norm_len (sideI_ok d side n).1 (sideI_in (d:=d) (by omega) side n)
  omega
theorem sideI_chk (h:VOk qs cs bs hs d) (side:List Int) (n:Int):chkI (sideI d side n) = 0:=by
  have hdm:=h.dm
  unfold okDm at hdm
  have h1:=(sideI_ok d side n).1
  have h2:=sideI_small h side n
  refine chkI_of (by omega) h1 (fun x hx=>?_)
  have a:=sideI_in (d:=d) (by omega) side n x hx
  have b:=h1.1 x hx
  exact ⟨b,by omega,by omega⟩
end
end Go.Step
/- Cuts of sets of vertices. -/
namespace Go.Proofs.YtphehihohghfoaaGreat
open Go.Eng Go.Step
set_option maxRecDepth 100000
set_option maxHeartbeats 4000000

def rowsQ (L:List Sq):List Value:=L.map (fun x=>.slice x.1.1 x.2.length x.1.2)
theorem rowsQ_flat:∀ L:List Sq,L.flatMap encQ = rowsQ L
 | []=>rfl
 | x :: L=>by
  rw [List.flatMap_cons,rowsQ_flat L]
  rfl
theorem rowsQ_len (L:List Sq):(rowsQ L).length = L.length:=List.length_map _
theorem rowsQ_set (L:List Sq) (k:Nat) (z:Sq):(rowsQ L).toArray.setIfInBounds k (.slice z.1.1 z.2.length z.1.2) = (rowsQ (L.set k z)).toArray:=by
 apply Array.toList_inj.1
 rw [Array.toList_setIfInBounds];unfold rowsQ;rw [List.map_set]
theorem rowsQ_rep (n:Nat):List.replicate n (Value.slice none 0 0) = rowsQ (List.replicate n ((none,0),[])):=by
 unfold rowsQ;rw [List.map_replicate]
 rfl
theorem exOr_spec (x y:Bool):Ans Tryz.prog (fv 100) [.bool x,.bool y] [] (fun r=>r = .bool (x || y)):=by
 refine spec_in (cap:=[]) Tryz.func100 rfl rfl Tryz.ntmps100 rfl envZ (fun N β=>?_)
 cases x <;> cases y
 all_goals
  repeat' (first
   | (refine AB ?_)
   | (refine AC ?_)
   | (refine AK ?_)
   | (refine AJ ?_)
   | (refine AD ?_)
   | (refine AA ?_)
   | (refine AE ?_)
   | (refine AH rfl rfl rfl ?_)
   | fail)
  exact AI (res1 rfl rfl) rsubZ selZ ⟨rfl,rfl⟩
theorem exUnion_spec (ρ τ:PH) (va vb:Value) (a b:Iv) (ha:SpAt ρ va a) (hb:SpAt τ vb b) (h0a:chkI a = 0) (h0b:chkI b = 0) (hlen:a.length + b.length ≤ 1000) :
  Makes Tryz.prog (fv 63) [va,vb] [ρ,τ] (fun r σ=>∃ u,r = .tuple #[u,int 0] ∧ OwnS 93 2 u (combI (fun x y=>x || y) a b).length ((combI (fun x y=>x || y) a b).flatMap encS) σ):=by
 have h:=ivCombine_spec ρ τ va vb 100 a b (fun x y=>x || y) ha hb h0a h0b hlen rfl exOr_spec
 obtain ⟨qa,ca,rfl,_⟩:=ha.val encS_len
 obtain ⟨qb,cb,rfl,_⟩:=hb.val encS_len
 refine spec_in (cap:=[]) Tryz.func63 rfl rfl Tryz.ntmps63 rfl envZ (fun N β=>?_)
 refine AD ?_;refine AA ?_;refine AC ?_;refine AC ?_;refine AE ?_;refine AD ?_;refine AA ?_;refine AB ?_;refine AB ?_;refine BW h rfl rfl rdZ rfl rfl ?_;rintro _ σ ⟨u,rfl,hO⟩;refine AO ?_;refine AO ?_;refine AC ?_;refine AC ?_;refine AE ?_;exact AI (res2 rfl rfl rfl) rsubZ selZ ⟨σ,⟨u,rfl,hO⟩,rfl⟩
set_option maxHeartbeats 32000000 in
theorem Sides_spec {ρ τ σ υ:PH} {pq pc pb ph:Option Addr} {kq kc kb kh:Nat} {qs:List Int} {cs:List Ct} {bs:List Bk} {hs:List Hd} (hT:TbAt ρ τ σ υ pq pc pb ph kq kc kb kh qs cs bs hs) (d:Dm) (ω:PH) (u0:Value) (side:List Int) (hu:IntsAt ω u0 side) (hsl:side.length ≤ 1000000) :
  Eng.Spec Tryz.prog (fv 31) [.agg #[.slice pq qs.length kq,.slice pc cs.length kc,.slice pb bs.length kb,.slice ph hs.length kh],.agg #[int d.s,int d.d,int d.v,int d.r,int d.e],u0] [ρ,τ,σ,υ,ω] [] (fun r H'=>∃ (L:List Sq) (u:Value) (σ' χ':PH),r = .tuple #[u,int (sidesE qs cs bs hs d side)] ∧ H' = [σ',χ'] ∧ cuL L = (if sidesE qs cs bs hs d side = 0 then sidesC d qs.length side else []) ∧ CutL σ' χ' u L):=by
 obtain ⟨pf,kf,rfl,hrf⟩:=hu.val Eng.encI_len
 have hnil:CutL emp emp (.slice none 0 0) []:=⟨⟨rfl,.inl ⟨rfl,none,0,rfl⟩⟩,by simp⟩
 refine spec_in (cap:=[]) Tryz.func31 rfl rfl Tryz.ntmps31 rfl envZ (fun N β=>?_)
 refine AD ?_;refine AA ?_;refine BH (BK rfl) rfl rfl rfl ?_;rintro _ _ ⟨b1,rfl,rfl⟩;refine AS (ρ:=sng b1 _) takeZ ?_
 have ct:RdN (sng b1 (.cells #[.slice pq qs.length kq,.slice pc cs.length kc,.slice pb bs.length kb,.slice ph hs.length kh] 29 (0,0))) b1 0 [.slice pq qs.length kq,.slice pc cs.length kc,.slice pb bs.length kb,.slice ph hs.length kh]:=rdN_sng (vs:=[.slice pq qs.length kq,.slice pc cs.length kc,.slice pb bs.length kb,.slice ph hs.length kh])
 have ct0:rdc (sng b1 (.cells #[.slice pq qs.length kq,.slice pc cs.length kc,.slice pb bs.length kb,.slice ph hs.length kh] 29 (0,0))) b1 0 = some (.slice pq qs.length kq):=by rw [rdc_sng]; rfl
 have ct1:rdc (sng b1 (.cells #[.slice pq qs.length kq,.slice pc cs.length kc,.slice pb bs.length kb,.slice ph hs.length kh] 29 (0,0))) b1 1 = some (.slice pc cs.length kc):=by rw [rdc_sng]; rfl
 have ct2:rdc (sng b1 (.cells #[.slice pq qs.length kq,.slice pc cs.length kc,.slice pb bs.length kb,.slice ph hs.length kh] 29 (0,0))) b1 2 = some (.slice pb bs.length kb):=by rw [rdc_sng]; rfl
 have ct3:rdc (sng b1 (.cells #[.slice pq qs.length kq,.slice pc cs.length kc,.slice pb bs.length kb,.slice ph hs.length kh] 29 (0,0))) b1 3 = some (.slice ph hs.length kh):=by rw [rdc_sng]; rfl
 have ctp:RdP (sng b1 (.cells #[.slice pq qs.length kq,.slice pc cs.length kc,.slice pb bs.length kb,.slice ph hs.length kh] 29 (0,0))) b1 0 [.slice pq qs.length kq,.slice pc cs.length kc]:=rdP_sng (xs:=[.slice pq qs.length kq,.slice pc cs.length kc,.slice pb bs.length kb,.slice ph hs.length kh]) rfl
 refine BH (BK rfl) rfl rfl rfl ?_;rintro _ _ ⟨b2,rfl,rfl⟩;refine AS (ρ:=sng b2 _) takeZ ?_
 have cd:RdN (sng b2 (.cells #[int d.s,int d.d,int d.v,int d.r,int d.e] 31 (0,0))) b2 0 [int d.s,int d.d,int d.v,int d.r,int d.e]:=rdN_sng (vs:=[int d.s,int d.d,int d.v,int d.r,int d.e])
 have cd0:rdc (sng b2 (.cells #[int d.s,int d.d,int d.v,int d.r,int d.e] 31 (0,0))) b2 0 = some (int d.s):=by rw [rdc_sng]; rfl
 have cd1:rdc (sng b2 (.cells #[int d.s,int d.d,int d.v,int d.r,int d.e] 31 (0,0))) b2 1 = some (int d.d):=by rw [rdc_sng]; rfl
 have cd2:rdc (sng b2 (.cells #[int d.s,int d.d,int d.v,int d.r,int d.e] 31 (0,0))) b2 2 = some (int d.v):=by rw [rdc_sng]; rfl
 have cd3:rdc (sng b2 (.cells #[int d.s,int d.d,int d.v,int d.r,int d.e] 31 (0,0))) b2 3 = some (int d.r):=by rw [rdc_sng]; rfl
 have cd4:rdc (sng b2 (.cells #[int d.s,int d.d,int d.v,int d.r,int d.e] 31 (0,0))) b2 4 = some (int d.e):=by rw [rdc_sng]; rfl
 refine BV ?_;refine BV ?_;refine AC ?_;refine AC ?_;refine AE ?_;refine AD ?_;refine AA ?_;refine AT ?_;refine AT ?_;refine BE (build_spec hT d) rfl rfl Takes.nil rdZ rfl rfl ?_;rintro _ H' (⟨hv,rfl,rfl⟩ | ⟨hv,bw,bm,pl0,χ,M,rfl,rfl,hO,hM⟩)
 ·have hE:sidesE qs cs bs hs d side = 1:=by unfold sidesE; rw [if_neg (by simp [hv])]
  rw [hE];refine AB ?_;refine AO ?_;refine AO ?_;refine AC ?_;refine AC ?_;refine AE ?_;refine AD ?_;refine AD ?_;refine AA ?_;refine AB ?_;refine BB ?_;refine AE ?_;refine AM rfl ?_;refine AD ?_;refine AA ?_;refine AC ?_;refine AC ?_;refine AE ?_;exact AI (res2 rfl rfl rfl) rsubZ selZ ⟨[],_,emp,emp,rfl,rfl,rfl,hnil⟩
 have hEv:sidesE qs cs bs hs d side = (Go.Flow.capacitySpec (vsN qs d) (arcsG qs cs bs hs d) side).2:=by unfold sidesE; rw [if_pos hv]
 have h:=vok hv
 have h0:=vokB hv
 have hdm:=h.dm
 unfold okDm at hdm
 have hnq:=h.nq
 obtain ⟨pl,kp,rfl⟩:=hO.form
 have hpl:SlE encS 2 χ (.slice pl (placesA d qs.length).length kp) (placesA d qs.length):=hO.at
 refine AS (ρ:=sng bw _) takeZ ?_;refine AS (ρ:=sng bm _) takeZ ?_;refine AS (ρ:=χ) takeZ ?_
 have w0:rdc (sng bw (.cells #[.slice pq qs.length kq,.slice pc cs.length kc,.slice pb bs.length kb,.slice ph hs.length kh,int d.s,int d.d,int d.v,int d.r,int d.e,.slice pl (placesA d qs.length).length kp,.map (some bm)] 134 (0,0))) bw 0 = some (.slice pq qs.length kq):=by rw [rdc_sng]; rfl
 have w1:rdc (sng bw (.cells #[.slice pq qs.length kq,.slice pc cs.length kc,.slice pb bs.length kb,.slice ph hs.length kh,int d.s,int d.d,int d.v,int d.r,int d.e,.slice pl (placesA d qs.length).length kp,.map (some bm)] 134 (0,0))) bw 1 = some (.slice pc cs.length kc):=by rw [rdc_sng]; rfl
 have w2:rdc (sng bw (.cells #[.slice pq qs.length kq,.slice pc cs.length kc,.slice pb bs.length kb,.slice ph hs.length kh,int d.s,int d.d,int d.v,int d.r,int d.e,.slice pl (placesA d qs.length).length kp,.map (some bm)] 134 (0,0))) bw 2 = some (.slice pb bs.length kb):=by rw [rdc_sng]; rfl
 have w3:rdc (sng bw (.cells #[.slice pq qs.length kq,.slice pc cs.length kc,.slice pb bs.length kb,.slice ph hs.length kh,int d.s,int d.d,int d.v,int d.r,int d.e,.slice pl (placesA d qs.length).length kp,.map (some bm)] 134 (0,0))) bw 3 = some (.slice ph hs.length kh):=by rw [rdc_sng]; rfl
 have w4:rdc (sng bw (.cells #[.slice pq qs.length kq,.slice pc cs.length kc,.slice pb bs.length kb,.slice ph hs.length kh,int d.s,int d.d,int d.v,int d.r,int d.e,.slice pl (placesA d qs.length).length kp,.map (some bm)] 134 (0,0))) bw 4 = some (int d.s):=by rw [rdc_sng]; rfl
 have w5:rdc (sng bw (.cells #[.slice pq qs.length kq,.slice pc cs.length kc,.slice pb bs.length kb,.slice ph hs.length kh,int d.s,int d.d,int d.v,int d.r,int d.e,.slice pl (placesA d qs.length).length kp,.map (some bm)] 134 (0,0))) bw 5 = some (int d.d):=by rw [rdc_sng]; rfl
 have w6:rdc (sng bw (.cells #[.slice pq qs.length kq,.slice pc cs.length kc,.slice pb bs.length kb,.slice ph hs.length kh,int d.s,int d.d,int d.v,int d.r,int d.e,.slice pl (placesA d qs.length).length kp,.map (some bm)] 134 (0,0))) bw 6 = some (int d.v):=by rw [rdc_sng]; rfl
 have w7:rdc (sng bw (.cells #[.slice pq qs.length kq,.slice pc cs.length kc,.slice pb bs.length kb,.slice ph hs.length kh,int d.s,int d.d,int d.v,int d.r,int d.e,.slice pl (placesA d qs.length).length kp,.map (some bm)] 134 (0,0))) bw 7 = some (int d.r):=by rw [rdc_sng]; rfl
 have w8:rdc (sng bw (.cells #[.slice pq qs.length kq,.slice pc cs.length kc,.slice pb bs.length kb,.slice ph hs.length kh,int d.s,int d.d,int d.v,int d.r,int d.e,.slice pl (placesA d qs.length).length kp,.map (some bm)] 134 (0,0))) bw 8 = some (int d.e):=by rw [rdc_sng]; rfl
 have w9:rdc (sng bw (.cells #[.slice pq qs.length kq,.slice pc cs.length kc,.slice pb bs.length kb,.slice ph hs.length kh,int d.s,int d.d,int d.v,int d.r,int d.e,.slice pl (placesA d qs.length).length kp,.map (some bm)] 134 (0,0))) bw 9 = some (.slice pl (placesA d qs.length).length kp):=by rw [rdc_sng]; rfl
 have w10:rdc (sng bw (.cells #[.slice pq qs.length kq,.slice pc cs.length kc,.slice pb bs.length kb,.slice ph hs.length kh,int d.s,int d.d,int d.v,int d.r,int d.e,.slice pl (placesA d qs.length).length kp,.map (some bm)] 134 (0,0))) bw 10 = some (.map (some bm)):=by rw [rdc_sng]; rfl
 have hg:=graph_spec hT bw bm kp pl χ M d h h0 hpl hM
 have hEl:=ea_len qs cs bs hs d h
 have hAl:(arcsG qs cs bs hs d).length = (arcsE qs cs bs hs d).length:=by unfold arcsG; rw [List.length_map]
 refine AB ?_;refine AO ?_;refine AO ?_;refine AC ?_;refine AC ?_;refine AE ?_;refine AD ?_;refine AD ?_;refine AA ?_;refine AB ?_;refine BB ?_;refine AE ?_;refine AN rfl ?_;refine AL ?_;refine AD ?_;refine AA ?_;refine AB ?_;refine BW hg rfl rfl rdZ rfl rfl ?_;rintro _ σg ⟨ug,rfl,hOg⟩
 have hAt:ArcsAt σg ug (arcsG qs cs bs hs d):=hOg.at
 obtain ⟨pg,kg,rfl⟩:=hOg.form
 refine AS (ρ:=σg) takeZ ?_;refine AY ?_; rintro _ _ ⟨b,rfl,rfl⟩;refine AW ?_; rintro _ _ ⟨rfl,rfl⟩;refine AE ?_;refine AD ?_;refine AD ?_;refine AA ?_;refine AG ?_;refine AF ?_;refine AG ?_;refine AF ?_;refine AB ?_
 revert b; intro bg
 refine AS (ρ:=sng bg _) takeZ ?_
 have gg0:rdc (sng bg (.cells #[int (vsN qs d),.slice pg (arcsG qs cs bs hs d).length kg,int (vtx d d.s d.r),int (vtx d d.d d.e)] 69 (0,0))) bg 0 = some (int (vsN qs d)):=by rw [rdc_sng]; rfl
 have gg1:rdc (sng bg (.cells #[int (vsN qs d),.slice pg (arcsG qs cs bs hs d).length kg,int (vtx d d.s d.r),int (vtx d d.d d.e)] 69 (0,0))) bg 1 = some (.slice pg (arcsG qs cs bs hs d).length kg):=by rw [rdc_sng]; rfl
 have gg2:rdc (sng bg (.cells #[int (vsN qs d),.slice pg (arcsG qs cs bs hs d).length kg,int (vtx d d.s d.r),int (vtx d d.d d.e)] 69 (0,0))) bg 2 = some (int (vtx d d.s d.r)):=by rw [rdc_sng]; rfl
 have gg3:rdc (sng bg (.cells #[int (vsN qs d),.slice pg (arcsG qs cs bs hs d).length kg,int (vtx d d.s d.r),int (vtx d d.d d.e)] 69 (0,0))) bg 3 = some (int (vtx d d.d d.e)):=by rw [rdc_sng]; rfl
 have hcap:=flowCapacity_spec σg ω _ _ (vsN qs d) (arcsG qs cs bs hs d) side hAt hu (by omega) (by omega)
 skip
 refine A2 hcap rfl rfl rdZ rfl rfl ?_;rintro _ rfl;rw [← hEv]
 generalize (Go.Flow.capacitySpec (vsN qs d) (arcsG qs cs bs hs d) side).1 = vv
 by_cases hz:sidesE qs cs bs hs d side = 0
 rotate_left
 ·rw [if_neg hz]
  refine AB ?_;refine AO ?_;refine AO ?_;refine AC ?_;refine AC ?_;refine AE ?_;refine AD ?_;refine AA ?_;refine AB ?_;refine CG ?_;refine AE ?_;refine AM rfl ?_;refine AD ?_;refine AA ?_;refine AB ?_;refine AC ?_;refine AC ?_;refine AE ?_;exact AI (res2 rfl rfl rfl) rsubZ selZ ⟨[],_,emp,emp,rfl,rfl,rfl,hnil⟩
 have hin:=sidesE_in hv hz
 rw [hz,if_pos rfl]
 have hplen:(((placesA d qs.length).length:Nat):Int) = vsN qs d:=placesA_len (d:=d) (by omega) qs.length
 obtain ⟨_,_,ep,hrp⟩:=SlE.val (enc:=encS) encS_len hpl
 simp only [Value.slice.injEq] at ep
 obtain ⟨rfl,_,rfl⟩:=ep
 refine AB ?_;refine AO ?_;refine AO ?_;refine AC ?_;refine AC ?_;refine AE ?_;refine AD ?_;refine AA ?_;refine AB ?_;refine BG ?_;refine AE ?_;refine AN rfl ?_;refine AL ?_;refine AD ?_;refine AA ?_;refine AG ?_;refine AG ?_;refine AF ?_;refine AV ?_;refine F7 ?_; rintro _ _ ⟨b,rfl,rfl⟩;refine AC ?_;refine AE ?_;refine AD ?_;refine AD ?_;refine AA ?_;refine AB ?_;refine AV ?_;refine AB ?_;refine AE ?_;refine AP ?_
 revert b; intro B
 rw [rowsQ_rep]
 refine BD [3,8,13,44,45] (X:=Nat × List Sq × PH) (0,List.replicate qs.length ((none,0),[]),emp) (fun x=>x.1 ≤ side.length ∧ cuL x.2.1 = sidesC d qs.length (side.take x.1) ∧ ∀ z ∈ x.2.1,SpAt x.2.2 (.slice z.1.1 z.2.length z.1.2) z.2 ∧ z.2.length ≤ 1000) (fun x=>[(46,int x.1)]) (fun x=>[sng B (.cells (rowsQ x.2.1).toArray 91 (0,0)),x.2.2]) (fun x=>side.length - x.1) pickZ ⟨by dsimp only; omega,?_,fun z hz=>?_⟩ covZ selZ ?_
 ·dsimp only
  rw [List.take_zero,sidesC_nil];exact List.map_replicate
 ·obtain ⟨_,rfl⟩:=List.mem_replicate.1 hz
  exact ⟨⟨rfl,.inl ⟨rfl,_,_,rfl⟩⟩,by simp⟩
 rintro ⟨k,L,κ⟩ ⟨hk,hL,hS⟩
 dsimp only at hk hL hS ⊢
 have hLl:L.length = qs.length:=by
  have:=congrArg List.length hL
  rwa [List.length_map,sidesC_len] at this
 by_cases hlt:k < side.length
 rotate_left
 ·have hke:k = side.length:=by omega
  subst hke;rw [List.take_length] at hL;refine AD ?_;refine AA ?_;refine AZ ?_;refine AE ?_;refine AD ?_;refine AN rfl ?_;refine A8 rfl ?_;refine AD ?_;refine AA ?_;refine AB ?_;refine AC ?_;refine AC ?_;refine AE ?_
  refine AI (res2 rfl rfl rfl) rsubZ selZ ⟨L,.slice (some ⟨B,0,none⟩) qs.length qs.length,_,κ,rfl,rfl,hL,?_,fun z hz=>⟨(hS z hz).1,by have:=(hS z hz).2; omega⟩⟩
  have:=slE_sng (enc:=encQ) encQ_len (b:=B) (l:=L) (t:=91) (fr:=(0,0)) (c:=qs.length)
  unfold elems at this;rw [rowsQ_flat,hLl] at this;exact this
 have hx:=List.getElem?_eq_getElem hlt
 have hvi:=hin _ (List.getElem_mem hlt)
 obtain ⟨n,t,hn,ht1,ht2,hkv,hkn⟩:=place_of (d:=d) (by omega) (k:=side[k].toNat) (N:=qs.length) (by rw [Int.toNat_of_nonneg hvi.1]; exact hvi.2)
 rw [Int.toNat_of_nonneg hvi.1] at hkv
 have hp:=placesA_get (d:=d) (by omega) ht1 ht2 hn
 rw [← hkv] at hp
 have hdv:=vtx_div (d:=d) (n:=n) (t:=t) ht1 ht2
 have hdm2:=vtx_mod (d:=d) (n:=n) (t:=t) ht1 ht2
 rw [← hkv] at hdv hdm2
 have hnx:=sidesC_next d qs.length hlt hdv
 rw [hdm2,show d.r + (t - d.r) = t by omega,← sideI_one (sideI_ok d (side.take k) n).1] at hnx
 obtain ⟨b6,o6,epl,hRd6,y0,y1⟩:=spRow hrp hp
 obtain ⟨bo,oo,epf,gf⟩:=hrf.int hx
 have hLn:=List.getElem?_eq_getElem (show n < L.length by omega)
 have hSn:=hS _ (List.getElem_mem (show n < L.length by omega))
 have hLe:L[n].2 = sideI d (side.take k) n:=by
  have e1:(cuL L)[n]? = some L[n].2:=by rw [List.getElem?_map,hLn]; rfl
  rw [hL] at e1;unfold sidesC at e1;rw [List.getElem?_map,List.getElem?_range hn] at e1;exact (Option.some.inj e1).symm
 have hnorm:=(sideI_ok d (side.take k) n).1
 have hslen:=sideI_small h (side.take k) n
 have hchk:=sideI_chk h (side.take k) n
 rw [← hLe] at hnorm hslen hchk hnx
 have gB:rdc (sng B (.cells (rowsQ L).toArray 91 (0,0))) B n = some (.slice L[n].1.1 L[n].2.length L[n].1.2):=by
  rw [rdc_sng]
  simp [rowsQ,hLn]
 generalize hzz:L[n] = z at hLn hSn hLe hnorm hslen hchk hnx gB
 obtain ⟨⟨pz,kz⟩,lz⟩:=z
 dsimp only at hSn hLe hnorm hslen hchk hnx gB
 have hc1:chkI [(t,t + 1)] = 0:=chkI_of (by simp) (NormI.nil.cons (by dsimp only; omega) (by simp)) (fun x hx=>by
  obtain rfl:=List.mem_singleton.1 hx
  unfold okSp
  dsimp only
  omega)
 have hun:=fun b8=>exUnion_spec κ (sng b8 (.cells #[int t,int (t + 1)] 93 (0,0))) (.slice pz lz.length kz) (.slice (some ⟨b8,0,none⟩) 1 1) lz [(t,t + 1)] hSn.1 (slE_sng encS_len) hchk hc1 (by simp only [List.length_singleton]; omega)
 have hcl:=(combI_ok (f:=fun x y=>x || y) rfl hnorm (b:=[(t,t + 1)]) (NormI.nil.cons (by dsimp only; omega) (by simp))).2.2
 simp only [List.length_singleton] at hcl
 obtain ⟨v,hvv⟩:=Int.eq_ofNat_of_zero_le hvi.1
 rw [hvv] at gf y0 y1 hRd6;rw [Int.toNat_natCast] at y0 y1 hRd6
 have hvl:(v:Int) < (((placesA d qs.length).length:Nat):Int):=by omega
 subst epl;subst epf;refine AD ?_;refine AA ?_;refine BC ?_;refine AE ?_;refine AD ?_;refine AM rfl ?_;refine AL ?_;refine AD ?_;refine AP ?_;refine AD ?_;refine AA ?_;refine BS ?_;refine AF ?_;refine AC ?_;refine AE ?_;refine AD ?_;refine AA ?_;refine AB ?_;refine BM ?_;refine AG ?_;refine AF ?_;refine AB ?_;refine BA ?_;refine AT ?_;refine AY ?_; rintro _ _ ⟨b,rfl,rfl⟩;refine AW ?_; rintro _ _ ⟨rfl,rfl⟩;refine AE ?_
 revert b; intro b16
 refine A5 (.q 0 (.q 1 (.q 2 (.q 3 (.q 4 (.q 5 (.q 6 (.q 7 (.q 8 (.q 9 (.q 10 (.q 11 (.q 12 (.q 13 (.l 14 .e (.l 15 .e (.q 16 (.q 17 (.p 18 (.q 19 (.l 20 .b .nil))))))))))))))))))))) [] rfl (by kernel_rfl) Sel.nil ?_
 refine AR ?_;refine AU ?_;refine AQ ?_;refine AR ?_;refine AU ?_;refine AQ ?_;refine CB ?_;refine AQ ?_;refine AU ?_;refine AQ ?_;refine AU ?_;refine AQ ?_;refine C6 ?_;refine CQ ?_;refine B4 ?_; rintro _ _ ⟨b,rfl,rfl⟩
 revert b; intro b8
 refine CN (DF rfl (hun b8) rfl rfl rdZ rfl rfl ?_);rintro _ _ ⟨σi,⟨ui,rfl,hOi⟩,rfl⟩
 obtain ⟨pi,ci,rfl⟩:=hOi.form
 refine AR ?_;refine DH ?_;refine E8 ?_;refine CB ?_;refine CN ?_;refine' FY rfl _ rfl rfl _ _; rotate_left
 ·(apply C7; exact rfl; exact rfl; exact rfl; exact rfl; exact takeZ; (simp [rowsQ_len]; omega))
 ·rintro _ _ ⟨_,rfl⟩ w hw; exact hw.sel Sel.nil
 rintro _ _ ⟨rfl,rfl⟩;refine A6 ?_;refine A4 ?_;refine AA ?_;refine A9 ?_;refine AB ?_;refine AE ?_
 show JK _ _ _ (sng B (.cells ((rowsQ L).toArray.setIfInBounds n (Value.slice pi (combI (fun x y=>x || y) lz [(t,t + 1)]).length ci)) 91 (0,0)) :: _) _ _
 have hset:=rowsQ_set L n ((pi,ci),combI (fun x y=>x || y) lz [(t,t + 1)])
 dsimp only at hset
 rw [hset]
 refine DS (ρ:=σi) (σ:=κ) takeZ takeZ (fun χ1 s1 s2=>?_)
 refine AX (k + 1,L.set n ((pi,ci),combI (fun x y=>x || y) lz [(t,t + 1)]),χ1) ⟨by dsimp only; omega,?_,fun z hz=>?_⟩ (by dsimp only; omega) covZ selZ
 ·dsimp only
  rw [hnx,← hL];exact List.map_set
 ·rcases List.mem_or_eq_of_mem_set hz with hz | rfl
  ·exact ⟨(hS z hz).1.mono s2,(hS z hz).2⟩
  ·exact ⟨SlE.mono (show SpAt σi _ _ from hOi.at) s1,by dsimp only; omega⟩
end Go.Proofs.YtphehihohghfoaaGreat
/- Sizes, demands, equal cuts. -/
namespace Go.Proofs.YtphehihohghfoaaGreat
open Go.Eng Go.Step
set_option maxRecDepth 100000
set_option maxHeartbeats 4000000

theorem greatPlan_spec (pq pc:Option Addr) (kq kc nq nc:Nat):Ans Tryz.prog (fv 87) [.agg #[.slice pq nq kq,.slice pc nc kc]] [] (fun r=>r = .bool (decide (6 < nq ∨ 10 < nc))):=by
 refine spec_in (cap:=[]) Tryz.func87 rfl rfl Tryz.ntmps87 rfl envZ (fun N β=>?_)
 refine AD ?_;refine AA ?_;refine BH (BK rfl) rfl rfl rfl ?_;rintro _ _ ⟨b1,rfl,rfl⟩;refine AS (ρ:=sng b1 _) takeZ ?_
 have c:RdN (sng b1 (.cells #[.slice pq nq kq,.slice pc nc kc] 25 (0,0))) b1 0 [.slice pq nq kq,.slice pc nc kc]:=rdN_sng (vs:=[.slice pq nq kq,.slice pc nc kc])
 have c0:rdc (sng b1 (.cells #[.slice pq nq kq,.slice pc nc kc] 25 (0,0))) b1 0 = some (.slice pq nq kq):=by rw [rdc_sng]; rfl
 have c1:rdc (sng b1 (.cells #[.slice pq nq kq,.slice pc nc kc] 25 (0,0))) b1 1 = some (.slice pc nc kc):=by rw [rdc_sng]; rfl
 by_cases h1:6 < nq
 ·rw [decide_eq_true (.inl h1)]
  refine AC ?_;refine AE ?_;refine AD ?_;refine AA ?_;refine AG ?_;refine AF ?_;refine AV ?_;refine CJ ?_;refine AB ?_;refine AH rfl rfl rfl ?_;refine AH rfl rfl rfl ?_;refine AH rfl rfl rfl ?_;refine AH rfl rfl rfl ?_;refine AK ?_;refine AC ?_;refine AE ?_;exact AI (res1 rfl rfl) rsubZ selZ ⟨rfl,rfl⟩
 by_cases h2:10 < nc
 ·rw [decide_eq_true (.inr h2)]
  refine AC ?_;refine AE ?_;refine AD ?_;refine AA ?_;refine AG ?_;refine AF ?_;refine AV ?_;refine BX ?_;refine AB ?_;refine AG ?_;refine AF ?_;refine AV ?_;refine CJ ?_;refine AJ ?_;refine AC ?_;refine AE ?_;exact AI (res1 rfl rfl) rsubZ selZ ⟨rfl,rfl⟩
 rw [decide_eq_false (by omega)]
 refine AC ?_;refine AE ?_;refine AD ?_;refine AA ?_;refine AG ?_;refine AF ?_;refine AV ?_;refine BX ?_;refine AB ?_;refine AG ?_;refine AF ?_;refine AV ?_;refine BX ?_;refine AJ ?_;refine AC ?_;refine AE ?_;exact AI (res1 rfl rfl) rsubZ selZ ⟨rfl,rfl⟩
set_option maxHeartbeats 16000000 in
theorem great29_spec (pq pc pb ph:Option Addr) (kq kc kb kh nq nc nb nh:Nat):Ans Tryz.prog (fv 50) [.agg #[.slice pq nq kq,.slice pc nc kc,.slice pb nb kb,.slice ph nh kh]] [] (fun r=>r = .bool (decide (6 < nq ∨ 10 < nc ∨ 30 < nb ∨ 30 < nh))):=by
 refine spec_in (cap:=[]) Tryz.func50 rfl rfl Tryz.ntmps50 rfl envZ (fun N β=>?_)
 refine AD ?_;refine AA ?_;refine BH (BK rfl) rfl rfl rfl ?_;rintro _ _ ⟨b1,rfl,rfl⟩;refine AS (ρ:=sng b1 _) takeZ ?_
 have c:RdN (sng b1 (.cells #[.slice pq nq kq,.slice pc nc kc,.slice pb nb kb,.slice ph nh kh] 29 (0,0))) b1 0 [.slice pq nq kq,.slice pc nc kc,.slice pb nb kb,.slice ph nh kh]:=rdN_sng (vs:=[.slice pq nq kq,.slice pc nc kc,.slice pb nb kb,.slice ph nh kh])
 have c0:rdc (sng b1 (.cells #[.slice pq nq kq,.slice pc nc kc,.slice pb nb kb,.slice ph nh kh] 29 (0,0))) b1 0 = some (.slice pq nq kq):=by rw [rdc_sng]; rfl
 have c1:rdc (sng b1 (.cells #[.slice pq nq kq,.slice pc nc kc,.slice pb nb kb,.slice ph nh kh] 29 (0,0))) b1 1 = some (.slice pc nc kc):=by rw [rdc_sng]; rfl
 have c2:rdc (sng b1 (.cells #[.slice pq nq kq,.slice pc nc kc,.slice pb nb kb,.slice ph nh kh] 29 (0,0))) b1 2 = some (.slice pb nb kb):=by rw [rdc_sng]; rfl
 have c3:rdc (sng b1 (.cells #[.slice pq nq kq,.slice pc nc kc,.slice pb nb kb,.slice ph nh kh] 29 (0,0))) b1 3 = some (.slice ph nh kh):=by rw [rdc_sng]; rfl
 have ctp:RdP (sng b1 (.cells #[.slice pq nq kq,.slice pc nc kc,.slice pb nb kb,.slice ph nh kh] 29 (0,0))) b1 0 [.slice pq nq kq,.slice pc nc kc]:=rdP_sng (xs:=[.slice pq nq kq,.slice pc nc kc,.slice pb nb kb,.slice ph nh kh]) rfl
 refine AC ?_;refine AE ?_;refine AD ?_;refine AA ?_;refine AG ?_;refine AT ?_;refine A2 (greatPlan_spec pq pc kq kc nq nc) rfl rfl rdZ rfl rfl ?_;rintro _ rfl
 by_cases h1:6 < nq ∨ 10 < nc
 ·rw [decide_eq_true h1,decide_eq_true (by omega)]
  refine AB ?_;refine AH rfl rfl rfl ?_;refine AH rfl rfl rfl ?_;refine AH rfl rfl rfl ?_;refine AH rfl rfl rfl ?_;refine AK ?_;refine AB ?_;refine AH rfl rfl rfl ?_;refine AH rfl rfl rfl ?_;refine AH rfl rfl rfl ?_;refine AH rfl rfl rfl ?_;refine AK ?_;refine AC ?_;refine AE ?_;exact AI (res1 rfl rfl) rsubZ selZ ⟨rfl,rfl⟩
 rw [decide_eq_false h1]
 by_cases h2:30 < nb
 ·rw [decide_eq_true (by omega)]
  refine AB ?_;refine AG ?_;refine AF ?_;refine AV ?_;refine CJ ?_;refine AJ ?_;refine AB ?_;refine AH rfl rfl rfl ?_;refine AH rfl rfl rfl ?_;refine AH rfl rfl rfl ?_;refine AH rfl rfl rfl ?_;refine AK ?_;refine AC ?_;refine AE ?_;exact AI (res1 rfl rfl) rsubZ selZ ⟨rfl,rfl⟩
 by_cases h3:30 < nh
 ·rw [decide_eq_true (by omega)]
  refine AB ?_;refine AG ?_;refine AF ?_;refine AV ?_;refine BX ?_;refine AJ ?_;refine AB ?_;refine AG ?_;refine AF ?_;refine AV ?_;refine CJ ?_;refine AJ ?_;refine AC ?_;refine AE ?_;exact AI (res1 rfl rfl) rsubZ selZ ⟨rfl,rfl⟩
 rw [decide_eq_false (by omega)]
 refine AB ?_;refine AG ?_;refine AF ?_;refine AV ?_;refine BX ?_;refine AJ ?_;refine AB ?_;refine AG ?_;refine AF ?_;refine AV ?_;refine BX ?_;refine AJ ?_;refine AC ?_;refine AE ?_;exact AI (res1 rfl rfl) rsubZ selZ ⟨rfl,rfl⟩
set_option maxHeartbeats 16000000 in
theorem great53_spec (pq pc pb ph:Option Addr) (kq kc kb kh nq nc nb nh:Nat) (d:Dm):Ans Tryz.prog (fv 24) [.agg #[.slice pq nq kq,.slice pc nc kc,.slice pb nb kb,.slice ph nh kh],.agg #[int d.s,int d.d,int d.v,int d.r,int d.e]] [] (fun r=>∃ b,r = .bool b):=by
 refine spec_in (cap:=[]) Tryz.func24 rfl rfl Tryz.ntmps24 rfl envZ (fun N β=>?_)
 refine AD ?_;refine AA ?_;refine BH (BK rfl) rfl rfl rfl ?_;rintro _ _ ⟨b1,rfl,rfl⟩;refine AS (ρ:=sng b1 _) takeZ ?_
 have c:RdN (sng b1 (.cells #[.slice pq nq kq,.slice pc nc kc,.slice pb nb kb,.slice ph nh kh] 29 (0,0))) b1 0 [.slice pq nq kq,.slice pc nc kc,.slice pb nb kb,.slice ph nh kh]:=rdN_sng (vs:=[.slice pq nq kq,.slice pc nc kc,.slice pb nb kb,.slice ph nh kh])
 have c0:rdc (sng b1 (.cells #[.slice pq nq kq,.slice pc nc kc,.slice pb nb kb,.slice ph nh kh] 29 (0,0))) b1 0 = some (.slice pq nq kq):=by rw [rdc_sng]; rfl
 have c1:rdc (sng b1 (.cells #[.slice pq nq kq,.slice pc nc kc,.slice pb nb kb,.slice ph nh kh] 29 (0,0))) b1 1 = some (.slice pc nc kc):=by rw [rdc_sng]; rfl
 have c2:rdc (sng b1 (.cells #[.slice pq nq kq,.slice pc nc kc,.slice pb nb kb,.slice ph nh kh] 29 (0,0))) b1 2 = some (.slice pb nb kb):=by rw [rdc_sng]; rfl
 have c3:rdc (sng b1 (.cells #[.slice pq nq kq,.slice pc nc kc,.slice pb nb kb,.slice ph nh kh] 29 (0,0))) b1 3 = some (.slice ph nh kh):=by rw [rdc_sng]; rfl
 refine BH (BK rfl) rfl rfl rfl ?_;rintro _ _ ⟨b2,rfl,rfl⟩;refine AS (ρ:=sng b2 _) takeZ ?_
 have cd:RdN (sng b2 (.cells #[int d.s,int d.d,int d.v,int d.r,int d.e] 31 (0,0))) b2 0 [int d.s,int d.d,int d.v,int d.r,int d.e]:=rdN_sng (vs:=[int d.s,int d.d,int d.v,int d.r,int d.e])
 have cd0:rdc (sng b2 (.cells #[int d.s,int d.d,int d.v,int d.r,int d.e] 31 (0,0))) b2 0 = some (int d.s):=by rw [rdc_sng]; rfl
 have cd1:rdc (sng b2 (.cells #[int d.s,int d.d,int d.v,int d.r,int d.e] 31 (0,0))) b2 1 = some (int d.d):=by rw [rdc_sng]; rfl
 have cd2:rdc (sng b2 (.cells #[int d.s,int d.d,int d.v,int d.r,int d.e] 31 (0,0))) b2 2 = some (int d.v):=by rw [rdc_sng]; rfl
 have cd3:rdc (sng b2 (.cells #[int d.s,int d.d,int d.v,int d.r,int d.e] 31 (0,0))) b2 3 = some (int d.r):=by rw [rdc_sng]; rfl
 have cd4:rdc (sng b2 (.cells #[int d.s,int d.d,int d.v,int d.r,int d.e] 31 (0,0))) b2 4 = some (int d.e):=by rw [rdc_sng]; rfl
 refine AC ?_;refine AE ?_;refine AD ?_;refine AA ?_;refine AT ?_;refine A2 (great29_spec pq pc pb ph kq kc kb kh nq nc nb nh) rfl rfl rdZ rfl rfl ?_;rintro _ rfl
 obtain ⟨w1,hw1⟩:∃ w1,w1 = IntKind.i64.wrap (d.r + 24):=⟨_,rfl⟩
 obtain ⟨w2,hw2⟩:∃ w2,w2 = IntKind.i64.wrap (d.r + 100):=⟨_,rfl⟩
 cases decide (6 < nq ∨ 10 < nc ∨ 30 < nb ∨ 30 < nh) with
 | true =>
  refine AB ?_;refine AH rfl rfl rfl ?_;refine AH rfl rfl rfl ?_;refine AH rfl rfl rfl ?_;refine AH rfl rfl rfl ?_;refine AH rfl rfl rfl ?_;refine AH rfl rfl rfl ?_;refine AH rfl rfl rfl ?_;refine AH rfl rfl rfl ?_;refine AH rfl rfl rfl ?_;refine AH rfl rfl rfl ?_;refine AH rfl rfl rfl ?_;refine AH rfl rfl rfl ?_;refine AH rfl rfl rfl ?_;refine AH rfl rfl rfl ?_;refine AK ?_;refine AC ?_;refine AE ?_;exact AI (res1 rfl rfl) rsubZ selZ ⟨rfl,_,rfl⟩
 | false =>
 by_cases h2:w1 < d.e
 ·by_cases h3:d.e ≤ w2
  ·refine AB ?_
   refine AG ?_;refine AF ?_;refine AG ?_;refine AF ?_
   focus ((refine CE (EL rfl rfl) rfl rfl rfl ?_; first | rw [← hw1] | rw [← hw2]))
   refine CJ ?_;refine AB ?_;refine AG ?_;refine AF ?_;refine AG ?_;refine AF ?_
   focus ((refine CE (EL rfl rfl) rfl rfl rfl ?_; first | rw [← hw1] | rw [← hw2]))
   refine CL ?_;refine AK ?_;refine AJ ?_;refine AC ?_;refine AE ?_;exact AI (res1 rfl rfl) rsubZ selZ ⟨rfl,_,rfl⟩
  ·refine AB ?_
   refine AG ?_;refine AF ?_;refine AG ?_;refine AF ?_
   focus ((refine CE (EL rfl rfl) rfl rfl rfl ?_; first | rw [← hw1] | rw [← hw2]))
   refine CJ ?_;refine AB ?_;refine AG ?_;refine AF ?_;refine AG ?_;refine AF ?_
   focus ((refine CE (EL rfl rfl) rfl rfl rfl ?_; first | rw [← hw1] | rw [← hw2]))
   refine CO ?_;refine AK ?_;refine AJ ?_;refine AC ?_;refine AE ?_;exact AI (res1 rfl rfl) rsubZ selZ ⟨rfl,_,rfl⟩
 ·refine AB ?_
  refine AG ?_;refine AF ?_;refine AG ?_;refine AF ?_
  focus ((refine CE (EL rfl rfl) rfl rfl rfl ?_; first | rw [← hw1] | rw [← hw2]))
  refine BX ?_;refine AB ?_;refine AH rfl rfl rfl ?_;refine AH rfl rfl rfl ?_;refine AH rfl rfl rfl ?_;refine AH rfl rfl rfl ?_;refine AH rfl rfl rfl ?_;refine AH rfl rfl rfl ?_;refine AJ ?_;refine AJ ?_;refine AC ?_;refine AE ?_;exact AI (res1 rfl rfl) rsubZ selZ ⟨rfl,_,rfl⟩
def okDmB (nq:Nat) (d:Dm):Bool:=decide (okDm nq d)
set_option maxHeartbeats 32000000 in
theorem demand53_spec (pq pc:Option Addr) (kq kc nq nc:Nat) (d:Dm):Ans Tryz.prog (fv 53) [.agg #[.slice pq nq kq,.slice pc nc kc],.agg #[int d.s,int d.d,int d.v,int d.r,int d.e]] [] (fun r=>r = .bool (okDmB nq d)):=by
 refine spec_in (cap:=[]) Tryz.func53 rfl rfl Tryz.ntmps53 rfl envZ (fun N β=>?_)
 refine AD ?_;refine AA ?_;refine BH (BK rfl) rfl rfl rfl ?_;rintro _ _ ⟨b1,rfl,rfl⟩;refine AS (ρ:=sng b1 _) takeZ ?_
 have c:RdN (sng b1 (.cells #[.slice pq nq kq,.slice pc nc kc] 25 (0,0))) b1 0 [.slice pq nq kq,.slice pc nc kc]:=rdN_sng (vs:=[.slice pq nq kq,.slice pc nc kc])
 have c0:rdc (sng b1 (.cells #[.slice pq nq kq,.slice pc nc kc] 25 (0,0))) b1 0 = some (.slice pq nq kq):=by rw [rdc_sng]; rfl
 have c1:rdc (sng b1 (.cells #[.slice pq nq kq,.slice pc nc kc] 25 (0,0))) b1 1 = some (.slice pc nc kc):=by rw [rdc_sng]; rfl
 refine BH (BK rfl) rfl rfl rfl ?_;rintro _ _ ⟨b2,rfl,rfl⟩;refine AS (ρ:=sng b2 _) takeZ ?_
 have cd:RdN (sng b2 (.cells #[int d.s,int d.d,int d.v,int d.r,int d.e] 31 (0,0))) b2 0 [int d.s,int d.d,int d.v,int d.r,int d.e]:=rdN_sng (vs:=[int d.s,int d.d,int d.v,int d.r,int d.e])
 have cd0:rdc (sng b2 (.cells #[int d.s,int d.d,int d.v,int d.r,int d.e] 31 (0,0))) b2 0 = some (int d.s):=by rw [rdc_sng]; rfl
 have cd1:rdc (sng b2 (.cells #[int d.s,int d.d,int d.v,int d.r,int d.e] 31 (0,0))) b2 1 = some (int d.d):=by rw [rdc_sng]; rfl
 have cd2:rdc (sng b2 (.cells #[int d.s,int d.d,int d.v,int d.r,int d.e] 31 (0,0))) b2 2 = some (int d.v):=by rw [rdc_sng]; rfl
 have cd3:rdc (sng b2 (.cells #[int d.s,int d.d,int d.v,int d.r,int d.e] 31 (0,0))) b2 3 = some (int d.r):=by rw [rdc_sng]; rfl
 have cd4:rdc (sng b2 (.cells #[int d.s,int d.d,int d.v,int d.r,int d.e] 31 (0,0))) b2 4 = some (int d.e):=by rw [rdc_sng]; rfl
 by_cases c1:d.s < 0
 ·rw [show okDmB nq d = false from decide_eq_false (fun h=>by unfold okDm at h; omega)]
  refine AC ?_;refine AE ?_;refine AD ?_;refine AA ?_;refine AG ?_;refine AF ?_;refine AV ?_;refine AC ?_;refine AE ?_;refine AD ?_;refine AD ?_;refine AA ?_;refine AG ?_;refine AF ?_;refine BC ?_;refine AB ?_;refine AH rfl rfl rfl ?_;refine AH rfl rfl rfl ?_;refine AH rfl rfl rfl ?_;refine AH rfl rfl rfl ?_;refine AK ?_;refine AB ?_;refine AH rfl rfl rfl ?_;refine AH rfl rfl rfl ?_;refine AH rfl rfl rfl ?_;refine AK ?_;refine AB ?_;refine AH rfl rfl rfl ?_;refine AH rfl rfl rfl ?_;refine AH rfl rfl rfl ?_;refine AH rfl rfl rfl ?_;refine AK ?_;refine AB ?_;refine AH rfl rfl rfl ?_;refine AH rfl rfl rfl ?_;refine AH rfl rfl rfl ?_;refine AH rfl rfl rfl ?_;refine AH rfl rfl rfl ?_;refine AK ?_;refine AB ?_;refine AH rfl rfl rfl ?_;refine AH rfl rfl rfl ?_;refine AH rfl rfl rfl ?_;refine AK ?_;refine AB ?_;refine AH rfl rfl rfl ?_;refine AH rfl rfl rfl ?_;refine AH rfl rfl rfl ?_
  refine AK ?_;refine AE ?_;refine AM rfl ?_;refine AD ?_;refine AA ?_;refine AC ?_;refine AE ?_;exact AI (res1 rfl rfl) rsubZ selZ ⟨rfl,rfl⟩
 by_cases c182:(nq:Int) ≤ d.s
 ·rw [show okDmB nq d = false from decide_eq_false (fun h=>by unfold okDm at h; omega)]
  refine AC ?_;refine AE ?_;refine AD ?_;refine AA ?_;refine AG ?_;refine AF ?_;refine AV ?_;refine AC ?_;refine AE ?_;refine AD ?_;refine AD ?_;refine AA ?_;refine AG ?_;refine AF ?_;refine AZ ?_;refine AB ?_;refine AG ?_;refine AF ?_;refine AB ?_;refine B7 ?_;refine AJ ?_;refine AB ?_;refine AH rfl rfl rfl ?_;refine AH rfl rfl rfl ?_;refine AH rfl rfl rfl ?_;refine AK ?_;refine AB ?_;refine AH rfl rfl rfl ?_;refine AH rfl rfl rfl ?_;refine AH rfl rfl rfl ?_;refine AH rfl rfl rfl ?_;refine AK ?_;refine AB ?_;refine AH rfl rfl rfl ?_;refine AH rfl rfl rfl ?_;refine AH rfl rfl rfl ?_;refine AH rfl rfl rfl ?_;refine AH rfl rfl rfl ?_;refine AK ?_;refine AB ?_;refine AH rfl rfl rfl ?_;refine AH rfl rfl rfl ?_;refine AH rfl rfl rfl ?_;refine AK ?_;refine AB ?_;refine AH rfl rfl rfl ?_;refine AH rfl rfl rfl ?_;refine AH rfl rfl rfl ?_;refine AK ?_;refine AE ?_;refine AM rfl ?_;refine AD ?_
  refine AA ?_;refine AC ?_;refine AE ?_;exact AI (res1 rfl rfl) rsubZ selZ ⟨rfl,rfl⟩
 by_cases c374:d.d < 0
 ·rw [show okDmB nq d = false from decide_eq_false (fun h=>by unfold okDm at h; omega)]
  refine AC ?_;refine AE ?_;refine AD ?_;refine AA ?_;refine AG ?_;refine AF ?_;refine AV ?_;refine AC ?_;refine AE ?_;refine AD ?_;refine AD ?_;refine AA ?_;refine AG ?_;refine AF ?_;refine AZ ?_;refine AB ?_;refine AG ?_;refine AF ?_;refine AB ?_;refine BJ ?_;refine AJ ?_;refine AB ?_;refine AG ?_;refine AF ?_;refine BC ?_;refine AJ ?_;refine AB ?_;refine AH rfl rfl rfl ?_;refine AH rfl rfl rfl ?_;refine AH rfl rfl rfl ?_;refine AH rfl rfl rfl ?_;refine AK ?_;refine AB ?_;refine AH rfl rfl rfl ?_;refine AH rfl rfl rfl ?_;refine AH rfl rfl rfl ?_;refine AH rfl rfl rfl ?_;refine AH rfl rfl rfl ?_;refine AK ?_;refine AB ?_;refine AH rfl rfl rfl ?_;refine AH rfl rfl rfl ?_;refine AH rfl rfl rfl ?_;refine AK ?_;refine AB ?_;refine AH rfl rfl rfl ?_;refine AH rfl rfl rfl ?_;refine AH rfl rfl rfl ?_;refine AK ?_;refine AE ?_;refine AM rfl ?_;refine AD ?_;refine AA ?_;refine AC ?_;refine AE ?_
  exact AI (res1 rfl rfl) rsubZ selZ ⟨rfl,rfl⟩
 by_cases c557:(nq:Int) ≤ d.d
 ·rw [show okDmB nq d = false from decide_eq_false (fun h=>by unfold okDm at h; omega)]
  refine AC ?_;refine AE ?_;refine AD ?_;refine AA ?_;refine AG ?_;refine AF ?_;refine AV ?_;refine AC ?_;refine AE ?_;refine AD ?_;refine AD ?_;refine AA ?_;refine AG ?_;refine AF ?_;refine AZ ?_;refine AB ?_;refine AG ?_;refine AF ?_;refine AB ?_;refine BJ ?_;refine AJ ?_;refine AB ?_;refine AG ?_;refine AF ?_;refine AZ ?_;refine AJ ?_;refine AB ?_;refine AG ?_;refine AF ?_;refine AB ?_;refine B7 ?_;refine AJ ?_;refine AB ?_;refine AH rfl rfl rfl ?_;refine AH rfl rfl rfl ?_;refine AH rfl rfl rfl ?_;refine AH rfl rfl rfl ?_;refine AH rfl rfl rfl ?_;refine AK ?_;refine AB ?_;refine AH rfl rfl rfl ?_;refine AH rfl rfl rfl ?_;refine AH rfl rfl rfl ?_;refine AK ?_;refine AB ?_;refine AH rfl rfl rfl ?_;refine AH rfl rfl rfl ?_;refine AH rfl rfl rfl ?_;refine AK ?_;refine AE ?_;refine AM rfl ?_;refine AD ?_;refine AA ?_;refine AC ?_;refine AE ?_;exact AI (res1 rfl rfl) rsubZ selZ ⟨rfl,rfl⟩
 by_cases c749:d.s = d.d
 ·rw [show okDmB nq d = false from decide_eq_false (fun h=>by unfold okDm at h; omega)]
  refine AC ?_;refine AE ?_;refine AD ?_;refine AA ?_;refine AG ?_;refine AF ?_;refine AV ?_;refine AC ?_;refine AE ?_;refine AD ?_;refine AD ?_;refine AA ?_;refine AG ?_;refine AF ?_;refine AZ ?_;refine AB ?_;refine AG ?_;refine AF ?_;refine AB ?_;refine BJ ?_;refine AJ ?_;refine AB ?_;refine AG ?_;refine AF ?_;refine AZ ?_;refine AJ ?_;refine AB ?_;refine AG ?_;refine AF ?_;refine AB ?_;refine BJ ?_;refine AJ ?_;refine AB ?_;refine AG ?_;refine AF ?_;refine AG ?_;refine AF ?_;refine CH ?_;refine AJ ?_;refine AB ?_;refine AH rfl rfl rfl ?_;refine AH rfl rfl rfl ?_;refine AH rfl rfl rfl ?_;refine AK ?_;refine AB ?_;refine AH rfl rfl rfl ?_;refine AH rfl rfl rfl ?_;refine AH rfl rfl rfl ?_;refine AK ?_;refine AE ?_;refine AM rfl ?_;refine AD ?_;refine AA ?_;refine AC ?_;refine AE ?_;exact AI (res1 rfl rfl) rsubZ selZ ⟨rfl,rfl⟩
 by_cases c934:d.v < 1
 ·rw [show okDmB nq d = false from decide_eq_false (fun h=>by unfold okDm at h; omega)]
  refine AC ?_;refine AE ?_;refine AD ?_;refine AA ?_;refine AG ?_;refine AF ?_;refine AV ?_;refine AC ?_;refine AE ?_;refine AD ?_;refine AD ?_;refine AA ?_;refine AG ?_;refine AF ?_;refine AZ ?_;refine AB ?_;refine AG ?_;refine AF ?_;refine AB ?_;refine BJ ?_;refine AJ ?_;refine AB ?_;refine AG ?_;refine AF ?_;refine AZ ?_;refine AJ ?_;refine AB ?_;refine AG ?_;refine AF ?_;refine AB ?_;refine BJ ?_;refine AJ ?_;refine AB ?_;refine AG ?_;refine AF ?_;refine AG ?_;refine AF ?_;refine B8 ?_;refine AJ ?_;refine AB ?_;refine AG ?_;refine AF ?_;refine BC ?_;refine AJ ?_;refine AB ?_;refine AH rfl rfl rfl ?_;refine AH rfl rfl rfl ?_;refine AH rfl rfl rfl ?_;refine AK ?_;refine AE ?_;refine AM rfl ?_;refine AD ?_;refine AA ?_;refine AC ?_;refine AE ?_;exact AI (res1 rfl rfl) rsubZ selZ ⟨rfl,rfl⟩
 by_cases c1117:1099511627776 < d.v
 ·rw [show okDmB nq d = false from decide_eq_false (fun h=>by unfold okDm at h; omega)]
  refine AC ?_;refine AE ?_;refine AD ?_;refine AA ?_;refine AG ?_;refine AF ?_;refine AV ?_;refine AC ?_;refine AE ?_;refine AD ?_;refine AD ?_;refine AA ?_;refine AG ?_;refine AF ?_;refine AZ ?_;refine AB ?_;refine AG ?_;refine AF ?_;refine AB ?_;refine BJ ?_;refine AJ ?_;refine AB ?_;refine AG ?_;refine AF ?_;refine AZ ?_;refine AJ ?_;refine AB ?_;refine AG ?_;refine AF ?_;refine AB ?_;refine BJ ?_;refine AJ ?_;refine AB ?_;refine AG ?_;refine AF ?_;refine AG ?_;refine AF ?_;refine B8 ?_;refine AJ ?_;refine AB ?_;refine AG ?_;refine AF ?_;refine AZ ?_;refine AJ ?_;refine AB ?_;refine AG ?_;refine AF ?_;refine CJ ?_;refine AJ ?_;refine AE ?_;refine AM rfl ?_;refine AD ?_;refine AA ?_;refine AC ?_;refine AE ?_;exact AI (res1 rfl rfl) rsubZ selZ ⟨rfl,rfl⟩
 by_cases c1313:d.r < 0
 ·rw [show okDmB nq d = false from decide_eq_false (fun h=>by unfold okDm at h; omega)]
  refine AC ?_;refine AE ?_;refine AD ?_;refine AA ?_;refine AG ?_;refine AF ?_;refine AV ?_;refine AC ?_;refine AE ?_;refine AD ?_;refine AD ?_;refine AA ?_;refine AG ?_;refine AF ?_;refine AZ ?_;refine AB ?_;refine AG ?_;refine AF ?_;refine AB ?_;refine BJ ?_;refine AJ ?_;refine AB ?_;refine AG ?_;refine AF ?_;refine AZ ?_;refine AJ ?_;refine AB ?_;refine AG ?_;refine AF ?_;refine AB ?_;refine BJ ?_;refine AJ ?_;refine AB ?_;refine AG ?_;refine AF ?_;refine AG ?_;refine AF ?_;refine B8 ?_;refine AJ ?_;refine AB ?_;refine AG ?_;refine AF ?_;refine AZ ?_;refine AJ ?_;refine AB ?_;refine AG ?_;refine AF ?_;refine BX ?_;refine AJ ?_;refine AE ?_;refine AN rfl ?_;refine AL ?_;refine AD ?_;refine AA ?_;refine AG ?_;refine AF ?_;refine BJ ?_;refine AB ?_;refine AH rfl rfl rfl ?_;refine AH rfl rfl rfl ?_;refine AH rfl rfl rfl ?_;refine AH rfl rfl rfl ?_;refine AH rfl rfl rfl ?_;refine AJ ?_
  refine AB ?_;refine AH rfl rfl rfl ?_;refine AH rfl rfl rfl ?_;refine AH rfl rfl rfl ?_;refine AJ ?_;refine AB ?_;refine AH rfl rfl rfl ?_;refine AH rfl rfl rfl ?_;refine AH rfl rfl rfl ?_;refine AH rfl rfl rfl ?_;refine AH rfl rfl rfl ?_;refine AH rfl rfl rfl ?_;refine AJ ?_;refine AC ?_;refine AE ?_;exact AI (res1 rfl rfl) rsubZ selZ ⟨rfl,rfl⟩
 by_cases c1497:d.e ≤ d.r
 ·rw [show okDmB nq d = false from decide_eq_false (fun h=>by unfold okDm at h; omega)]
  refine AC ?_;refine AE ?_;refine AD ?_;refine AA ?_;refine AG ?_;refine AF ?_;refine AV ?_;refine AC ?_;refine AE ?_;refine AD ?_;refine AD ?_;refine AA ?_;refine AG ?_;refine AF ?_;refine AZ ?_;refine AB ?_;refine AG ?_;refine AF ?_;refine AB ?_;refine BJ ?_;refine AJ ?_;refine AB ?_;refine AG ?_;refine AF ?_;refine AZ ?_;refine AJ ?_;refine AB ?_;refine AG ?_;refine AF ?_;refine AB ?_;refine BJ ?_;refine AJ ?_;refine AB ?_;refine AG ?_;refine AF ?_;refine AG ?_;refine AF ?_;refine B8 ?_;refine AJ ?_;refine AB ?_;refine AG ?_;refine AF ?_;refine AZ ?_;refine AJ ?_;refine AB ?_;refine AG ?_;refine AF ?_;refine BX ?_;refine AJ ?_;refine AE ?_;refine AN rfl ?_;refine AL ?_;refine AD ?_;refine AA ?_;refine AG ?_;refine AF ?_;refine B7 ?_;refine AB ?_;refine AG ?_;refine AF ?_;refine AG ?_;refine AF ?_;refine AZ ?_;refine AK ?_;refine AB ?_;refine AH rfl rfl rfl ?_;refine AH rfl rfl rfl ?_
  refine AH rfl rfl rfl ?_;refine AJ ?_;refine AB ?_;refine AH rfl rfl rfl ?_;refine AH rfl rfl rfl ?_;refine AH rfl rfl rfl ?_;refine AH rfl rfl rfl ?_;refine AH rfl rfl rfl ?_;refine AH rfl rfl rfl ?_;refine AJ ?_;refine AC ?_;refine AE ?_;exact AI (res1 rfl rfl) rsubZ selZ ⟨rfl,rfl⟩
 by_cases c1683:1099511627776 < d.e
 ·rw [show okDmB nq d = false from decide_eq_false (fun h=>by unfold okDm at h; omega)]
  refine AC ?_;refine AE ?_;refine AD ?_;refine AA ?_;refine AG ?_;refine AF ?_;refine AV ?_;refine AC ?_;refine AE ?_;refine AD ?_;refine AD ?_;refine AA ?_;refine AG ?_;refine AF ?_;refine AZ ?_;refine AB ?_;refine AG ?_;refine AF ?_;refine AB ?_;refine BJ ?_;refine AJ ?_;refine AB ?_;refine AG ?_;refine AF ?_;refine AZ ?_;refine AJ ?_;refine AB ?_;refine AG ?_;refine AF ?_;refine AB ?_;refine BJ ?_;refine AJ ?_;refine AB ?_;refine AG ?_;refine AF ?_;refine AG ?_;refine AF ?_;refine B8 ?_;refine AJ ?_;refine AB ?_;refine AG ?_;refine AF ?_;refine AZ ?_;refine AJ ?_;refine AB ?_;refine AG ?_;refine AF ?_;refine BX ?_;refine AJ ?_;refine AE ?_;refine AN rfl ?_;refine AL ?_;refine AD ?_;refine AA ?_;refine AG ?_;refine AF ?_;refine B7 ?_;refine AB ?_;refine AG ?_;refine AF ?_;refine AG ?_;refine AF ?_;refine BC ?_;refine AK ?_;refine AB ?_;refine AG ?_;refine AF ?_;refine CO ?_
  refine AK ?_;refine AB ?_;refine AH rfl rfl rfl ?_;refine AH rfl rfl rfl ?_;refine AH rfl rfl rfl ?_;refine AH rfl rfl rfl ?_;refine AH rfl rfl rfl ?_;refine AH rfl rfl rfl ?_;refine AJ ?_;refine AC ?_;refine AE ?_;exact AI (res1 rfl rfl) rsubZ selZ ⟨rfl,rfl⟩
 by_cases c1879:100 < d.e - d.r
 ·rw [show okDmB nq d = false from decide_eq_false (fun h=>by unfold okDm at h; omega)]
  refine AC ?_;refine AE ?_;refine AD ?_;refine AA ?_;refine AG ?_;refine AF ?_;refine AV ?_;refine AC ?_;refine AE ?_;refine AD ?_;refine AD ?_;refine AA ?_;refine AG ?_;refine AF ?_;refine AZ ?_;refine AB ?_;refine AG ?_;refine AF ?_;refine AB ?_;refine BJ ?_;refine AJ ?_;refine AB ?_;refine AG ?_;refine AF ?_;refine AZ ?_;refine AJ ?_;refine AB ?_;refine AG ?_;refine AF ?_;refine AB ?_;refine BJ ?_;refine AJ ?_;refine AB ?_;refine AG ?_;refine AF ?_;refine AG ?_;refine AF ?_;refine B8 ?_;refine AJ ?_;refine AB ?_;refine AG ?_;refine AF ?_;refine AZ ?_;refine AJ ?_;refine AB ?_;refine AG ?_;refine AF ?_;refine BX ?_;refine AJ ?_;refine AE ?_;refine AN rfl ?_;refine AL ?_;refine AD ?_;refine AA ?_;refine AG ?_;refine AF ?_;refine B7 ?_;refine AB ?_;refine AG ?_;refine AF ?_;refine AG ?_;refine AF ?_;refine BC ?_;refine AK ?_;refine AB ?_;refine AG ?_;refine AF ?_;refine CL ?_
  refine AK ?_;refine AB ?_;refine AG ?_;refine AF ?_;refine AG ?_;refine AF ?_;refine CZ ?_;refine CO ?_;refine AK ?_;refine AC ?_;refine AE ?_;exact AI (res1 rfl rfl) rsubZ selZ ⟨rfl,rfl⟩
 rw [show okDmB nq d = true from decide_eq_true (by unfold okDm; omega)]
 refine AC ?_;refine AE ?_;refine AD ?_;refine AA ?_;refine AG ?_;refine AF ?_;refine AV ?_;refine AC ?_;refine AE ?_;refine AD ?_;refine AD ?_;refine AA ?_;refine AG ?_;refine AF ?_;refine AZ ?_;refine AB ?_;refine AG ?_;refine AF ?_;refine AB ?_;refine BJ ?_;refine AJ ?_;refine AB ?_;refine AG ?_;refine AF ?_;refine AZ ?_;refine AJ ?_;refine AB ?_;refine AG ?_;refine AF ?_;refine AB ?_;refine BJ ?_;refine AJ ?_;refine AB ?_;refine AG ?_;refine AF ?_;refine AG ?_;refine AF ?_;refine B8 ?_;refine AJ ?_;refine AB ?_;refine AG ?_;refine AF ?_;refine AZ ?_;refine AJ ?_;refine AB ?_;refine AG ?_;refine AF ?_;refine BX ?_;refine AJ ?_;refine AE ?_;refine AN rfl ?_;refine AL ?_;refine AD ?_;refine AA ?_;refine AG ?_;refine AF ?_;refine B7 ?_;refine AB ?_;refine AG ?_;refine AF ?_;refine AG ?_;refine AF ?_;refine BC ?_;refine AK ?_;refine AB ?_;refine AG ?_;refine AF ?_;refine CL ?_
 refine AK ?_;refine AB ?_;refine AG ?_;refine AF ?_;refine AG ?_;refine AF ?_;refine CZ ?_;refine CL ?_;refine AK ?_;refine AC ?_;refine AE ?_;exact AI (res1 rfl rfl) rsubZ selZ ⟨rfl,rfl⟩
end Go.Proofs.YtphehihohghfoaaGreat
/- Links, rooms, and the iterator that yields the links with room. -/
namespace Go.Proofs.YtphehihohghfoaaGreat
open Go.Eng Go.Flow
set_option maxRecDepth 100000
set_option maxHeartbeats 4000000

def encL (x:Lk):List Value:=[int x.k,int x.f,int x.t]
theorem encL_len (x:Lk):(encL x).length = 3:=rfl
theorem lkRow {ρ:PH} {p:Option Addr} {l:List Lk} (h:RowsE encL 3 ρ p l) {i:Nat} {x:Lk} (hx:l[i]? = some x) :
  ∃ b o,p = some ⟨b,o,none⟩ ∧ RdN ρ b (o + i * 3) [int x.k,int x.f,int x.t]:=by
 obtain ⟨b,o,e,hr⟩:=h i x hx
 exact ⟨b,o,e,hr⟩
def openL (rm:Nat → Int) (l:List Lk):List Lk:=l.filter (fun x=>decide (0 < rm x.k))
theorem openL_snoc (rm:Nat → Int) (l:List Lk) (x:Lk):openL rm (l ++ [x]) = openL rm l ++ (if 0 < rm x.k then [x] else []):=by
 unfold openL;rw [List.filter_append]
 by_cases h:0 < rm x.k <;> simp [h]
theorem openL_take {rm:Nat → Int} {l:List Lk} {k:Nat} (h:k < l.length) (hp:0 < rm l[k].k):(openL rm l)[(openL rm (l.take k)).length]? = some l[k]:=by
 have e:l = l.take k ++ (l[k] :: l.drop (k + 1)):=by
  rw [← List.drop_eq_getElem_cons h,List.take_append_drop]
 conv=>lhs; rw [e]
 unfold openL
 rw [List.filter_append,List.getElem?_append_right (by simp)]
 have:List.filter (fun x=>decide (0 < rm x.k)) (l[k] :: l.drop (k + 1)) = l[k] :: List.filter (fun x=>decide (0 < rm x.k)) (l.drop (k + 1)):=by
  rw [List.filter_cons,if_pos (by simpa using hp)]
 rw [this]
 have hl:(List.take k (List.take k l ++ l[k] :: List.drop (k + 1) l)) = List.take k l:=by rw [← e]
 rw [hl]
 simp

theorem open_spec (g l:Value) (hl1:l.oneCell' = true) (hg1:g.oneCell' = true) :
  Eng.Spec Tryz.prog (fv 59) [g,l] [] [] (fun v H'=>∃ bl bg,v = .func (.func 97) #[] #[.pointer (some ⟨bl,0,none⟩),.pointer (some ⟨bg,0,none⟩)] ∧
   H' = [sng bl (.cells #[l] 117 (0,0)),sng bg (.cells #[g] 110 (0,0))]):=by
 refine spec_in (cap:=[]) Tryz.func59 rfl rfl Tryz.ntmps59 rfl envZ (fun N β=>?_)
 refine AD ?_;refine AA ?_;refine BH (CW rfl hg1) rfl rfl rfl ?_;rintro _ _ ⟨bg,rfl,rfl⟩;refine BH (CW rfl hl1) rfl rfl rfl ?_;rintro _ _ ⟨bl,rfl,rfl⟩;refine AC ?_;refine AE ?_;refine AD ?_;refine AA ?_;refine BU ?_;refine AC ?_;refine AE ?_;exact AI (res1 rfl rfl) rsubZ selZ ⟨bl,bg,rfl,rfl⟩

theorem open_iter (γ:PH) (gb bl bg:Nat) (lv room:Value) (ls:List Lk) (rm:Nat → Int) (Rr:List PH) (hls:SlE encL 3 γ lv ls) (hlen:ls.length ≤ 1000000) (hroom:rdc γ gb 2 = some room)
  (hrm:∀ x ∈ ls,Ans Tryz.prog room [int x.k] Rr (fun v=>v = int (rm x.k))) :
  Iter Tryz.prog (.func (.func 97) #[] #[.pointer (some ⟨bl,0,none⟩),.pointer (some ⟨bg,0,none⟩)])
   ([sng bl (.cells #[lv] 117 (0,0)),sng bg (.cells #[.pointer (some ⟨gb,0,none⟩)] 110 (0,0)),γ] ++ Rr) ((openL rm ls).map (fun x=>[.agg (encL x).toArray])):=by
 intro y S Own Inv Stop Ry hy hyl σ0 h0
 obtain ⟨yl,rfl⟩:=hyl
 obtain ⟨p,c,rfl,hr⟩:=hls.val encL_len
 have c1:rdc (sng bl (.cells #[.slice p ls.length c] 117 (0,0))) bl 0 = some (.slice p ls.length c):=by rw [rdc_sng]; rfl
 have c2:rdc (sng bg (.cells #[.pointer (some ⟨gb,0,none⟩)] 110 (0,0))) bg 0 = some (.pointer (some ⟨gb,0,none⟩)):=by rw [rdc_sng]; rfl
 simp only [List.cons_append,List.nil_append]
 refine spec_in (cap:=[.pointer (some ⟨bl,0,none⟩),.pointer (some ⟨bg,0,none⟩)]) Tryz.func97 rfl rfl Tryz.ntmps97 rfl envZ (fun N β=>?_)
 refine AD ?_;refine AA ?_;refine AF ?_;refine AV ?_;refine AB ?_;refine AE ?_;refine AP ?_
 refine BD [0,1,2,6,7] ((0,σ0):Nat × S) (fun x=>x.1 ≤ ls.length ∧ Inv (openL rm (ls.take x.1)).length x.2) (fun x=>[(8,int x.1)]) (fun x=>Own x.2) (fun x=>ls.length - x.1) pickZ ⟨by simp,by simpa [openL] using h0⟩ covZ Sel.refl ?_
 rintro ⟨k,σ⟩ ⟨hk,hI⟩;simp only at hk hI
 by_cases hlt:k < ls.length
 ·obtain ⟨b',o,rfl,hA⟩:=lkRow hr (List.getElem?_eq_getElem hlt)
  have hrk:=hrm ls[k] (List.getElem_mem hlt)
  have hsn:=openL_snoc rm (ls.take k) ls[k]
  rw [← take_snoc' hlt] at hsn;refine AD ?_;refine AA ?_;refine BC ?_;refine AE ?_;refine AD ?_;refine AM rfl ?_;refine AL ?_;refine AD ?_;refine AP ?_;refine AD ?_;refine AA ?_;refine BA ?_;refine AT ?_;refine AY ?_; rintro _ _ ⟨b,rfl,rfl⟩;refine AW ?_; rintro _ _ ⟨rfl,rfl⟩;refine AE ?_;refine AD ?_
  by_cases hp:0 < rm ls[k].k
  ·have hget:=openL_take hlt hp
   have hyk:=hy (openL rm (ls.take k)).length σ [.agg (encL ls[k]).toArray] (by rw [List.getElem?_map,hget]; rfl) hI
   rw [if_pos hp] at hsn
   refine A5 (.q 0 (.q 1 (.q 2 (.q 3 (.q 4 (.q 5 (.l 6 .e (.q 7 (.q 8 (.q 9 (.q 10 (.l 11 .b (.q 12 (.q 13 .nil)))))))))))))) [] rfl (by kernel_rfl) Sel.nil ?_
   refine AQ ?_;refine A0 ?_;refine AU ?_;refine AQ ?_;refine AU ?_;refine AQ ?_
   refine CN (CI rfl hrk rfl rfl (fun τ hτ=>.inl (by simp [hτ])) rfl rfl ?_)
   rintro _ rfl;refine D5 ?_;refine AR ?_;refine AR ?_;refine BN ?_
   refine CN (DT rfl hyk rfl rfl (Takes.skip Takes.all) (fun τ hτ=>.inl (by simp [hτ])) rfl rfl (fun _ _ _ w hw=>hw.sel Sel.nil) ?_)
   rintro v H' ⟨σ',rfl,⟨rfl,hI'⟩ | ⟨rfl,hS⟩⟩
   ·refine CS ?_
    refine BY ?_;refine A6 ?_;refine AN rfl ?_;refine AL ?_;refine A4 ?_;refine AA ?_;refine A9 ?_;refine AB ?_;refine AE ?_
    refine AX (k + 1,σ') ⟨by simp only; omega,?_⟩ (by simp only; omega) covZ Sel.left
    simp only;rw [hsn]
    simpa using hI'
   ·refine CS ?_
    refine BY ?_;refine A6 ?_;refine AM rfl ?_
    exact AI (res0 rfl) (fun _ h=>h) Sel.left ⟨σ',rfl,.inr hS⟩
  ·rw [if_neg hp,List.append_nil] at hsn
   refine A5 (.q 0 (.q 1 (.q 2 (.q 3 (.q 4 (.q 5 (.l 6 .e (.q 7 (.q 8 (.q 9 (.q 10 (.q 11 (.q 12 (.q 13 .nil)))))))))))))) [] rfl (by kernel_rfl) Sel.nil ?_
   refine AQ ?_;refine A0 ?_;refine AU ?_;refine AQ ?_;refine AU ?_;refine AQ ?_
   refine CN (CI rfl hrk rfl rfl (fun τ hτ=>.inl (by simp [hτ])) rfl rfl ?_)
   rintro _ rfl;refine DK ?_;refine AR ?_;refine A3 rfl rfl rfl rfl rfl ?_;refine A3 rfl rfl rfl rfl rfl ?_;refine A3 rfl rfl rfl rfl rfl ?_;refine A3 rfl rfl rfl rfl rfl ?_;refine B0 ?_;refine A6 ?_;refine AN rfl ?_;refine AL ?_;refine A4 ?_;refine AA ?_;refine A9 ?_;refine AB ?_;refine AE ?_
   refine AX (k + 1,σ) ⟨by simp only; omega,?_⟩ (by simp only; omega) covZ (Sel.skip Sel.refl)
   simp only;rw [hsn]; exact hI
 ·refine AD ?_
  refine AA ?_;refine AZ ?_;refine AE ?_;refine AD ?_;refine AN rfl ?_;refine A8 rfl ?_
  refine CA (res0 rfl) (fun _ h=>h) Sel.refl ⟨σ,rfl,.inl ?_⟩
  rw [List.take_of_length_le (by omega)] at hI
  simpa using hI
end Go.Proofs.YtphehihohghfoaaGreat
/- Distances by a queue. -/
namespace Go.Proofs.YtphehihohghfoaaGreat
open Go.Eng Go.Flow
set_option maxRecDepth 100000
set_option maxHeartbeats 4000000

theorem next_spec (bq:Nat) (qv:Value) (x:Value) (k:Nat) (xs:List Value) (ρq:PH) (hq:OwnO 3 1 qv (k + 1) (x :: xs) ρq) :
  Eng.Spec Tryz.prog (.func (.func 134) #[] #[.pointer (some ⟨bq,0,none⟩)]) [] [] [sng bq (.cells #[qv] 22 (0,0)),ρq]
   (fun v H'=>v = x ∧ ∃ qv',OwnO 3 1 qv' k xs ρq ∧ qv'.oneCell' = true ∧ H' = [sng bq (.cells #[qv'] 22 (0,0)),ρq]):=by
 obtain ⟨b,o,cap,rfl,h0,h1⟩:=hq.head
 refine spec_in (cap:=[.pointer (some ⟨bq,0,none⟩)]) Tryz.func134 rfl rfl Tryz.ntmps134 rfl envZ (fun N β=>?_)
 refine AD ?_;refine AA ?_;refine AC ?_;refine AE ?_;refine AD ?_;refine AA ?_;refine AF ?_;refine GU ?_;refine AF ?_;refine AC ?_;refine AE ?_;refine AD ?_;refine AA ?_;refine AF ?_
 focus ((refine' CE _ rfl rfl rfl _; rotate_left; (apply D9 (i:=1); exact rfl; exact rfl; exact rfl; exact rfl; omega)))
 refine A7 ?_; rintro _ _ ⟨rfl,rfl⟩;refine AE ?_;refine AD ?_;refine AA ?_;refine AB ?_;refine AC ?_;refine AE ?_;exact AI (res1 rfl rfl) rsubZ selZ ⟨rfl,_,h1,rfl,rfl⟩

structure GAt (γ:PH) (gb n:Nat) (outs ins:Nat → List Lk) (room:Value):Prop where
 o:∃ ob c,rdc γ gb 0 = some (.slice (some ⟨ob,0,none⟩) n c) ∧ ∀ v,v < n → ∃ lv,rdc γ ob v = some lv ∧ SlE encL 3 γ lv (outs v)
 i:∃ ib c,rdc γ gb 1 = some (.slice (some ⟨ib,0,none⟩) n c) ∧ ∀ v,v < n → ∃ lv,rdc γ ib v = some lv ∧ SlE encL 3 γ lv (ins v)
 r:rdc γ gb 2 = some room
structure GOk (n:Nat) (outs ins:Nat → List Lk):Prop where
 n1:n ≤ 2000
 len:∀ v,(outs v).length ≤ 40000 ∧ (ins v).length ≤ 40000
 inT:∀ v x,v < n → x ∈ ins v → x.t = v ∧ x.f < n ∧ x.k ≤ 40000
 outF:∀ v x,v < n → x ∈ outs v → x.f = v ∧ x.t < n ∧ x.k ≤ 40000
 same:∀ x:Lk,x.f < n → x.t < n → (x ∈ outs x.f ↔ x ∈ ins x.t)
def opens (n:Nat) (ins:Nat → List Lk) (rm:Nat → Int) (x:Lk):Prop:=x.t < n ∧ x ∈ ins x.t ∧ 0 < rm x.k
theorem opens_lt {n:Nat} {outs ins:Nat → List Lk} {rm:Nat → Int} (h:GOk n outs ins) (x:Lk) (hx:opens n ins rm x):x.f < n ∧ x.t < n:=⟨(h.inT x.t x hx.1 hx.2.1).2.1,hx.1⟩
def qInts (q:List Nat):List Value:=q.map (fun (v:Nat)=>int (v:Int))
theorem fillL (n k:Nat) (h:k < n):(List.replicate k (-1:Int) ++ List.replicate (n - k) 0).set k (-1) = List.replicate (k + 1) (-1) ++ List.replicate (n - (k + 1)) 0:=by
 rw [List.set_append_right _ _ (by simp)]
 simp only [List.length_replicate,Nat.sub_self]
 obtain ⟨m,hm⟩:∃ m,n - k = m + 1:=⟨n - k - 1,by omega⟩
 rw [hm,List.replicate_succ,List.set_cons_zero,show n - (k + 1) = m from by omega,List.replicate_succ',List.append_assoc]
 rfl
theorem SlE.one {α:Type} {enc:α → List Value} {s:Nat} {ρ:PH} {v:Value} {l:List α} (h:SlE enc s ρ v l):v.oneCell' = true:=by
 obtain ⟨b,c,rfl⟩:=SlAt.cap h
 rfl
set_option maxHeartbeats 2000000 in
theorem distances_spec (γ:PH) (gb n t:Nat) (outs ins:Nat → List Lk) (room:Value) (rm:Nat → Int) (Rr:List PH) (hG:GAt γ gb n outs ins room) (hO:GOk n outs ins) (ht:t < n)
  (hrm:∀ v x,v < n → x ∈ ins v → Ans Tryz.prog room [int x.k] Rr (fun v=>v = int (rm x.k))) :
  Makes Tryz.prog (fv 101) [.pointer (some ⟨gb,0,none⟩),int t] (γ :: Rr) (fun v ρ=>∃ b D,v = .slice (some ⟨b,0,none⟩) n n ∧ ρ = sng b (.cells (ints D) 3 (0,0)) ∧ IsDist n t (opens n ins rm) D):=by
 have hn:=hO.n1
 obtain ⟨ob,oc,ho,_⟩:=hG.o
 obtain ⟨ib,ic,hi,hil⟩:=hG.i
 refine spec_in (cap:=[]) Tryz.func101 rfl rfl Tryz.ntmps101 rfl envZ (fun N β=>?_)
 refine BV ?_;refine AD ?_;refine AA ?_;refine AC ?_;refine AE ?_;refine AD ?_;refine AA ?_;refine AB ?_;refine BM ?_;refine AG ?_;refine AF ?_;refine AV ?_;refine DO ?_; rintro _ _ ⟨b,rfl,rfl⟩;refine BP ?_; rintro _ _ ⟨b,rfl,rfl⟩;refine A7 ?_; rintro _ _ ⟨rfl,rfl⟩;refine AE ?_;refine AD ?_;refine AD ?_;refine AA ?_;refine AF ?_;refine AV ?_;refine AB ?_;refine AE ?_;refine AP ?_
 rename_i bd
 revert b; intro bo
 rw [show List.replicate n (0:Int) = List.replicate 0 (-1) ++ List.replicate (n - 0) 0 from by simp]
 refine BD [0,1,5,17,18] (0:Nat) (fun k=>k ≤ n) (fun k=>[(19,int k)]) (fun k=>[sng bo (.cells #[.slice (some ⟨bd,0,none⟩) n n] 22 (0,0)),sng bd (.cells (ints (List.replicate k (-1) ++ List.replicate (n - k) 0)) 3 (0,0)),emp]) (fun k=>n - k) pickZ (by omega) covZ selZ ?_
 intro k hk
 have hfl:(List.replicate k (-1:Int) ++ List.replicate (n - k) 0).length = n:=by simp; omega
 by_cases hlt:k < n
 ·have hf:=fillL n k hlt
  refine AD ?_;refine AA ?_;refine BC ?_;refine AE ?_;refine AD ?_;refine AM rfl ?_;refine AL ?_;refine AD ?_;refine AP ?_;refine AD ?_;refine AA ?_;refine AB ?_;refine AC ?_;refine AE ?_;refine AA ?_;refine AF ?_;refine AB ?_;refine BQ ?_;refine C3 ?_; rintro _ _ ⟨rfl,rfl⟩;refine AE ?_;refine A4 ?_;refine AA ?_;refine A9 ?_;refine AB ?_;refine AE ?_
  refine AX (k + 1) (by omega) (by omega) covZ ?_
  rw [← hf];exact selZ
 obtain rfl:k = n:=by omega
 rw [Nat.sub_self,List.replicate_zero,List.append_nil] at hfl ⊢;refine AD ?_;refine AA ?_;refine AZ ?_;refine AE ?_;refine AD ?_;refine AN rfl ?_;refine A8 rfl ?_;refine AD ?_;refine AA ?_;refine AF ?_;refine AB ?_;refine BQ ?_;refine C3 ?_; rintro _ _ ⟨rfl,rfl⟩;refine AE ?_;refine AD ?_;refine AA ?_;refine AB ?_;refine BF ?_; rintro _ _ ⟨b,rfl,rfl⟩;refine BP ?_; rintro _ _ ⟨b,rfl,rfl⟩;refine A7 ?_; rintro _ _ ⟨rfl,rfl⟩;refine AE ?_;refine AD ?_;refine AA ?_;refine BU ?_;refine AC ?_;refine AE ?_;refine AD ?_;refine AP ?_
 rename_i bi
 revert b; intro bq
 have hq0:OwnO 3 1 (.slice (some ⟨bi,0,none⟩) 1 1) 1 [int t] (sng bi (.cells [int (t:Int)].toArray 3 (0,0))):=OwnS.ownO (n:=1) rfl (by simp [maxLen])
 refine DN [0,1,5,7,8] ((((List.replicate k (-1)).set t 0,[t]),(.slice (some ⟨bi,0,none⟩) 1 1,sng bi (.cells [int (t:Int)].toArray 3 (0,0)))),([],emp)) (X:=((List Int × List Nat) × (Value × PH)) × (List Nat × PH))
  (fun x=>x.2.1.map mk) (fun x=>BInv k t (opens k ins rm) x.1.1.1 x.1.1.2 ∧ OwnO 3 1 x.1.2.1 x.1.1.2.length (qInts x.1.1.2) x.1.2.2 ∧ x.1.1.2.length + unl x.1.1.1 ≤ k ∧ (∀ u,u < k → x.1.1.1.getD u 0 + unl x.1.1.1 ≤ (k:Int)) ∧ MkIn x.2.2 x.2.1)
  (fun _=>[]) (fun x=>[sng bo (.cells #[.slice (some ⟨bd,0,none⟩) k k] 22 (0,0)),sng bd (.cells (ints x.1.1.1) 3 (0,0)),sng bq (.cells #[x.1.2.1] 22 (0,0)),x.1.2.2,x.2.2]) (fun x=>2 * unl x.1.1.1 + x.1.1.2.length)
  pickZ rfl ⟨BInv.start ht,hq0,by have:=unl_start ht; simp only [List.length_singleton]; omega,fun u hu=>by have:=unl_start ht; dsimp only; rw [getD_set (by rw [List.length_replicate]; exact ht),getD_rep hu]; split <;> omega,MkIn.nil⟩ covZ selZ ?_
 rintro ⟨⟨⟨D,q⟩,⟨qv,ρq⟩⟩,⟨ms,μ⟩⟩ ⟨hB,hQ,hql,hub,hM⟩
 dsimp only at hB hQ hql hub hM ⊢
 cases q with
 | nil =>
  have hQ':OwnO 3 1 qv 0 [] ρq:=hQ
  obtain ⟨_,b1,o1,cap1,cur1,rfl,rfl,_⟩:=hQ'
  have hdist:=hB.dist (opens_lt hO)
  refine AD ?_;refine AD ?_;refine AA ?_;refine AF ?_;refine AV ?_;refine BX ?_;refine AE ?_;refine AN rfl ?_;refine A8 rfl ?_;refine AD ?_;refine AA ?_;refine AF ?_;refine AC ?_;refine AE ?_;exact DL hM takeZ (res1 rfl rfl) rsubZ selZ ⟨_,⟨bd,D,rfl,rfl,hdist⟩,rfl⟩
 | cons v q =>
  have hQ':OwnO 3 1 qv (q.length + 1) (int v :: qInts q) ρq:=hQ
  have hV0:=hB.take
  have hvn:=hV0.vn
  obtain ⟨lv,hlv,hls⟩:=hil v hvn
  have hnx:=next_spec bq qv (int v) q.length (qInts q) ρq hQ'
  obtain ⟨b1,o1,cap1,rfl,_,_⟩:=hQ'.head
  simp only [List.length_cons] at hql;refine AD ?_;refine AD ?_;refine AA ?_;refine AF ?_;refine AV ?_;refine CJ ?_;refine AE ?_;refine AM rfl ?_;refine AL ?_;refine AP ?_;refine AD ?_;refine AA ?_;refine AB ?_;refine BE hnx rfl rfl takesZ rdZ rfl rfl ?_;rintro _ _ ⟨rfl,qv1,hQ1,hq1,rfl⟩;simp only [List.cons_append,List.nil_append];refine BP ?_; rintro _ _ ⟨b,rfl,rfl⟩;refine A7 ?_; rintro _ _ ⟨rfl,rfl⟩;refine AE ?_;refine AD ?_
  revert b; intro b9
  refine A5 (.q 0 (.q 1 (.q 2 (.q 3 (.q 4 (.q 5 (.q 6 (.q 7 (.l 8 .e .nil))))))))) [] rfl (by kernel_rfl) selZ ?_
  refine AR ?_;refine AR ?_;refine A0 ?_;refine AU ?_;refine AQ ?_;refine AQ ?_;refine CB ?_;refine AQ ?_;refine CN (DF rfl (open_spec _ _ (SlE.one hls) rfl) rfl rfl rdZ rfl rfl ?_);rintro _ _ ⟨bl,bg,rfl,rfl⟩;simp only [List.cons_append,List.nil_append];refine A6 ?_;refine AS (ρ:=sng bl _) takeZ ?_;refine AS (ρ:=sng bg _) takeZ ?_;refine AS (ρ:=sng b9 _) takeZ ?_
  have hvl:rdc (sng b9 (.cells #[int (v:Int)] 3 (0,0))) b9 0 = some (int v):=by rw [rdc_sng]; rfl
  refine AP ?_
  refine CX (gf:=97) (cap:=[.pointer (some ⟨bl,0,none⟩),.pointer (some ⟨bg,0,none⟩)]) (ps:=[46]) (X:=(List Int × List Nat) × (Value × PH)) rfl Tryz.func97 rfl rfl
   (open_iter γ gb bl bg lv room (ins v) rm Rr hls (by have:=(hO.len v).2; omega) hG.r (fun x hx=>hrm v x hvn hx)) ?_
   (fun i x=>VInv k t (opens k ins rm) x.1.1 v x.1.2 ((openL rm (ins v)).take i) ∧ OwnO 3 1 x.2.1 x.1.2.length (qInts x.1.2) x.2.2 ∧ x.1.2.length + unl x.1.1 + 1 ≤ k ∧ (∀ u,u < k → x.1.1.getD u 0 + unl x.1.1 ≤ (k:Int)) ∧ 2 * unl x.1.1 + x.1.2.length ≤ 2 * unl D + q.length)
   (fun x=>[sng bo (.cells #[.slice (some ⟨bd,0,none⟩) k k] 22 (0,0)),sng bd (.cells (ints x.1.1) 3 (0,0)),sng bq (.cells #[x.2.1] 22 (0,0)),x.2.2])
   (fun _ _=>False) ((D,q),(qv1,ρq)) rfl takesZ ⟨by simpa using hV0,hQ1,by simp only; omega,hub,by simp only; omega⟩ ?_ ?_ ?_
  ·intro σ hσ
   simp only [List.cons_append,List.nil_append,List.mem_cons] at hσ ⊢
   rcases hσ with h | h | h | h <;> simp [h]
  ·rintro l r i ⟨⟨D1,q1⟩,⟨qv2,ρ2⟩⟩ vs hvs ⟨hV,hQ2,hlq,hub2,hms⟩ hps has hbd hst hpe hfr
   dsimp only at hV hQ2 hlq hub2 hms ⊢
   obtain ⟨st,pe,fnn,tm,prm,asg,bdy,df⟩:=r
   simp only at hps has hbd hst hpe hfr;subst hps has hbd hst hpe;rw [List.getElem?_map] at hvs
   obtain ⟨x,hx,rfl⟩:=Option.map_eq_some_iff.1 hvs
   have hlt:i < (openL rm (ins v)).length:=(List.getElem?_eq_some_iff.1 hx).1
   have hxe:(openL rm (ins v))[i] = x:=(List.getElem?_eq_some_iff.1 hx).2
   have hxm:x ∈ openL rm (ins v):=List.mem_of_getElem? hx
   have hxi:x ∈ ins v ∧ 0 < rm x.k:=by unfold openL at hxm; simpa using hxm
   obtain ⟨hxt,hxf,hxk⟩:=hO.inT v x hvn hxi.1
   have htk:(openL rm (ins v)).take (i + 1) = (openL rm (ins v)).take i ++ [x]:=by rw [take_snoc' hlt,hxe]
   have hDl:D1.length = k:=hV.len
   have hv0:=hV.v0
   have hvub:=hub2 v hvn
   refine yield_spec hfr rfl (by intro p hp; simp at hp; omega) putiZ (fun N' β'=>?_)
   unfold encL;refine AA ?_;refine AY ?_; rintro _ _ ⟨b,rfl,rfl⟩;refine AW ?_; rintro _ _ ⟨rfl,rfl⟩;refine AE ?_;refine CK rfl rfl ?_;refine CU takeZ rfl ?_
   by_cases hneg:D1.getD x.f 0 < 0
   ·have hE:opens k ins rm x:=⟨by omega,by rw [hxt]; exact hxi.1,hxi.2⟩
    have hp:=hV.push hE hxf hxt hneg
    have hu:=unl_set (D:=D1) (i:=x.f) (x:=D1.getD v 0 + 1) (by omega) hneg (by omega)
    refine AP ?_;refine AD ?_;refine AA ?_;refine AF ?_;refine AG ?_;refine AF ?_;refine BQ ?_;refine AF ?_;refine BC ?_;refine AE ?_;refine AM rfl ?_;refine AD ?_
    refine A5 (.q 0 (.q 1 (.q 2 (.q 3 (.q 4 (.q 5 (.q 6 (.q 7 (.q 8 (.l 9 .b .nil)))))))))) [] rfl (by kernel_rfl) selZ ?_
    refine AQ ?_;refine AU ?_;refine AQ ?_;refine AQ ?_;refine AQ ?_;refine CB ?_;refine AQ ?_;refine C6 ?_;refine CB ?_;refine DX ?_; rintro _ _ ⟨rfl,rfl⟩;refine A6 ?_;refine AA ?_;refine AF ?_;refine AG ?_;refine AF ?_;refine BF ?_; rintro _ _ ⟨b,rfl,rfl⟩
    refine' BH (ED (by_:=8) (s:=1) (news:=[int (x.f:Int)]) rfl rfl rfl rfl rfl rfl rfl hQ2 takeZ (cells_own memZ) rfl (by (repeat (first | exact (fun v hv=>absurd hv List.not_mem_nil) | (refine List.forall_mem_cons.2 ⟨?_,?_⟩; (focus (first | exact rfl | assumption))))); first | done | fail) (by simp only [maxLen]; omega) (by omega)) rfl rfl rfl _
    rintro q9 _ ⟨ρ3,hQ3,rfl⟩
    have hq9:q9.oneCell' = true:=by obtain ⟨_,_,_,_,_,rfl,_⟩:=hQ3; rfl
    have hQ4:OwnO 3 1 q9 (q1 ++ [x.f]).length (qInts (q1 ++ [x.f])) ρ3:=by
     have:qInts (q1 ++ [x.f]) = qInts q1 ++ [int (x.f:Int)]:=by simp [qInts]
     rw [this,List.length_append];exact hQ3
    refine A7 ?_; rintro _ _ ⟨rfl,rfl⟩;refine AE ?_;refine A4 ?_;refine BO takeZ rsubZ selZ ⟨((D1.set x.f (D1.getD v 0 + 1),q1 ++ [x.f]),(q9,ρ3)),.inl ⟨rfl,⟨?_,hQ4,?_,?_,?_⟩,rfl⟩⟩
    ·dsimp only
     rw [htk];exact hp
    ·dsimp only
     rw [List.length_append,List.length_singleton]; omega
    ·intro u hu'
     dsimp only
     have:=hub2 u hu'
     rw [getD_set (by omega)]
     split <;> omega
    ·dsimp only
     rw [List.length_append,List.length_singleton]; omega
   ·refine AP ?_
    refine AD ?_;refine AA ?_;refine AF ?_;refine AG ?_;refine AF ?_;refine BQ ?_;refine AF ?_;refine AZ ?_;refine AE ?_;refine AN rfl ?_;refine AL ?_;refine A4 ?_;refine BO takeZ rsubZ selZ ⟨((D1,q1),(qv2,ρ2)),.inl ⟨rfl,⟨?_,hQ2,hlq,hub2,hms⟩,rfl⟩⟩;simp only;rw [htk]
    exact hV.seen (by omega)
  ·rintro b2 ⟨⟨D1,q1⟩,⟨qv2,ρ2⟩⟩ ⟨hV,hQ2,hlq,hub2,hms⟩
   dsimp only at hV hQ2 hlq hub2 hms ⊢
   simp only [List.cons_append,List.nil_append]
   refine DM (R':=β :: γ :: Rr) (by intro σ hσ; simp at hσ ⊢; rcases hσ with h | h | h <;> simp [h]) ?_
   refine CR (b:=b2) takeZ (μ:=μ) takeZ hM ?_
   intro μ2 hM2
   refine A4 ?_;refine A4 ?_
   refine C8 (((D1,q1),(qv2,ρ2)),(b2 :: ms,μ2)) rfl ⟨hV.done (opens_lt hO) (fun x hx hxt=>?_),hQ2,by simp only; omega,hub2,hM2⟩ (by simp only [List.length_cons]; omega) covZ selZ
   have hmem:x ∈ openL rm (ins v):=by
    unfold openL;rw [List.mem_filter]
    have:=hx.2.1
    rw [hxt] at this
    exact ⟨this,by simpa using hx.2.2⟩
   simpa [List.length_map] using hmem
  ·rintro _ _ _ h; exact h.elim
end Go.Proofs.YtphehihohghfoaaGreat
/- The first shortest path, and the least room on it. -/
namespace Go.Proofs.YtphehihohghfoaaGreat
open Go.Eng Go.Flow
set_option maxRecDepth 100000
set_option maxHeartbeats 4000000

def ksOf (p:List Lk):List Int:=p.map (fun (x:Lk)=>(x.k:Int))
def nxO (outs:Nat → List Lk) (rm:Nat → Int) (D:List Int) (v:Nat):Option Lk:=(openL rm (outs v)).find? (near D v)
theorem nxO_some {n t:Nat} {outs ins:Nat → List Lk} {rm:Nat → Int} {D:List Int} (hO:GOk n outs ins) (hD:IsDist n t (opens n ins rm) D) {v:Nat} (hv:v < n) (hd:0 < D.getD v 0) :
  ∃ x,nxO outs rm D v = some x ∧ x.f = v ∧ x.t < n ∧ x.k ≤ 40000 ∧ D.getD x.t 0 = D.getD v 0 - 1 ∧ opens n ins rm x:=by
 obtain ⟨y,hy,hyf,hyt⟩:=hD.step v hv hd
 have hyn:=opens_lt hO y hy
 have hyo:y ∈ outs v:=by
  have:=(hO.same y hyn.1 hyn.2).2 hy.2.1
  rwa [hyf] at this
 have hmem:y ∈ openL rm (outs v):=by
  unfold openL;rw [List.mem_filter]
  exact ⟨hyo,by simpa using hy.2.2⟩
 cases e:nxO outs rm D v with
 | none =>
  unfold nxO at e;rw [List.find?_eq_none] at e
  exact absurd (by unfold near; rw [hyt]; simp) (e y hmem)
 | some x =>
  have hm:=List.mem_of_find?_eq_some e
  have hp:=List.find?_some e
  unfold openL at hm;rw [List.mem_filter] at hm
  obtain ⟨h1,h2,h3⟩:=hO.outF v x hv hm.1
  refine ⟨x,rfl,h1,h2,h3,by simpa [near] using hp,h2,(hO.same x (by omega) h2).1 (by rw [h1]; exact hm.1),by simpa using hm.2⟩
set_option maxHeartbeats 2000000 in
theorem path_spec (γ:PH) (gb n s t:Nat) (outs ins:Nat → List Lk) (room:Value) (rm:Nat → Int) (Rr:List PH) (hG:GAt γ gb n outs ins room) (hO:GOk n outs ins) (hs:s < n) (ht:t < n)
  (hrm:∀ v x,v < n → x ∈ ins v → Ans Tryz.prog room [int x.k] Rr (fun v=>v = int (rm x.k))) :
  Makes Tryz.prog (fv 69) [.pointer (some ⟨gb,0,none⟩),int s,int t] (γ :: Rr) (fun v ρ=>∃ D pv,IsDist n t (opens n ins rm) D ∧ v = .tuple #[pv,.bool (decide (0 ≤ D.getD s 0))] ∧
   OwnS 3 1 pv (pathD (nxO outs rm D) D s).length ((ksOf (pathD (nxO outs rm D) D s)).map int) ρ):=by
 have hn:=hO.n1
 obtain ⟨ob,oc,ho,hol⟩:=hG.o
 refine spec_in (cap:=[]) Tryz.func69 rfl rfl Tryz.ntmps69 rfl envZ (fun N β=>?_)
 refine BV ?_;refine AD ?_;refine AA ?_;refine AC ?_;refine AC ?_;refine AE ?_;refine AD ?_;refine AA ?_;refine AB ?_;refine AB ?_;refine BW (distances_spec γ gb n t outs ins room rm Rr hG hO ht hrm) rfl rfl rdZ rfl rfl ?_;rintro _ ρD ⟨bD,D,rfl,rfl,hD⟩
 have hDl:=hD.len
 refine BP ?_; rintro _ _ ⟨b,rfl,rfl⟩;refine A7 ?_; rintro _ _ ⟨rfl,rfl⟩;refine AE ?_;refine AD ?_;refine AD ?_;refine AA ?_;refine AF ?_;refine AB ?_;refine BQ ?_;refine AF ?_
 revert b; intro b8
 by_cases hneg:D.getD s 0 < 0
 ·refine BC ?_
  refine AE ?_;refine AM rfl ?_;refine AD ?_;refine AA ?_;refine AC ?_;refine AC ?_;refine AE ?_;refine AI (res2 rfl rfl rfl) rsubZ selZ ⟨emp,⟨D,.slice none 0 0,hD,?_,?_⟩,rfl⟩
  ·rw [show decide (0 ≤ D.getD s 0) = false from decide_eq_false (by omega)]
  ·rw [pathD_end (by omega)]
   exact OwnS.nil _ _
 refine AZ ?_;refine AE ?_;refine AN rfl ?_;refine AL ?_;refine AD ?_;refine AA ?_;refine BP ?_; rintro _ _ ⟨b,rfl,rfl⟩;refine AE ?_;refine AD ?_;refine AD ?_;refine AA ?_;refine AB ?_;refine BP ?_; rintro _ _ ⟨b,rfl,rfl⟩;refine A7 ?_; rintro _ _ ⟨rfl,rfl⟩;refine AE ?_;refine AP ?_
 rename_i b9
 revert b; intro b10
 refine AS (ρ:=sng b8 _) takeZ ?_;refine AS (ρ:=sng bD _) takeZ ?_
 have c8:rdc (sng b8 (.cells #[.slice (some ⟨bD,0,none⟩) n n] 22 (0,0))) b8 0 = some (.slice (some ⟨bD,0,none⟩) n n):=by rw [rdc_sng]; rfl
 have hub:=hD.lt (opens_lt hO) ht hs
 refine BV ?_
 refine DN [0,1,2,8,9] (((([]:List Lk),s),((.slice none 0 0,emp),b10)),([],emp)) (X:=((List Lk × Nat) × ((Value × PH) × Nat)) × (List Nat × PH))
  (fun x=>x.2.1.map mk) (fun x=>x.1.1.2 < n ∧ 0 ≤ D.getD x.1.1.2 0 ∧ pathD (nxO outs rm D) D s = x.1.1.1 ++ pathD (nxO outs rm D) D x.1.1.2 ∧ OwnS 3 1 x.1.2.1.1 x.1.1.1.length ((ksOf x.1.1.1).map int) x.1.2.1.2 ∧ x.1.1.1.length + (D.getD x.1.1.2 0).toNat ≤ n ∧ MkIn x.2.2 x.2.1)
  (fun x=>[(10,.pointer (some ⟨x.1.2.2,0,none⟩))]) (fun x=>[sng x.1.2.2 (.cells #[int (x.1.1.2:Int)] 3 (0,0)),sng b9 (.cells #[x.1.2.1.1] 22 (0,0)),x.1.2.1.2,x.2.2]) (fun x=>(D.getD x.1.1.2 0).toNat)
  pickZ rfl ⟨hs,by dsimp only; omega,rfl,OwnS.nil _ _,by dsimp only [List.length_nil]; omega,MkIn.nil⟩ covZ selZ ?_
 rintro ⟨⟨⟨pre,v⟩,⟨⟨pv,ρp⟩,bv⟩⟩,⟨ms,μ⟩⟩ ⟨hv,hd0,hpre,hP,hln,hM⟩
 dsimp only at hv hd0 hpre hP hln hM ⊢
 by_cases hvt:v = t
 ·refine AD ?_
  refine AD ?_;refine AA ?_;refine AF ?_;refine AB ?_;refine BG ?_;refine AE ?_;refine AN rfl ?_;refine A8 rfl ?_;refine AD ?_;refine AA ?_;refine AF ?_;refine AC ?_;refine AC ?_;refine AE ?_;refine DL hM takeZ (res2 rfl rfl rfl) rsubZ selZ ⟨ρp,⟨D,pv,hD,?_,?_⟩,rfl⟩
  ·rw [show decide (0 ≤ D.getD s 0) = true from decide_eq_true (by omega)]
   rfl
  ·rw [hpre,pathD_end (by rw [hvt,hD.at0]; omega),List.append_nil]
   exact hP
 ·have hdv:0 < D.getD v 0:=by
   by_cases h0:D.getD v 0 = 0
   ·exact absurd (hD.zero v hv h0) hvt
   ·omega
  obtain ⟨x0,hx0,hx0f,hx0t,hx0k,hx0d,_⟩:=nxO_some hO hD hv hdv
  obtain ⟨lv,hlv,hls⟩:=hol v hv
  refine AD ?_;refine AD ?_;refine AA ?_;refine AF ?_;refine AB ?_;refine CG ?_;refine AE ?_;refine AM rfl ?_;refine AL ?_;refine AD ?_;refine AP ?_;refine AD ?_
  refine A5 (.q 0 (.q 1 (.q 2 (.q 3 (.q 4 (.q 5 (.q 6 (.q 7 (.l 8 .e .nil))))))))) [] rfl (by kernel_rfl) selZ ?_
  refine AR ?_;refine AR ?_;refine A0 ?_;refine AU ?_;refine AQ ?_;refine AQ ?_;refine CB ?_;refine AQ ?_;refine CN (DF rfl (open_spec _ _ (SlE.one hls) rfl) rfl rfl rdZ rfl rfl ?_);rintro _ _ ⟨bl,bg,rfl,rfl⟩;simp only [List.cons_append,List.nil_append];refine A6 ?_;refine AS (ρ:=sng bl _) takeZ ?_;refine AS (ρ:=sng bg _) takeZ ?_;refine AP ?_
  refine CX (gf:=97) (cap:=[.pointer (some ⟨bl,0,none⟩),.pointer (some ⟨bg,0,none⟩)]) (ps:=[33]) (X:=(Value × PH) × Nat) rfl Tryz.func97 rfl rfl
   (open_iter γ gb bl bg lv room (outs v) rm Rr hls (by have:=(hO.len v).1; omega) hG.r (fun x hx=>by
    obtain ⟨h1,h2,_⟩:=hO.outF v x hv hx
    exact hrm x.t x h2 ((hO.same x (by omega) h2).1 (by rw [h1]; exact hx)))) ?_
   (fun i x=>x = ((pv,ρp),v) ∧ ∀ y ∈ (openL rm (outs v)).take i,near D v y = false)
   (fun x=>[sng bv (.cells #[int (x.2:Int)] 3 (0,0)),sng b9 (.cells #[x.1.1] 22 (0,0)),x.1.2])
   (fun c x=>c = .exit 2 ∧ x.2 = x0.t ∧ OwnS 3 1 x.1.1 (pre ++ [x0]).length ((ksOf (pre ++ [x0])).map int) x.1.2) ((pv,ρp),v) rfl takesZ ⟨rfl,by simp⟩ ?_ ?_ ?_
  ·intro σ hσ
   simp only [List.cons_append,List.nil_append,List.mem_cons] at hσ ⊢
   rcases hσ with h | h | h | h <;> simp [h]
  ·rintro l r i x' vs hvs ⟨rfl,hno⟩ hps has hbd hst hpe hfr
   dsimp only at hno ⊢
   obtain ⟨st,pe,fnn,tm,prm,asg,bdy,df⟩:=r
   simp only at hps has hbd hst hpe hfr;subst hps has hbd hst hpe;rw [List.getElem?_map] at hvs
   obtain ⟨x,hx,rfl⟩:=Option.map_eq_some_iff.1 hvs
   have hlt:i < (openL rm (outs v)).length:=(List.getElem?_eq_some_iff.1 hx).1
   have hxe:(openL rm (outs v))[i] = x:=(List.getElem?_eq_some_iff.1 hx).2
   have hxm:x ∈ openL rm (outs v):=List.mem_of_getElem? hx
   have hxi:x ∈ outs v ∧ 0 < rm x.k:=by unfold openL at hxm; simpa using hxm
   obtain ⟨hxf,hxt,hxk⟩:=hO.outF v x hv hxi.1
   have htk:(openL rm (outs v)).take (i + 1) = (openL rm (outs v)).take i ++ [x]:=by rw [take_snoc' hlt,hxe]
   have hvub:=hD.lt (opens_lt hO) ht hv
   have hxlo:=hD.low x.t hxt
   have hxub:=hD.lt (opens_lt hO) ht hxt
   refine yield_spec hfr rfl (by intro p hp; simp at hp; omega) putiZ (fun N' β'=>?_)
   unfold encL;refine AA ?_;refine AY ?_; rintro _ _ ⟨b,rfl,rfl⟩;refine AW ?_; rintro _ _ ⟨rfl,rfl⟩;refine AE ?_;refine CK rfl rfl ?_;refine CU takeZ rfl ?_;refine AP ?_;refine AD ?_
   refine A5 (.q 0 (.q 1 (.q 2 (.q 3 (.q 4 (.q 5 (.q 6 (.q 7 (.q 8 (.q 9 (.q 10 .nil))))))))))) [] rfl (by kernel_rfl) selZ ?_
   by_cases hnr:D.getD x.t 0 = D.getD v 0 - 1
   ·have hfx:nxO outs rm D v = some x:=find_of_take hx (by unfold near; rw [hnr]; simp) hno
    obtain rfl:x0 = x:=by rw [hfx] at hx0; exact (Option.some.inj hx0).symm
    refine AQ ?_;refine AU ?_;refine AQ ?_;refine CB ?_;refine AQ ?_;refine AQ ?_;refine AQ ?_;refine CB ?_;refine AQ ?_;refine E0 ?_;refine EI ?_;refine A6 ?_;refine AM rfl ?_;refine AD ?_
    have hpv:pv.oneCell' = true:=SlE.one (ownInts (e:=3) (l:=ksOf pre) (ρ:=ρp) (by rw [show (ksOf pre).length = pre.length from by simp [ksOf]]; exact hP))
    refine A5 (.q 0 (.q 1 (.q 2 (.p 5 (.p 6 (.l 3 .e (.l 4 .b (.l 7 .b (.l 8 .b .nil))))))))) [sng b (.cells #[int (x0.k:Int),int (x0.f:Int),int (x0.t:Int)] 123 (0,0))] rfl (by kernel_rfl) selZ ?_
    refine AQ ?_;refine AU ?_;refine AQ ?_;refine FR ?_;refine FQ ?_;refine B4 ?_; rintro _ _ ⟨b,rfl,rfl⟩;refine CN ?_;refine' a_b rfl _ rfl rfl rfl _ _
    rotate_left
    ·exact BZ (by_:=8) (s:=1) (news:=[int (x0.k:Int)]) rfl rfl rfl rfl rfl rfl rfl hP takeZ (cells_own memZ) rfl (by (repeat (first | exact (fun v hv=>absurd hv List.not_mem_nil) | (refine List.forall_mem_cons.2 ⟨?_,?_⟩; (focus (first | exact rfl | assumption))))); first | done | fail) (by omega) (by simp only [maxLen]; omega) (by omega)
    ·rintro _ _ ⟨_,_,rfl⟩ w hw; exact hw.sel selZ
    rintro q9 _ ⟨ρ3,hQ3,rfl⟩
    have hQ4:OwnS 3 1 q9 (pre ++ [x0]).length ((ksOf (pre ++ [x0])).map int) ρ3:=by
     have:(ksOf (pre ++ [x0])).map int = (ksOf pre).map int ++ [int (x0.k:Int)]:=by simp [ksOf]
     rw [this,List.length_append];exact hQ3
    have hq9:q9.oneCell' = true:=SlE.one (ownInts (e:=3) (l:=ksOf (pre ++ [x0])) (ρ:=ρ3) (by rw [show (ksOf (pre ++ [x0])).length = (pre ++ [x0]).length from by simp [ksOf]]; exact hQ4))
    refine DB ?_; rintro _ _ ⟨rfl,rfl⟩;refine DB ?_; rintro _ _ ⟨rfl,rfl⟩;refine A6 ?_
    skip
    exact EC rfl takeZ rsubZ selZ ⟨((q9,ρ3),x0.t),.inr ⟨rfl,.exit 2,⟨rfl,rfl,hQ4⟩,rfl⟩⟩
   ·refine AQ ?_
    refine AU ?_;refine AQ ?_;refine CB ?_;refine AQ ?_;refine AQ ?_;refine AQ ?_;refine CB ?_;refine AQ ?_;refine E0 ?_;refine C5 ?_;refine A6 ?_;refine AN rfl ?_;refine AL ?_;refine A4 ?_;refine BO takeZ rsubZ selZ ⟨((pv,ρp),v),.inl ⟨rfl,⟨rfl,?_⟩,rfl⟩⟩;rw [htk]
    intro y hy
    rcases List.mem_append.1 hy with hy | hy
    ·exact hno y hy
    ·rw [List.mem_singleton.1 hy]
     exact decide_eq_false hnr
  ·rintro b2 x' ⟨rfl,hno⟩
   exfalso
   have hm:=List.mem_of_find?_eq_some hx0
   have hp:=List.find?_some hx0
   rw [hno x0 (by simpa [List.length_map] using hm)] at hp
   simp at hp
  ·rintro b2 c ⟨⟨pv2,ρ2⟩,v2⟩ ⟨rfl,hv2,hP2⟩
   dsimp only at hv2 hP2 ⊢
   subst hv2;simp only [List.cons_append,List.nil_append]
   refine DM (R':=sng bD (.cells (ints D) 3 (0,0)) :: sng b8 (.cells #[.slice (some ⟨bD,0,none⟩) n n] 22 (0,0)) :: β :: γ :: Rr) (by intro σ hσ; simp at hσ ⊢; rcases hσ with h | h | h | h | h <;> simp [h]) ?_
   refine CR (b:=b2) takeZ (μ:=μ) takeZ hM ?_
   intro μ2 hM2
   refine A8 rfl ?_;refine A4 ?_;refine AD ?_;refine AA ?_;refine AF ?_;refine AE ?_;refine AA ?_;refine BP ?_; rintro _ _ ⟨b,rfl,rfl⟩;refine A7 ?_; rintro _ _ ⟨rfl,rfl⟩;refine AE ?_
   refine C8 (((pre ++ [x0],x0.t),((pv2,ρ2),b)),(b2 :: ms,μ2)) rfl ⟨hx0t,by dsimp only; omega,?_,hP2,?_,hM2⟩ (by dsimp only; omega) covZ selZ
   ·dsimp only
    rw [hpre,pathD_step hx0 hdv hx0d,List.append_assoc]; rfl
   ·dsimp only
    rw [List.length_append,List.length_singleton]; omega
end Go.Proofs.YtphehihohghfoaaGreat
