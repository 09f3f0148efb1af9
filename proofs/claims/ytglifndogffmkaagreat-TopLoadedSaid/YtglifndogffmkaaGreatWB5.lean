/- Texts of this proof, one after the other; no conditions. -/
import Derived.Shelf.SlSortCmp.NoneTotal
import Derived.Test.YtglifndogffmkaaGreatWB1
import Derived.Test.YtglifndogffmkaaGreatWB4
import Derived.Test.YtglifndogffmkaaGreatWB2
import Derived.Test.YtglifndogffmkaaGreatWB3
set_option linter.all false
/- Where the ways of a test meet behind it: the test's region and the test. No conditions. -/
namespace Go.Eng
variable {C:Cx} {D:List Deferred} {R H:List PH} {L:Env} {K:List It}
theorem FO {X:Type} {r x y:Code} {Lk:Env} (keep:List Nat) (Inv:X→Prop) (Lx:X→Env) (Hx:X→List PH) (_hk:Pick L keep Lk)
    (first:JK C D R H L (.code r::.code x::.till (MidI C D R Inv (fun z=>Lx z ++ Lk) Hx)::.code y::K))
    (rest:∀ z,Inv z→JK C D R (Hx z) (Lx z ++ Lk) (.code y::K)):JK C D R H L (.code (.seq r (.seq x y))::K):=by
  refine ⟨fun a w hf hd hs=>wpIn_seq (wpIn_mono (first.run a w hf hd hs) (fun e a' w' hq=>?_))⟩
  cases e with
  | normal =>
    refine wpIn_seq (wpIn_mono (show x.wpIn (wideR C.r) 0 C.P (wpK C (.till (MidI C D R Inv (fun z=>Lx z ++ Lk) Hx)::.code y::K)) a' w' from hq) (fun e2 a2 w2 hq2=>?_))
    cases e2 with
    | normal =>
      obtain ⟨z,h1,h3,h4,h5⟩:=hq2
      exact (rest z h1).run a2 w2 h3 h4 h5
    | _=>exact hq2
  | _=>exact hq
end Go.Eng
namespace Go.Eng
variable {C:Cx} {D:List Deferred} {R H Hf:List PH} {L:Env} {K:List It} {ps ls:List Nat}
theorem Quiet.perm {H':List PH} {o:Oper} {v:Value} (hp:H'.Perm H) (h:Quiet C R H L o v):Quiet C R H' L o v:=⟨h.1,fun a w hx hs=>h.2 a w hx (hs.perm hp)⟩
end Go.Eng
namespace Go.Eng
variable {C:Cx} {D:List Deferred} {R H:List PH} {L:Env} {K:List It}
end Go.Eng
namespace Go.Eng
theorem OwnS.form {e:TypeId} {s n:Nat} {v:Value} {xs:List Value} {ρ:PH} (h:OwnS e s v n xs ρ):∃ p c,v=.slice p n c:=by
  obtain ⟨_,⟨rfl,rfl,_⟩|⟨b,cap,_,rfl,_⟩⟩:=h
  · exact ⟨none,0,rfl⟩
  · exact ⟨_,cap,rfl⟩
theorem SlAt.mono {ρ γ:PH} {s n:Nat} {v:Value} {xs:List Value} (h:SlAt ρ s v n xs) (hs:PH.sub ρ γ):SlAt γ s v n xs:=by
  obtain ⟨h1,h2|⟨b,o,c,e,h3⟩⟩:=h
  · exact ⟨h1,.inl h2⟩
  · exact ⟨h1,.inr ⟨b,o,c,e,fun j u hu=>hs.rdc (h3 j u hu)⟩⟩
theorem SlE.mono {α:Type} {enc:α→List Value} {s:Nat} {ρ γ:PH} {v:Value} {l:List α} (h:SlE enc s ρ v l) (hs:PH.sub ρ γ):SlE enc s γ v l:=SlAt.mono h hs
end Go.Eng
namespace Go.Eng
variable {C:Cx} {D:List Deferred} {R H:List PH} {L:Env} {K:List It}
theorem BS {σ:PH} (h:JK C D R H L K):JK C D (σ::R) H L K:=
  ⟨fun a w hf hd hs=>h.run a w hf hd ⟨hs.sz,fun ρ hρ=>hs.r ρ (List.mem_cons_of_mem _ hρ),hs.h,hs.hd,fun ρ hρ=>hs.rd ρ (List.mem_cons_of_mem _ hρ)⟩⟩
end Go.Eng
namespace Go.Proofs.YtglifndogffmkaaGreat
open Go.Eng Go.Step
set_option maxRecDepth 100000
set_option maxHeartbeats 64000000
def encM (m:Lb × Hp):List Value:=[int m.1.n,int m.1.f,int m.1.t,int m.1.a,int m.2.c,int m.2.b,int m.2.e,int m.2.a]
theorem moves_spec (bA:Nat) (x:Lb) :
  Eng.Spec Tryz.prog (fv 75) [.pointer (some ⟨bA,0,none⟩),.agg #[int x.n,int x.f,int x.t,int x.a]] [] [] (fun r H'=>∃ c1 c2,r=.func (.func 149) #[] #[.pointer (some ⟨c1,0,none⟩),.pointer (some ⟨c2,0,none⟩)]∧H'=[sng c2 (.cells #[int x.n,int x.f,int x.t,int x.a] 175 (0,0)),sng c1 (.cells #[.pointer (some ⟨bA,0,none⟩)] 81 (0,0))]):=by
 refine spec_in (cap:=[]) Tryz.func75 rfl rfl Tryz.ntmps75 rfl envZ (fun N β=>?_)
 refine Aa ?_;refine BH (DP rfl rfl) rfl rfl rfl ?_;rintro _ _ ⟨c1,rfl,rfl⟩;refine BH (BI rfl) rfl rfl rfl ?_;rintro _ _ ⟨c2,rfl,rfl⟩;refine Adm ?_;refine B3 ?_;refine Aaa ?_;exact AT (res1 rfl rfl) rsubZ selZ ⟨c1,c2,rfl,rfl⟩
theorem moves_iter {γ τ:PH} {A:GA} {G:Gr} (hG:GrAt γ τ A G) (hg:GOK G) (c1 c2:Nat) (x:Lb) (hx:0≤x.a∧x.a≤2199023255552) :
  Iter Tryz.prog (.func (.func 149) #[] #[.pointer (some ⟨c1,0,none⟩),.pointer (some ⟨c2,0,none⟩)]) [sng c1 (.cells #[.pointer (some ⟨A.b,0,none⟩)] 81 (0,0)),sng c2 (.cells #[int x.n,int x.f,int x.t,int x.a] 175 (0,0)),γ,τ] ((mvs G x).map (fun m=>[.agg (encM m).toArray])):=by
 intro y S Own Inv Stop Ry hy hyl σ0 hI0
 obtain ⟨yl,rfl⟩:=hyl
 have hrooms:=fun n hn=>roomsOf_spec hG hg n hn
 have hhop:=fun {i:Nat} {c:Ct} (hi:G.cs[i]?=some c) fr hfr=>hop_spec hG hg hi fr hfr
 have hleave:=fun {i:Nat} {c:Ct} (hi:G.cs[i]?=some c) h hc he=>leave_spec hG hg hi h hc he
 obtain ⟨bA,pq,nq,kq,pc,kc,pg,kg,pr,kr,pd,kd⟩:=A
 obtain ⟨qv,hnq,cv,src,dst,rdy,dln,cus,gv,rv,dv,hcs,gaps,rooms,durs⟩:=hG
 dsimp only at qv hnq cv src dst rdy dln cus gv rv dv hcs gaps rooms durs hrooms hhop hleave ⊢
 have hlc:=hg.lc
 have bx43_3:=rdB c1 81 [.pointer (some ⟨bA,0,none⟩)]
 have v1:=rdC bx43_3 0
 have bx44_3:=rdB c2 175 [int x.n,int x.f,int x.t,int x.a]
 have x0:=rdC bx44_3 0
 have x2:=rdC bx44_3 2
 have x3:=rdC bx44_3 3
 simp only [List.cons_append,List.nil_append]
 refine spec_in (cap:=[.pointer (some ⟨c1,0,none⟩),.pointer (some ⟨c2,0,none⟩)]) Tryz.func149 rfl rfl Tryz.ntmps149 rfl envZ (fun N β=>?_)
 refine Aa8 ?_;refine BT ?_;refine AG ?_;refine Ac2 ?_;refine Abk ?_
 refine BF [0,1,2,15,16] (X:=Nat × S) (0,σ0) (fun z=>z.1≤G.cs.length∧Inv (mvF G x 0 (G.cs.take z.1)).length z.2) (fun z=>[(17,int z.1)]) (fun z=>Own z.2) (fun z=>G.cs.length-z.1) pickZ ⟨by dsimp only; omega,hI0⟩ covZ Sel.refl ?_
 rintro ⟨k,σ1⟩ ⟨hk,hI⟩
 dsimp only at hk hI ⊢
 by_cases hlt:k<G.cs.length
 rotate_left
 ·have hke:k=G.cs.length:=by omega
  subst hke;rw [List.take_length] at hI;refine Abl ?_
  refine A9 (res0 rfl) (fun _ h=>h) Sel.refl ⟨σ1,rfl,.inl ?_⟩
  rw [List.length_map];exact hI
 have hc:=List.getElem?_eq_getElem hlt
 have hnext:=mvF_next G x hc
 have hat:=fun {j:Nat} {r:Int × Int} {m:Lb × Hp}=>mvs_at G x (j:=j) (r:=r) (m:=m) hc
 have hck:=chkCt_all (hg.cs _ (List.mem_of_getElem? hc)).1
 have htr:=(hg.cs _ (List.mem_of_getElem? hc)).2
 obtain ⟨bq,oq,rfl,hrd⟩:=ctRow hcs hc
 have hhop1:=fun fr hfr=>hhop hc fr hfr
 have hleave1:=fun h h1 h2=>hleave hc h h1 h2
 generalize G.cs[k]=c at hc hnext hat hck htr hrd hhop1 hleave1
 refine Aa7 ?_;refine Aab ?_;refine Abb ?_;refine A4 ?_; rintro _ _ ⟨b,rfl,rfl⟩;refine AD ?_;refine AW ?_; rintro _ _ ⟨rfl,rfl⟩;refine Aam ?_;refine Adq ?_
 revert b; intro b5
 refine AQ (ρ:=sng b5 _) takeZ ?_
 have bx115_3:=rdB b5 61 [int c.f,int c.t,int c.s,int c.e,int c.r,int c.g,int c.l]
 have f0:=rdC bx115_3 0
 have f1:=rdC bx115_3 1
 by_cases hcf:c.f=x.n
 rotate_left
 ·have hmc:mvC G x k c=[]:=by unfold mvC; rw [if_pos hcf]
  refine C3 ?_;refine Aah ?_;refine A5 rfl ?_;refine AA ?_;refine Aaz ?_;refine BS ?_
  refine AY (k+1,σ1) ⟨by dsimp only; omega,?_⟩ (by dsimp only; omega) covZ Sel.refl
  dsimp only
  rw [hnext,hmc,List.append_nil];exact hI
 have hmc:mvC G x k c=(roomsR G c.t).filterMap (mv1 G x k c):=by unfold mvC; rw [if_neg (by simp [hcf])]
 have hro:=hrooms c.t ⟨hck.2.1.1,by omega⟩
 refine BO ?_;refine Aai ?_;refine Aa8 ?_;refine Aae ?_
 refine FI hro rfl rfl (fun τ hτ=>by rw [List.mem_singleton] at hτ; simp [hτ]) rfl rfl ?_
 rintro v ρ hS
 obtain ⟨pv,kv,rfl,hrv⟩:=SlE.val (enc:=encS) encS_len hS
 have hrl:(roomsR G c.t).length≤1200∧∀ p∈roomsR G c.t,0≤p.1∧p.1<p.2∧p.2≤1099511627776:=by
  have h:=roomsR_ok hg c.t
  exact ⟨by omega,h.2.2⟩
 rw [hmc] at hnext
 have hat1:=fun {j:Nat} {r:Int × Int} {m:Lb × Hp}=>hat (j:=j) (r:=r) (m:=m) hcf
 have hmv:∀ r,mv1 G x k c r=match hopR G k c (max x.a r.1) with
   | none=>none
   | some h=>if x.t<leaveR G c h∨G.q.dln<h.a∨(c.t≠G.q.dst∧r.2≤h.a) then none else some (⟨c.t,r.1,r.2,h.a⟩,h):=fun r=>rfl
 generalize mv1 G x k c=mv at hnext hat1 hmv
 generalize roomsR G c.t=L at hrv hrl hnext hat1 hS
 refine Abk ?_
 refine BF [0,1,2,4,5,15,16,17,30,31] (X:=Nat × S) (0,σ1) (fun z=>z.1≤L.length∧Inv ((mvF G x 0 (G.cs.take k)).length+((L.take z.1).filterMap mv).length) z.2) (fun z=>[(32,int z.1)]) (fun z=>Own z.2) (fun z=>L.length-z.1) pickZ ⟨by dsimp only; omega,by simpa using hI⟩ covZ Sel.refl ?_
 rintro ⟨j,σ2⟩ ⟨hj,hI2⟩
 dsimp only at hj hI2 ⊢
 by_cases hlt2:j<L.length
 rotate_left
 ·have hke:j=L.length:=by omega
  subst hke;rw [List.take_length] at hI2;refine Abl ?_;refine Aa3 ?_;refine BS ?_;refine BS ?_
  refine AY (k+1,σ2) ⟨by dsimp only; omega,?_⟩ (by dsimp only; omega) covZ Sel.refl
  dsimp only
  rw [hnext,List.length_append];exact hI2
 have hrr:=List.getElem?_eq_getElem hlt2
 have hfm:=fm_next mv hrr
 have hpp:=hrl.2 _ (List.mem_of_getElem? hrr)
 have hat2:=fun {m:Lb × Hp}=>hat1 (m:=m) hrr
 obtain ⟨b6,o6,rfl,hRd6,y0,y1⟩:=spRow hrv hrr
 have hmv1:=hmv L[j]
 generalize L[j]=p at hrr hfm hpp hat2 hRd6 y0 y1 hmv1
 obtain ⟨m,hm⟩:∃ m,max x.a p.1=m:=⟨_,rfl⟩
 have hm0:0≤m∧m≤2199023255552:=by omega
 rw [hm] at hmv1
 have hho:=hhop1 m hm0
 have hr2:∀ σ∈[γ,τ],σ∈ρ::sng b5 (.cells #[int c.f,int c.t,int c.s,int c.e,int c.r,int c.g,int c.l] 61 (0,0))::β::sng c1 (.cells #[.pointer (some ⟨bA,0,none⟩)] 81 (0,0))::sng c2 (.cells #[int x.n,int x.f,int x.t,int x.a] 175 (0,0))::γ::τ::Ry:=fun σ hσ=>by
  simp only [List.mem_cons,List.not_mem_nil,or_false] at hσ
  rcases hσ with rfl|rfl <;> simp
 refine Ab2 ?_;refine A4 ?_; rintro _ _ ⟨b,rfl,rfl⟩;refine AW ?_; rintro _ _ ⟨rfl,rfl⟩;refine Ac3 ?_;refine Abu ?_;refine DB ?_
 focus ((rw [hm]))
 revert b; intro b7
 cases hh:hopR G k c m with
 | none =>
  rw [hh] at hho hmv1
  have hho:Ans Tryz.prog (fv 151) [.pointer (some ⟨bA,0,none⟩),int (k:Int),int m] [γ,τ] (fun r=>r=.tuple #[.agg #[int 0,int 0,int 0,int 0],.bool false]):=hho
  refine AZ hho rfl rfl (fun σ hσ=>.inl (hr2 σ hσ)) rfl rfl ?_
  rintro _ rfl;refine Abv ?_;refine A4 ?_; rintro _ _ ⟨b,rfl,rfl⟩;refine AW ?_; rintro _ _ ⟨rfl,rfl⟩;refine Aaj ?_;refine AC ?_
  revert b; intro b8
  refine BD (.q 0 (.q 1 (.q 2 (.q 3 (.q 4 (.q 6 (.q 7 (.q 5 (.q 8 (.q 9 (.q 10 (.q 11 (.q 12 (.q 13 (.q 14 (.q 15 (.q 16 (.q 17 (.q 18 (.q 19 (.q 20 (.q 21 (.q 22 (.q 23 (.q 24 (.q 25 (.q 26 (.q 27 (.q 28 (.q 29 (.q 30 (.q 31 (.q 32 (.q 33 (.q 34 (.q 35 (.q 36 .nil))))))))))))))))))))))))))))))))))))) [] rfl (by kernel_rfl) Sel.nil ?_
  refine AM ?_;refine CW ?_;refine Aci ?_;refine Aac ?_;refine BN ?_;refine Acz ?_;refine BN ?_;refine Acz ?_;refine Abg ?_;refine Aac ?_;refine AU rfl rfl rfl rfl rfl ?_;refine Adl ?_;refine A5 rfl ?_;refine AA ?_;refine Aaz ?_
  refine AY (j+1,σ2) ⟨by dsimp only; omega,?_⟩ (by dsimp only; omega) covZ (Sel.skip (Sel.skip Sel.refl))
  dsimp only
  rw [hfm,hmv1,Option.toList_none,List.append_nil];exact hI2
 | some h =>
  obtain ⟨e1,e2,e3,e4,e5,e6,e7⟩:=hopR_ok hg hc hh
  have hle:=hleave1 h e1 ⟨by omega,by omega⟩
  rw [hh] at hho hmv1
  obtain ⟨hc0,hb0,he0,ha0⟩:=h
  dsimp only at e1 e2 e3 e4 e5 e6 e7 hmv1
  subst e1
  have hho:Ans Tryz.prog (fv 151) [.pointer (some ⟨bA,0,none⟩),int (k:Int),int m] [γ,τ] (fun r=>r=.tuple #[.agg #[int (k:Int),int hb0,int he0,int ha0],.bool true]):=hho
  have hle:Ans Tryz.prog (fv 152) [.pointer (some ⟨bA,0,none⟩),.agg #[int (k:Int),int hb0,int he0,int ha0]] [γ,τ] (fun r=>r=int (leaveR G c ⟨k,hb0,he0,ha0⟩)):=hle
  generalize leaveR G c ⟨k,hb0,he0,ha0⟩=lv at hle hmv1
  refine AZ hho rfl rfl (fun σ hσ=>.inl (hr2 σ hσ)) rfl rfl ?_
  rintro _ rfl;refine Abv ?_;refine A4 ?_; rintro _ _ ⟨b,rfl,rfl⟩;refine AW ?_; rintro _ _ ⟨rfl,rfl⟩;refine Aaj ?_;refine AC ?_
  revert b; intro b8
  refine BD (.q 0 (.q 1 (.q 2 (.q 3 (.q 4 (.q 6 (.q 7 (.l 5 .e (.q 8 (.q 9 (.q 10 (.q 11 (.q 12 (.q 13 (.q 14 (.q 15 (.q 16 (.q 17 (.q 18 (.q 19 (.q 20 (.q 21 (.q 22 (.q 23 (.q 24 (.q 25 (.q 26 (.q 27 (.q 28 (.q 29 (.q 30 (.q 31 (.q 32 (.q 33 (.q 34 (.q 35 (.q 36 .nil))))))))))))))))))))))))))))))))))))) [] rfl (by kernel_rfl) Sel.nil ?_
  refine AM ?_;refine CW ?_;refine AM ?_;refine AP ?_;refine A8 ?_;refine Aak ?_
  refine B4 (BP rfl hle rfl rfl (fun σ hσ=>.inl (hr2 σ hσ)) rfl rfl ?_)
  rintro _ rfl
  by_cases q1:x.t<lv
  ·rw [if_pos (.inl q1)] at hmv1
   refine E2 ?_;refine BR ?_;refine Acz ?_;refine BN ?_;refine Acz ?_;refine Abg ?_;refine Aac ?_;refine AU rfl rfl rfl rfl rfl ?_;refine Adl ?_;refine A5 rfl ?_;refine AA ?_;refine Aaz ?_
   refine AY (j+1,σ2) ⟨by dsimp only; omega,?_⟩ (by dsimp only; omega) covZ (Sel.skip (Sel.skip Sel.refl))
   dsimp only
   rw [hfm,hmv1,Option.toList_none,List.append_nil];exact hI2
  by_cases q2:G.q.dln<ha0
  ·rw [if_pos (.inr (.inl q2))] at hmv1
   refine C6 ?_;refine BR ?_;refine AM ?_;refine Ab8 ?_;refine E2 ?_;refine BR ?_;refine Acz ?_;refine Abg ?_;refine Aac ?_;refine AU rfl rfl rfl rfl rfl ?_;refine Adl ?_;refine A5 rfl ?_;refine AA ?_;refine Aaz ?_
   refine AY (j+1,σ2) ⟨by dsimp only; omega,?_⟩ (by dsimp only; omega) covZ (Sel.skip (Sel.skip Sel.refl))
   dsimp only
   rw [hfm,hmv1,Option.toList_none,List.append_nil];exact hI2
  by_cases q3:c.t=G.q.dst
  ·rw [if_neg (by simp [q1,q2,q3])] at hmv1
   have hya:=hy _ σ2 [.agg (encM (⟨c.t,p.1,p.2,ha0⟩,⟨k,hb0,he0,ha0⟩)).toArray] (by rw [List.getElem?_map,hat2 hmv1]; rfl) hI2
   refine C6 ?_;refine BR ?_;refine AM ?_;refine Ab8 ?_;refine C6 ?_;refine BR ?_;refine AM ?_;refine Ab8 ?_;refine FD ?_;refine Aci ?_;refine AU rfl rfl rfl rfl rfl ?_;refine BR ?_;refine BR ?_;refine Acs ?_;refine Aab ?_;refine Aae ?_;refine Aae ?_;refine Aae ?_;refine Aae ?_;refine B0 ?_;refine AK ?_;refine CK (CT (out:=[int c.t,int p.1,int p.2,int ha0,int (k:Int),int hb0,int he0,int ha0]) rfl rfl rfl rfl rfl) rfl rfl rfl ?_
   refine BA hya rfl rfl (Takes.skip (Takes.skip Takes.all)) (fun τ hτ=>.inl (by simp [hτ])) rfl rfl ?_
   rintro _ H' ⟨σ3,rfl,⟨rfl,hI3⟩|⟨rfl,hSt⟩⟩
   ·refine DC (H':=_::_::Own σ3) (List.perm_append_comm (l₂:=[_,_])) ?_
    refine B6 ?_;refine Acg ?_
    refine AY (j+1,σ3) ⟨by dsimp only; omega,?_⟩ (by dsimp only; omega) covZ (Sel.skip (Sel.skip Sel.refl))
    dsimp only
    rw [hfm,hmv1,Option.toList_some,List.length_append];exact hI3
   ·refine DC (H':=_::_::Own σ3) (List.perm_append_comm (l₂:=[_,_])) ?_
    refine B6 ?_;refine Aah ?_
    exact AT (res0 rfl) (fun _ h=>List.mem_cons_of_mem _ (List.mem_cons_of_mem _ h)) (Sel.skip (Sel.skip Sel.refl)) ⟨σ3,rfl,.inr hSt⟩
  by_cases q4:p.2≤ha0
  ·rw [if_pos (.inr (.inr ⟨q3,q4⟩))] at hmv1
   refine C6 ?_;refine BR ?_;refine AM ?_;refine Ab8 ?_;refine C6 ?_;refine BR ?_;refine AM ?_;refine Ab8 ?_;refine FJ ?_;refine AM ?_;refine Abf ?_;refine GE ?_;refine BN ?_;refine BR ?_;refine Abz ?_;refine A5 rfl ?_;refine AA ?_;refine Aaz ?_
   refine AY (j+1,σ2) ⟨by dsimp only; omega,?_⟩ (by dsimp only; omega) covZ (Sel.skip (Sel.skip Sel.refl))
   dsimp only
   rw [hfm,hmv1,Option.toList_none,List.append_nil];exact hI2
  ·rw [if_neg (by simp [q1,q2,q3,q4])] at hmv1
   have hya:=hy _ σ2 [.agg (encM (⟨c.t,p.1,p.2,ha0⟩,⟨k,hb0,he0,ha0⟩)).toArray] (by rw [List.getElem?_map,hat2 hmv1]; rfl) hI2
   refine C6 ?_;refine BR ?_;refine AM ?_;refine Ab8 ?_;refine C6 ?_;refine BR ?_;refine AM ?_;refine Ab8 ?_;refine FJ ?_;refine AM ?_;refine Abf ?_;refine FX ?_;refine BN ?_;refine BR ?_;refine Acs ?_;refine Aab ?_;refine Aae ?_;refine Aae ?_;refine Aae ?_;refine Aae ?_;refine B0 ?_;refine AK ?_;refine CK (CT (out:=[int c.t,int p.1,int p.2,int ha0,int (k:Int),int hb0,int he0,int ha0]) rfl rfl rfl rfl rfl) rfl rfl rfl ?_
   refine BA hya rfl rfl (Takes.skip (Takes.skip Takes.all)) (fun τ hτ=>.inl (by simp [hτ])) rfl rfl ?_
   rintro _ H' ⟨σ3,rfl,⟨rfl,hI3⟩|⟨rfl,hSt⟩⟩
   ·refine DC (H':=_::_::Own σ3) (List.perm_append_comm (l₂:=[_,_])) ?_
    refine B6 ?_;refine Acg ?_
    refine AY (j+1,σ3) ⟨by dsimp only; omega,?_⟩ (by dsimp only; omega) covZ (Sel.skip (Sel.skip Sel.refl))
    dsimp only
    rw [hfm,hmv1,Option.toList_some,List.length_append];exact hI3
   ·refine DC (H':=_::_::Own σ3) (List.perm_append_comm (l₂:=[_,_])) ?_
    refine B6 ?_;refine Aah ?_
    exact AT (res0 rfl) (fun _ h=>List.mem_cons_of_mem _ (List.mem_cons_of_mem _ h)) (Sel.skip (Sel.skip Sel.refl)) ⟨σ3,rfl,.inr hSt⟩
theorem grArr_spec {γ τ lam:PH} {A:GA} {G:Gr} (hG:GrAt γ τ A G) (hg:GOK G) (v:Value) (l:List Lb) (hv:SlE encL 4 lam v l) (hl:l.length≤100000) (hlb:∀ x∈l,0≤x.a∧x.a≤2199023255552) :
  Ans Tryz.prog (fv 24) [gp A,v] [γ,τ,lam] (fun r=>r=.tuple #[int ((arrR G l).getD 0),.bool (arrR G l).isSome]):=by
 have hit:=fun c1 c2 (x:Lb) hx=>moves_iter hG hg c1 c2 x hx
 obtain ⟨bA,pq,nq,kq,pc,kc,pg,kg,pr,kr,pd,kd⟩:=A
 have dst:=hG.dst
 dsimp only at dst hit ⊢
 show Ans Tryz.prog _ [.pointer (some ⟨bA,0,none⟩),v] _ _
 obtain ⟨p,c,rfl,hrl⟩:=SlE.val encL_len hv
 refine spec_in (cap:=[]) Tryz.func24 rfl rfl Tryz.ntmps24 rfl envZ (fun N β=>?_)
 refine Aa ?_;refine BH (DP rfl rfl) rfl rfl rfl ?_;rintro _ _ ⟨b2,rfl,rfl⟩;refine AQ (ρ:=sng b2 _) takeZ ?_
 have bx23_3:=rdB b2 81 [.pointer (some ⟨bA,0,none⟩)]
 have g0:=rdC bx23_3 0
 refine CC ?_;refine Ab ?_;refine Aa ?_;refine CB ?_; rintro _ _ ⟨b,rfl,rfl⟩;refine CB ?_; rintro _ _ ⟨b,rfl,rfl⟩;refine BM ?_; rintro _ _ ⟨rfl,rfl⟩;refine BM ?_; rintro _ _ ⟨rfl,rfl⟩;refine Aam ?_;refine Aab ?_;refine Abk ?_
 revert b; intro b7
 revert b; intro b6
 refine D9 [2,4,5,6,7,11,12] (X:=(Nat × Option Int) × (List Nat × PH)) ((0,none),([],emp)) (fun x=>x.2.1.map mk) (fun x=>x.1.1≤l.length∧x.1.2=arrR G (l.take x.1.1)∧MkIn x.2.2 x.2.1) (fun x=>[(13,int x.1.1)]) (fun x=>[sng b7 (.cells #[.bool x.1.2.isSome] 4 (0,0)),sng b6 (.cells #[int (x.1.2.getD 0)] 3 (0,0)),x.2.2]) (fun x=>l.length-x.1.1) pickZ rfl ⟨by dsimp only; omega,rfl,MkIn.nil⟩ covZ selZ ?_
 rintro ⟨⟨k,o⟩,⟨ms,μ⟩⟩ ⟨hk,ho,hM⟩
 dsimp only at hk ho hM ⊢
 by_cases hlt:k<l.length
 rotate_left
 ·have hke:k=l.length:=by omega
  subst hke;rw [List.take_length] at ho;rw [← ho];refine Abl ?_;refine AC ?_
  refine BD (.q 0 (.q 1 (.q 2 (.q 3 .nil)))) [] rfl (by kernel_rfl) selZ ?_
  refine AP ?_;refine AP ?_;refine BV ?_;refine Acr ?_
  skip
  exact DR hM takeZ (res2 rfl rfl rfl) rsubZ selZ ⟨rfl,rfl⟩
 have hx:=List.getElem?_eq_getElem hlt
 have hxb:=hlb _ (List.mem_of_getElem? hx)
 have hnx:=flat_next (mvs G) hx
 obtain ⟨bl,ol,rfl,hrd⟩:=hrl k _ hx
 have hit1:=fun c1 c2=>hit c1 c2 _ hxb
 have hmv:=moves_spec bA l[k]
 generalize l[k]=x at hx hxb hnx hrd hit1 hmv
 have hrd:RdN lam bl (ol+k*4) [int x.n,int x.f,int x.t,int x.a]:=hrd
 refine Ab2 ?_;refine A4 ?_; rintro _ _ ⟨b,rfl,rfl⟩;refine AW ?_; rintro _ _ ⟨rfl,rfl⟩;refine Ac3 ?_;refine AK ?_
 revert b; intro b9
 refine BA hmv rfl rfl takesZ rdZ rfl rfl ?_;rintro _ _ ⟨c1,c2,rfl,rfl⟩;simp only [List.cons_append,List.nil_append];refine AQ (ρ:=sng c2 _) takeZ ?_;refine AQ (ρ:=sng c1 _) takeZ ?_;refine Adi ?_
 refine DF (gf:=149) (cap:=[.pointer (some ⟨c1,0,none⟩),.pointer (some ⟨c2,0,none⟩)]) (ps:=[20]) (X:=Option Int) rfl Tryz.func149 rfl rfl
  (hit1 c1 c2) ?_ (fun j o'=>o'=((mvs G x).take j).foldl (arrS G) o) (fun o'=>[sng b7 (.cells #[.bool o'.isSome] 4 (0,0)),sng b6 (.cells #[int (o'.getD 0)] 3 (0,0))]) (fun _ _=>False) o rfl takesZ rfl ?_ ?_ ?_
 ·intro σ hσ
  simp only [List.mem_cons,List.not_mem_nil,or_false] at hσ ⊢
  rcases hσ with h|h|h|h <;> simp [h]
 ·rintro lo r j o' vs hvs hI hps has hbd hst hpe hfr
  obtain ⟨st,pe,fnn,tm,prm,asg,bdy,df⟩:=r
  simp only at hps has hbd hst hpe hfr;subst hps has hbd hst hpe;rw [List.getElem?_map] at hvs
  obtain ⟨m,hm,rfl⟩:=Option.map_eq_some_iff.1 hvs
  have hft:=fold_take (arrS G) hm o
  refine yield_spec hfr rfl (by intro p hp; simp at hp; omega) putiZ (fun N' β'=>?_)
  unfold encM;rw [← hI] at hft
  obtain ⟨⟨mn,mf,mt,ma⟩,⟨hc0,hb0,he0,ha0⟩⟩:=m
  dsimp only
  refine AA ?_;refine A4 ?_; rintro _ _ ⟨b,rfl,rfl⟩;refine AW ?_; rintro _ _ ⟨rfl,rfl⟩;refine AE ?_
  revert b; intro b10
  refine C5 rfl rfl ?_;refine DE takeZ rfl ?_
  by_cases q1:mn=G.q.dst
  rotate_left
  ·rw [arrS_no (m:=(⟨mn,mf,mt,ma⟩,⟨hc0,hb0,he0,ha0⟩)) q1] at hft
   refine AL ?_;refine AC ?_
   refine BD P1Z [] rfl (by kernel_rfl) selZ ?_
   refine AS ?_;refine Ab8 ?_;refine FW ?_;refine Acz ?_;refine AU rfl rfl rfl rfl rfl ?_;refine BR ?_;refine Acs ?_;refine A6 ?_;exact B9 takeZ rsubZ selZ ⟨o',.inl ⟨rfl,hft.symm,rfl⟩⟩
  cases o' with
  | none =>
   rw [arrS_none (m:=(⟨mn,mf,mt,ma⟩,⟨hc0,hb0,he0,ha0⟩)) q1] at hft;refine AL ?_;refine AC ?_
   refine BD P1Z [] rfl (by kernel_rfl) selZ ?_
   refine AS ?_;refine Ab8 ?_;refine FC ?_;refine AM ?_;refine AP ?_;refine CW ?_;refine Aci ?_;refine AU rfl rfl rfl rfl rfl ?_;refine BN ?_;refine Adl ?_;refine AA ?_;refine Ac2 ?_;refine BM ?_; rintro _ _ ⟨rfl,rfl⟩;refine BM ?_; rintro _ _ ⟨rfl,rfl⟩;refine AE ?_;refine A6 ?_;exact B9 takeZ rsubZ selZ ⟨some ma,.inl ⟨rfl,hft.symm,rfl⟩⟩
  | some bb =>
   simp only [Option.getD_some,Option.isSome_some]
   by_cases q2:ma<bb
   ·rw [arrS_lt (m:=(⟨mn,mf,mt,ma⟩,⟨hc0,hb0,he0,ha0⟩)) q1 q2] at hft
    refine AL ?_;refine AC ?_
    refine BD P1Z [] rfl (by kernel_rfl) selZ ?_
    refine AS ?_;refine Ab8 ?_;refine FC ?_;refine AM ?_;refine AP ?_;refine CW ?_;refine AM ?_;refine AS ?_;refine Ab0 ?_;refine DO ?_;refine BR ?_;refine Adl ?_;refine AA ?_;refine Ac2 ?_;refine BM ?_; rintro _ _ ⟨rfl,rfl⟩;refine BM ?_; rintro _ _ ⟨rfl,rfl⟩;refine AE ?_;refine A6 ?_;exact B9 takeZ rsubZ selZ ⟨some ma,.inl ⟨rfl,hft.symm,rfl⟩⟩
   ·rw [arrS_ge (m:=(⟨mn,mf,mt,ma⟩,⟨hc0,hb0,he0,ha0⟩)) q1 q2] at hft
    refine AL ?_;refine AC ?_
    refine BD P1Z [] rfl (by kernel_rfl) selZ ?_
    refine AS ?_;refine Ab8 ?_;refine FC ?_;refine AM ?_;refine AP ?_;refine CW ?_;refine AM ?_;refine AS ?_;refine Ab0 ?_;refine CX ?_;refine BR ?_;refine BN ?_;refine Acs ?_;refine A6 ?_;exact B9 takeZ rsubZ selZ ⟨some bb,.inl ⟨rfl,hft.symm,rfl⟩⟩
 ·rintro bm o' hI
  simp only [List.cons_append,List.nil_append]
  refine D8 (R':=[sng b2 (.cells #[.pointer (some ⟨bA,0,none⟩)] 81 (0,0)),β,γ,τ,lam]) (by intro σ hσ; simp at hσ ⊢; rcases hσ with h|h|h|h|h <;> simp [h]) ?_
  refine C0 (b:=bm) takeZ (μ:=μ) takeZ hM ?_
  intro μ2 hM2
  refine A6 ?_;refine Aa3 ?_
  refine DW ((k+1,o'),(bm::ms,μ2)) rfl ⟨by dsimp only; omega,?_,hM2⟩ (by dsimp only; omega) covZ selZ
  dsimp only
  rw [List.length_map,List.take_length] at hI;unfold arrR at ho ⊢;rw [hnx,List.foldl_append,← ho];exact hI
 ·rintro bm cc o' hf
  exact hf.elim
end Go.Proofs.YtglifndogffmkaaGreat
namespace Go.Eng
open Go.Sort
open Go.Proofs (sortWorldK)
theorem upd_grow {w w' : World} (u : Upd [] [] w w') : ∃ q os, w' = grow (w.drewN q) os := by
  obtain ⟨⟨a1, a2, a3, a4, a5⟩, hk, _⟩ := u
  refine ⟨w'.drawn - w.drawn, w'.heap.extract w.heap.size w'.heap.size, ?_⟩
  have hh : w'.heap = w.heap ++ w'.heap.extract w.heap.size w'.heap.size := by
    apply Array.ext_getElem?
    intro i
    by_cases hi : i < w.heap.size
    · rw [Array.getElem?_append_left hi]
      exact hk i hi (by simp)
    · rw [Array.getElem?_append_right (by omega), Array.getElem?_extract]
      split
      · rw [show w.heap.size + (i - w.heap.size) = i by omega]
      · rw [Array.getElem?_eq_none (by omega)]
  obtain ⟨h1, t1, d1, o1, p1⟩ := w
  obtain ⟨h2, t2, d2, o2, p2⟩ := w'
  dsimp only at *
  subst a2 a3 a4;unfold grow World.drewN;simp only [World.mk.injEq, and_true, true_and]
  exact ⟨hh, by omega⟩
theorem calls_of {P : Program} {g : FuncId} {gn : Func} {c : Code} {args : List Value} {W : World} {v : Value} (hf : P.funcs[g]? = some gn) (hb : gn.body = some c) (hname : (gn.name == "runtime.NumGoroutine") = false)
    (hs : Ans P (fv g) args [] (fun r => r = v)) : Calls P g args.toArray W (fun e W' => e = .returned v ∧ ∃ q os, W' = grow (W.drewN q) os) := by
  have h := hs (Bs.of W) W ⟨⟨Nat.le_refl _, rfl, rfl, rfl, Nat.le_refl _⟩, by simp, by simp, List.Pairwise.nil, by simp⟩
  unfold CallsV at h
  have hrun : ((do let d ← Deferred.ofValue (fv g) args.toArray; invoke d.target d.args : Sem Next).run P W) = .ok (.enter g args.toArray) W := by
    have hname' : ¬ gn.name = "runtime.NumGoroutine" := by simpa using hname
    simp [Deferred.ofValue, invoke, callFunc, program, Sem.run, bind, Sem.bind, pure, hf, hb, hname']
  rw [hrun] at h;refine callsIn_wide.1 (CallsIn.mono h ?_);rintro e W' ⟨r, rfl, H', ⟨rfl, rfl⟩, hu⟩;exact ⟨rfl, upd_grow hu⟩
theorem flatK_list {α : Type} [Inhabited α] {enc : α → List Value} {k : Nat} (hk : ∀ x, (enc x).length = k) (l : List α) : flatK enc k l.toArray = (l.flatMap enc).toArray := by
  have hsz : (flatK enc k l.toArray).size = (l.flatMap enc).length := by rw [size_flatK, flat_len hk]; simp
  apply Array.ext
  · simpa using hsz
  intro t h1 h2
  have ht : t < l.length * k := by rw [size_flatK] at h1; simpa using h1
  have k0 : 0 < k := by
    rcases Nat.eq_zero_or_pos k with h | h
    · subst h; simp at ht
    · exact h
  have hj : t / k < l.length := Nat.div_lt_of_lt_mul (by rw [Nat.mul_comm]; exact ht)
  have hg := get_flatK enc k l.toArray t (by simpa using ht)
  rw [getElem!_pos _ t h1] at hg;rw [hg]
  have e1 : l.toArray[t / k]! = l[t / k] := by rw [getElem!_pos _ _ (by simpa using hj)]; simp
  have hm : t % k < (enc l[t / k]).length := by rw [hk]; exact Nat.mod_lt _ k0
  rw [e1, getElem!_pos (enc l[t / k]) (t % k) hm]
  have hf := flat_get hk l (t / k) _ (List.getElem?_eq_getElem hj) (t % k) _ (List.getElem?_eq_getElem hm)
  rw [show t / k * k + t % k = t by rw [Nat.mul_comm]; exact Nat.div_add_mod t k] at hf
  have h3 : t < (l.flatMap enc).length := by simpa using h2
  rw [List.getElem?_eq_getElem h3] at hf;rw [← Option.some.inj hf]
  simp
theorem take_putCellsF (cur : Array Value) (F : List Value) (h : F.length ≤ cur.size) : (putCells id 0 F.toArray cur).toList.take F.length = F := by
  apply List.ext_getElem?
  intro j
  by_cases hj : j < F.length
  · rw [List.getElem?_take_of_lt hj, Array.getElem?_toList]
    simp [putCells, hj, show j < cur.size by omega]
  · rw [List.getElem?_take_eq_none (by omega), List.getElem?_eq_none (by omega)]
theorem sortF_of {α : Type} [Inhabited α] {P : Program} {f g : FuncId} {fn gn : Func} {c cg : Code} {enc : α → List Value} {k : Nat} {cf : α → α → Int} (hf : P.funcs[f]? = some fn) (hb : fn.body = some c) (hname : (fn.name == "runtime.NumGoroutine") = false)
    (hgf : P.funcs[g]? = some gn) (hgb : gn.body = some cg) (hgn : (gn.name == "runtime.NumGoroutine") = false) (hk : ∀ x, (enc x).length = k)
    (hany : ∀ (blk cap : Nat) (d : Array α) (w : World), Go.Proofs.CmpLays P g #[] enc k cf blk 0 d.size w → HoldsK enc k w blk 0 d → blk < w.heap.size → d.size < 4611686018427387904 →
      Calls P f #[.slice (some ⟨blk, 0, none⟩) d.size cap, fv g] w (fun e w' => e = .returned (.tuple #[]) ∧ ∃ d' n os, PermIn 0 d.size d d' ∧ SortedIn (Go.Proofs.ltOf cf) 0 d.size d' ∧ w' = sortWorldK enc k w blk 0 n d' os))
    (hnone : ∀ (p : Option Addr) (cap : Nat) (w : World), Calls P f #[.slice p 0 cap, fv g] w (fun e w' => e = .returned (.tuple #[]) ∧ w' = w))
    (hc : ∀ x y, Ans P (fv g) [.agg (enc x).toArray, .agg (enc y).toArray] [] (fun r => r = int (cf x y)))
    {e : TypeId} {σ : PH} {v : Value} {l : List α} (hO : OwnS e k v l.length (l.flatMap enc) σ) (hl : l.length < 4611686018427387904) :
    Spec P (fv f) [v, fv g] [] [σ] (fun r H' => r = .tuple #[] ∧ ∃ (m : List α) (σ' : PH), m.Perm l ∧ m.Pairwise (fun x y => ¬ cf y x < 0) ∧ OwnS e k v m.length (m.flatMap enc) σ' ∧ H' = [σ']) := by
  intro N w hs
  obtain ⟨β, hsat, hup⟩ := exists_base hs
  rcases hO.block with ⟨rfl, hl0, rfl⟩ | ⟨b, cap, cur, rfl, rfl, h1, h2, h3, h4⟩
  · subst hl0
    refine calls_v hf hb hname (Calls.mono (hnone none 0 w) ?_);rintro _ _ ⟨rfl, rfl⟩;exact ⟨_, rfl, [emp], ⟨rfl, [], emp, List.Perm.refl _, List.Pairwise.nil, OwnS.nil e k, rfl⟩, hup _ _ hsat⟩
  · have hg : w.heap[b]? = some (.cells cur e (0, 0)) := hs.own .here
    have hblt : b < w.heap.size := (Array.getElem?_eq_some_iff.1 hg).1
    have hle : l.length * k ≤ cap * k := Nat.mul_le_mul_right k h1
    have hH : HoldsK enc k w b 0 l.toArray := by
      unfold HoldsK;rw [flatK_list hk]
      intro j hj
      simp only [List.size_toArray] at hj
      have hj2 : j < l.length * k := by rwa [flat_len hk] at hj
      have hj' : (cur.toList.take (l.length * k))[j]? = some (l.flatMap enc)[j] := by rw [h4, List.getElem?_eq_getElem hj]
      rw [List.getElem?_take_of_lt hj2, Array.getElem?_toList] at hj';refine ⟨?_, ?_⟩
      · rw [cell_of_row w b _ cur e (0, 0) hg, Nat.zero_add, hj']
        congr 1
        show _ = ((l.flatMap enc).toArray)[j]!
        rw [getElem!_pos _ _ (by simpa using hj)]
        simp
      · simp [World.frozen?, hg]
    have hcl : Go.Proofs.CmpLays P g #[] enc k cf b 0 l.toArray.size w := fun m os dk _ x y => by
      have := calls_of (W := sortWorldK enc k w b 0 m dk os) hgf hgb hgn (hc x y)
      simpa using this
    have hany' := hany b cap l.toArray w hcl hH hblt (by simpa using hl)
    rw [List.size_toArray] at hany';refine calls_v hf hb hname (Calls.mono hany' ?_);rintro _ _ ⟨rfl, d', n, os, hp, hso, rfl⟩
    obtain ⟨m, rfl⟩ : ∃ m : List α, d' = m.toArray := ⟨d'.toList, by simp⟩
    have hsz : m.length = l.length := by have := hp.1; simpa using this
    have hperm : m.Perm l := by
      have := hp.2.2
      rw [show (m.toArray.extract 0 l.length).toList = m by simp [hsz.symm], show (l.toArray.extract 0 l.length).toList = l by simp] at this
      exact this
    have hheap : (sortWorldK enc k w b 0 n m.toArray os).heap = (w.heap.modify b (onCells (putCells id 0 (m.flatMap enc).toArray))) ++ os := by
      unfold sortWorldK putRowK;rw [flatK_list hk]
      rfl
    refine ⟨_, rfl, [sng b (.cells (putCells id 0 (m.flatMap enc).toArray cur) e (0, 0))], ⟨rfl, m, _, hperm, List.pairwise_iff_getElem.2 (fun i j hi hj hij => ?_), ⟨by rw [flat_len hk], .inr ⟨b, cap, _, by rw [hsz], rfl, by omega, h2, ?_, ?_⟩⟩, rfl⟩, ?_⟩
    · have := hso i j (Nat.zero_le _) hij (by omega)
      rw [getElem!_pos _ i (by simpa using hi), getElem!_pos _ j (by simpa using hj)] at this
      unfold Go.Proofs.ltOf at this;rw [decide_eq_false_iff_not] at this
      simpa using this
    · simp [putCells, h3]
    · have := take_putCellsF cur (m.flatMap enc) (by rw [flat_len hk, hsz, h3]; exact hle)
      rwa [flat_len hk] at this
    · refine ⟨⟨?_, rfl, rfl, rfl, Nat.le_add_right _ _⟩, fun k' hk' hno => ?_, fun ρ hρ => ?_, by simp, fun ρ hρ k' hk' => ?_⟩
      · rw [hheap]; simp
      · have hne : k' ≠ b := fun he => by
          subst he
          have := hno (sng k' (.cells cur e (0, 0))) (by simp)
          simp [sng_self] at this
        rw [hheap, Array.getElem?_append_left (by simpa using hk'), Array.getElem?_modify, if_neg (Ne.symm hne)]
      · simp at hρ; subst hρ
        intro k' o hk'
        obtain ⟨rfl, rfl⟩ := sng_some hk'
        rw [hheap, Array.getElem?_append_left (by simpa using hblt), Array.getElem?_modify, if_pos rfl, hg]
        rfl
      · simp at hρ; subst hρ
        left
        refine ⟨sng b (.cells cur e (0, 0)), by simp, ?_⟩
        cases hks : sng b (Obj.cells (putCells id 0 (m.flatMap enc).toArray cur) e (0, 0)) k' with
        | none => exact absurd hks hk'
        | some o =>
          obtain ⟨rfl, _⟩ := sng_some hks
          simp [sng_self]
end Go.Eng
namespace Go.Proofs
open Go.Shelf
def Tryz.layLb_ren:Go.Shelf.Ren:=⟨fun|6=>83|15=>106|14=>154|28=>172|29=>173|20=>202|21=>203|22=>204|23=>205|24=>206|25=>207|26=>208|27=>209|46=>252|47=>228|48=>229|49=>253|50=>254|57=>281|n=>n,fun|22=>47|24=>175|25=>184|3=>3|39=>215|0=>0|53=>284|55=>286|4=>4|46=>278|45=>277|50=>84|5=>5|9=>9|66=>330|70=>334|76=>369|77=>370|n=>n,fun|n=>n⟩
theorem Tryz.layLb:Go.Proofs.SlLaysF0.n6 Tryz.prog Tryz.layLb_ren:={
 mixed:=by kernel_rfl
 f6:=⟨Tryz.f83.name,by decide,Go.Eng.lzZ Tryz.func83⟩
 f14:=⟨Tryz.f154.name,by decide,Go.Eng.lzZ Tryz.func154⟩
 f15:=Go.Eng.lzZ Tryz.func106
 f20:=⟨Tryz.f202.name,by decide,Go.Eng.lzZ Tryz.func202⟩
 f21:=⟨Tryz.f203.name,by decide,Go.Eng.lzZ Tryz.func203⟩
 f22:=⟨Tryz.f204.name,by decide,Go.Eng.lzZ Tryz.func204⟩
 f23:=⟨Tryz.f205.name,by decide,Go.Eng.lzZ Tryz.func205⟩
 f24:=⟨Tryz.f206.name,by decide,Go.Eng.lzZ Tryz.func206⟩
 f25:=⟨Tryz.f207.name,by decide,Go.Eng.lzZ Tryz.func207⟩
 f26:=⟨Tryz.f208.name,by decide,Go.Eng.lzZ Tryz.func208⟩
 f27:=⟨Tryz.f209.name,by decide,Go.Eng.lzZ Tryz.func209⟩
 f28:=Go.Eng.lzZ Tryz.func172
 f29:=Go.Eng.lzZ Tryz.func173
 f46:=⟨Tryz.f252.name,by decide,Go.Eng.lzZ Tryz.func252⟩
 f47:=Go.Eng.lzZ Tryz.func228
 f48:=Go.Eng.lzZ Tryz.func229
 f49:=⟨Tryz.f253.name,by decide,Go.Eng.lzZ Tryz.func253⟩
 f50:=⟨Tryz.f254.name,by decide,Go.Eng.lzZ Tryz.func254⟩
 f57:=⟨Tryz.f281.name,by decide,Go.Eng.lzZ Tryz.func281⟩
 t0:=Tryz.underlying0
 a0:=Tryz.isAgg0
 z0:=Tryz.sizeOf0
 v0:=Tryz.zeroValue0
 t3:=Tryz.underlying3
 a3:=Tryz.isAgg3
 z3:=Tryz.sizeOf3
 v3:=Tryz.zeroValue3
 t4:=Tryz.underlying4
 a4:=Tryz.isAgg4
 z4:=Tryz.sizeOf4
 v4:=Tryz.zeroValue4
 t5:=Tryz.underlying5
 a5:=Tryz.isAgg5
 z5:=Tryz.sizeOf5
 v5:=Tryz.zeroValue5
 t9:=Tryz.underlying9
 a9:=Tryz.isAgg9
 z9:=Tryz.sizeOf9
 v9:=Tryz.zeroValue9
 t22:=Tryz.underlying47
 a22:=Tryz.isAgg47
 z22:=Tryz.sizeOf47
 v22:=Tryz.zeroValue47
 t25:=Tryz.underlying184
 a25:=Tryz.isAgg184
 z25:=Tryz.sizeOf184
 v25:=Tryz.zeroValue184
 t39:=Tryz.underlying215
 a39:=Tryz.isAgg215
 z39:=Tryz.sizeOf215
 v39:=Tryz.zeroValue215
 t45:=Tryz.underlying277
 a45:=Tryz.isAgg277
 z45:=Tryz.sizeOf277
 v45:=Tryz.zeroValue277
 t46:=Tryz.underlying278
 a46:=Tryz.isAgg278
 z46:=Tryz.sizeOf278
 v46:=Tryz.zeroValue278
 t50:=Tryz.underlying84
 a50:=Tryz.isAgg84
 z50:=Tryz.sizeOf84
 v50:=Tryz.zeroValue84
 t53:=Tryz.underlying284
 a53:=Tryz.isAgg284
 z53:=Tryz.sizeOf284
 v53:=Tryz.zeroValue284
 t55:=Tryz.underlying286
 a55:=Tryz.isAgg286
 z55:=Tryz.sizeOf286
 v55:=Tryz.zeroValue286
 t66:=Tryz.underlying330
 a66:=Tryz.isAgg330
 z66:=Tryz.sizeOf330
 v66:=Tryz.zeroValue330
 t70:=Tryz.underlying334
 a70:=Tryz.isAgg334
 z70:=Tryz.sizeOf334
 v70:=Tryz.zeroValue334
 t76:=Tryz.underlying369
 a76:=Tryz.isAgg369
 z76:=Tryz.sizeOf369
 v76:=Tryz.zeroValue369
 t77:=Tryz.underlying370
 a77:=Tryz.isAgg370
 z77:=Tryz.sizeOf370
 v77:=Tryz.zeroValue370 }
end Go.Proofs
namespace Go.Proofs.YtglifndogffmkaaGreat
open Go.Eng Go.Step
set_option maxRecDepth 100000
set_option maxHeartbeats 64000000
theorem lbRow {ρ:PH} {p:Option Addr} {l:List Lb} (h:RowsE encL 4 ρ p l) {i:Nat} {x:Lb} (hx:l[i]?=some x) :
  ∃ b o,p=some ⟨b,o,none⟩∧RdN ρ b (o+i*4) [int x.n,int x.f,int x.t,int x.a]∧rdc ρ b (o+i*4)=some (int x.n)∧rdc ρ b (o+i*4+1)=some (int x.f)∧rdc ρ b (o+i*4+2)=some (int x.t)∧rdc ρ b (o+i*4+3)=some (int x.a):=by
 obtain ⟨b,o,e,hr⟩:=h i x hx
 exact ⟨b,o,e,hr,hr.get0,hr.get (j:=1) rfl,hr.get (j:=2) rfl,hr.get (j:=3) rfl⟩
theorem same_spec (x y:Lb):Ans Tryz.prog (fv 80) [.agg #[int x.n,int x.f,int x.t,int x.a],.agg #[int y.n,int y.f,int y.t,int y.a]] [] (fun r=>r=.bool (sameL x y)):=by
 refine spec_in (cap:=[]) Tryz.func80 rfl rfl Tryz.ntmps80 rfl envZ (fun N β=>?_)
 unfold sameL
 by_cases h1:x.n=y.n
 ·rw [decide_eq_true h1]
  by_cases h2:x.f=y.f
  ·rw [decide_eq_true h2]
   refine Aa ?_;refine BU ?_; rintro _ _ ⟨b,rfl,rfl⟩;refine BU ?_; rintro _ _ ⟨b,rfl,rfl⟩;refine Abx ?_;refine Aae ?_;refine CO ?_;refine Abu ?_;refine CO ?_;refine Adj ?_;exact A3 ⟨rfl,rfl⟩
  ·rw [decide_eq_false h2]
   refine Aa ?_;refine BU ?_; rintro _ _ ⟨b,rfl,rfl⟩;refine BU ?_; rintro _ _ ⟨b,rfl,rfl⟩;refine Abx ?_;refine Aae ?_;refine CO ?_;refine Abu ?_;refine CA ?_;refine Adj ?_;exact A3 ⟨rfl,rfl⟩
 ·rw [decide_eq_false h1]
  refine Aa ?_;refine BU ?_; rintro _ _ ⟨b,rfl,rfl⟩;refine BU ?_; rintro _ _ ⟨b,rfl,rfl⟩;refine Abx ?_;refine Aae ?_;refine CA ?_;refine Ac6 ?_;refine Acl ?_;exact A3 ⟨rfl,rfl⟩
theorem del1_spec (b7:Nat) (x y:Lb):Ans Tryz.prog (.func (.func 79) #[] #[.pointer (some ⟨b7,0,none⟩)]) [.agg #[int y.n,int y.f,int y.t,int y.a]] [sng b7 (.cells #[int x.n,int x.f,int x.t,int x.a] 175 (0,0))] (fun r=>r=.bool (sameL x y)):=by
 have hs:=same_spec x y
 have cb:=rdB b7 175 [int x.n,int x.f,int x.t,int x.a]
 refine spec_in (cap:=[.pointer (some ⟨b7,0,none⟩)]) Tryz.func79 rfl rfl Tryz.ntmps79 rfl envZ (fun N β=>?_)
 refine Aa ?_;refine BU ?_; rintro _ _ ⟨b,rfl,rfl⟩;refine Aaa ?_;refine Ac ?_;refine AZ hs rfl rfl rdZ rfl rfl ?_;rintro _ rfl;refine Aaa ?_;exact A3 ⟨rfl,rfl⟩
theorem in2_spec (b8:Nat) (m:Lb × Hp) (y:Lb):Ans Tryz.prog (.func (.func 82) #[] #[.pointer (some ⟨b8,0,none⟩)]) [.agg #[int y.n,int y.f,int y.t,int y.a]] [sng b8 (.cells #[int m.1.n,int m.1.f,int m.1.t,int m.1.a,int m.2.c,int m.2.b,int m.2.e,int m.2.a] 180 (0,0))] (fun r=>r=.bool (sameL m.1 y)):=by
 have hs:=same_spec m.1 y
 have cb:RdP (sng b8 (.cells #[int m.1.n,int m.1.f,int m.1.t,int m.1.a,int m.2.c,int m.2.b,int m.2.e,int m.2.a] 180 (0,0))) b8 0 [int m.1.n,int m.1.f,int m.1.t,int m.1.a]:=rdP_sng (xs:=[int m.1.n,int m.1.f,int m.1.t,int m.1.a,int m.2.c,int m.2.b,int m.2.e,int m.2.a]) rfl
 refine spec_in (cap:=[.pointer (some ⟨b8,0,none⟩)]) Tryz.func82 rfl rfl Tryz.ntmps82 rfl envZ (fun N β=>?_)
 refine Aa ?_;refine BU ?_; rintro _ _ ⟨b,rfl,rfl⟩;refine Aaa ?_;refine Acn ?_;refine AK ?_;refine AZ hs rfl rfl rdZ rfl rfl ?_;rintro _ rfl;refine Aaa ?_;exact A3 ⟨rfl,rfl⟩
def cmpL (x y:Lb):Int:=orI [cmpI x.a y.a,cmpI x.n y.n,cmpI x.f y.f]
theorem cmpL_spec (x y:Lb):Ans Tryz.prog (fv 77) [.agg #[int x.n,int x.f,int x.t,int x.a],.agg #[int y.n,int y.f,int y.t,int y.a]] [] (fun r=>r=int (cmpL x y)):=by
 refine spec_in (cap:=[]) Tryz.func77 rfl rfl Tryz.ntmps77 rfl envZ (fun N β=>?_)
 refine Aa ?_;refine BU ?_; rintro _ _ ⟨b,rfl,rfl⟩;refine BU ?_; rintro _ _ ⟨b,rfl,rfl⟩;refine Aaj ?_
 refine BD (.q 0 (.q 1 (.q 2 (.q 3 (.q 5 (.q 6 (.q 7 (.q 8 (.q 10 (.q 11 (.q 12 (.q 13 (.l 4 .e (.l 9 .e (.l 14 .e (.l 15 .e (.l 16 .e (.q 17 .nil)))))))))))))))))) [] rfl (by kernel_rfl) selZ ?_
 refine Adp ?_;refine Abf ?_
 focus ((refine B4 (BP rfl (cmpI_spec _ _) rfl rfl rdZ rfl rfl ?_); rintro _ rfl))
 focus ((refine B4 (BP rfl (cmpI_spec _ _) rfl rfl rdZ rfl rfl ?_); rintro _ rfl))
 focus ((refine B4 (BP rfl (cmpI_spec _ _) rfl rfl rdZ rfl rfl ?_); rintro _ rfl))
 refine B5 ?_; rintro _ _ ⟨b,rfl,rfl⟩
 revert b; intro bo
 refine B4 (BP rfl (or_spec (sng bo _) _ [cmpI x.a y.a,cmpI x.n y.n,cmpI x.f y.f] (slE_sng Eng.encI_len) (by simp)) rfl rfl rdZ rfl rfl ?_)
 rintro _ rfl;refine Acr ?_
 skip
 exact A3 ⟨rfl,rfl⟩
theorem ownRow {α:Type} {enc:α→List Value} {s:Nat} (he:∀ x,(enc x).length=s) {e:TypeId} {b n cap:Nat} {l:List α} {ρ:PH} (h:OwnS e s (.slice (some ⟨b,0,none⟩) n cap) l.length (l.flatMap enc) ρ) {i:Nat} {x:α} (hx:l[i]?=some x):RdN ρ b (0+i*s) (enc x):=by
 have hS:SlE enc s ρ (.slice (some ⟨b,0,none⟩) n cap) l:=h.at
 obtain ⟨p,c,e1,hr⟩:=hS.val he
 simp only [Value.slice.injEq] at e1
 obtain ⟨b',o',e2,h2⟩:=hr i x hx
 rw [← e1.1] at e2;simp only [Option.some.injEq,Addr.mk.injEq,and_true] at e2
 obtain ⟨rfl,rfl⟩:=e2
 exact h2
theorem indexL_spec (ρ:PH) (v:Value) (l:List Lb) (hv:SlE encL 4 ρ v l) (hl:l.length≤100000000) (fn:Value) (p:Lb→Bool) (Rr:List PH) (hf:∀ x:Lb,Ans Tryz.prog fn [.agg #[int x.n,int x.f,int x.t,int x.a]] Rr (fun r=>r=.bool (p x))) :
  Ans Tryz.prog (fv 153) [v,fn] (ρ::Rr) (fun r=>(∃ k:Nat,r=int k∧k<l.length∧(∀ x∈l.take k,p x=false)∧∀ x,l[k]?=some x→p x=true)∨(r=int (-1)∧∀ x∈l,p x=false)):=by
 obtain ⟨q,c,rfl,hr⟩:=hv.val encL_len
 refine spec_in (cap:=[]) Tryz.func153 rfl rfl Tryz.ntmps153 rfl envZ (fun N β=>?_)
 refine Adf ?_
 refine BF [0,1,6,7] (0:Nat) (fun k=>k≤l.length∧∀ x∈l.take k,p x=false) (fun k=>[(8,int k)]) (fun _=>[]) (fun k=>l.length-k) pickZ ⟨by omega,by simp⟩ covZ selZ ?_
 rintro k ⟨hk,hp⟩
 by_cases hlt:k<l.length
 ·have hx:=List.getElem?_eq_getElem hlt
  have t1:=List.take_succ_eq_append_getElem hlt
  obtain ⟨b7,o7,rfl,hrd,g0,g1,g2,g3⟩:=lbRow hr hx
  have hfx:=hf l[k]
  have hpx:∀ x,l[k]?=some x→x=l[k]:=fun x h=>by rw [hx] at h; simpa using h.symm
  generalize l[k]=x at hx t1 hrd g0 g1 g2 g3 hfx hpx
  clear g0 g1 g2 g3
  cases hpp:p x with
  | true =>
   rw [hpp] at hfx;refine Ado ?_;refine Ac9 ?_;refine Abb ?_
   refine AZ hfx rfl rfl (fun τ hτ=>.inl (by simp [hτ])) rfl rfl ?_
   rintro _ rfl;refine Acv ?_
   exact AT (res1 rfl rfl) rsubZ selZ ⟨rfl,.inl ⟨k,rfl,hlt,hp,fun y hy=>by rw [hpx y hy]; exact hpp⟩⟩
  | false =>
   rw [hpp] at hfx;refine Ado ?_;refine Ac9 ?_;refine Abb ?_
   refine AZ hfx rfl rfl (fun τ hτ=>.inl (by simp [hτ])) rfl rfl ?_
   rintro _ rfl;refine Acg ?_
   refine AY (k+1) ⟨by omega,fun y hy=>?_⟩ (by omega) covZ selZ
   rw [t1,List.mem_append,List.mem_singleton] at hy
   rcases hy with hy|rfl
   ·exact hp y hy
   ·exact hpp
 ·have hke:k=l.length:=by omega
  subst hke;rw [List.take_length] at hp;refine Abl ?_;refine Aaq ?_;exact AT (res1 rfl rfl) rsubZ selZ ⟨rfl,.inr ⟨rfl,hp⟩⟩
theorem shortL_own {e:TypeId} {s b n cap i:Nat} {xs:List Value} {ρ:PH} (h:OwnS e s (.slice (some ⟨b,0,none⟩) n cap) n xs ρ) (hi:i≤n):OwnS e s (.slice (some ⟨b,0,none⟩) i cap) i (xs.take (i*s)) ρ:=by
 have hxl:xs.length=n*s:=h.1
 have hle:i*s≤n*s:=Nat.mul_le_mul_right s hi
 obtain ⟨cur,rfl,h1,h2,h3,h4⟩:=h.cells_at
 refine ⟨by rw [List.length_take]; omega,.inr ⟨b,cap,cur,rfl,rfl,by omega,h2,h3,?_⟩⟩
 rw [← h4,List.take_take,Nat.min_eq_left hle]
theorem filtL_next (p:Lb→Bool) {l:List Lb} {k:Nat} {x:Lb} (h:l[k]?=some x):(l.take (k+1)).filter (fun y=>!p y)=(l.take k).filter (fun y=>!p y) ++ (if p x=true then [] else [x]):=by
 obtain ⟨hk,rfl⟩:=List.getElem?_eq_some_iff.1 h
 rw [List.take_succ_eq_append_getElem hk,List.filter_append]
 congr 1
 cases hp:p l[k] <;> simp [hp]
structure DelL (p:Lb→Bool) (l:List Lb) (i j:Nat) (m:List Lb):Prop where
 a:i<j
 b:j≤l.length
 c:m.length=l.length
 d:m.take i=(l.take j).filter (fun y=>!p y)
 e:∀ k,j≤k→m[k]?=l[k]?
theorem DelL.skip {p:Lb→Bool} {l m:List Lb} {i j:Nat} (h:DelL p l i j m) {x:Lb} (hx:m[j]?=some x) (hp:p x=true) (hj:j<l.length):DelL p l i (j+1) m:=by
 refine ⟨by have:=h.a; omega,hj,h.c,?_,fun k hk=>h.e k (by omega)⟩
 rw [h.e j (Nat.le_refl _)] at hx;rw [filtL_next p hx,if_pos hp,List.append_nil,h.d]
theorem DelL.keep {p:Lb→Bool} {l m:List Lb} {i j:Nat} (h:DelL p l i j m) {x:Lb} (hx:m[j]?=some x) (hp:p x=false) (hj:j<l.length):DelL p l (i+1) (j+1) (m.set i x):=by
 have ha:=h.a
 have hc:=h.c
 refine ⟨by omega,hj,by rw [List.length_set,hc],?_,fun k hk=>?_⟩
 ·rw [h.e j (Nat.le_refl _)] at hx
  rw [filtL_next p hx,if_neg (by rw [hp]; simp),← h.d,List.take_succ_eq_append_getElem (by rw [List.length_set]; omega),List.getElem_set_self]
  congr 1
  rw [List.take_set_of_le (Nat.le_refl _)]
 ·rw [List.getElem?_set_ne (by omega)]
  exact h.e k (by omega)
theorem deleteL_spec (σ:PH) (v:Value) (l:List Lb) (hO:OwnS 175 4 v l.length (l.flatMap encL) σ) (hl:l.length≤100000000) (fn:Value) (p:Lb→Bool) (Rr:List PH) (hf:∀ x:Lb,Ans Tryz.prog fn [.agg #[int x.n,int x.f,int x.t,int x.a]] Rr (fun r=>r=.bool (p x))) :
  Eng.Spec Tryz.prog (fv 78) [v,fn] Rr [σ] (fun r H'=>∃ σ',OwnS 175 4 r (l.filter (fun y=>!p y)).length ((l.filter (fun y=>!p y)).flatMap encL) σ'∧H'=[σ']):=by
 have hat:SlE encL 4 σ v l:=hO.at
 obtain ⟨q,c,rfl,_⟩:=hat.val encL_len
 have hidx:=indexL_spec σ _ l hat hl fn p Rr hf
 refine spec_in (cap:=[]) Tryz.func78 rfl rfl Tryz.ntmps78 rfl envZ (fun N β=>?_)
 refine Aaq ?_;refine Aag ?_
 refine AZ hidx rfl rfl (fun τ hτ=>by rcases List.mem_cons.1 hτ with rfl|h2; exact .inr (by simp); exact .inl (by simp [h2])) rfl rfl ?_
 rintro _ (⟨k,rfl,hk,hp0,hp1⟩|⟨rfl,hp0⟩)
 rotate_left
 ·refine AD ?_
  refine Aam ?_;refine Aab ?_;refine CO ?_;refine Acv ?_;refine AT (res1 rfl rfl) rsubZ selZ ⟨σ,?_,rfl⟩
  rw [List.filter_eq_self.2 (fun x hx=>by rw [hp0 x hx]; rfl)]
  exact hO
 have hx0:=List.getElem?_eq_getElem hk
 have hI0:DelL p l k (k+1) l:=by
  refine ⟨by omega,by omega,rfl,?_,fun _ _=>rfl⟩
  rw [filtL_next p hx0,if_pos (hp1 _ hx0),List.append_nil,List.filter_eq_self.2 (fun x hx=>by rw [hp0 x hx]; rfl)]
 rcases hO.block with ⟨_,h2,_⟩|⟨b,cap,cur,e,_,hcap,_⟩
 ·rw [h2] at hk; simp at hk
 simp only [Value.slice.injEq] at e
 obtain ⟨rfl,_,rfl⟩:=e
 clear hidx hp0 hp1 hx0 hat;refine Aa4 ?_;refine CA ?_;refine Ab6 ?_;refine Abw ?_;refine AL ?_
 refine BF [0,1] (X:=(Nat × Nat) × (List Lb × PH)) ((k,k+1),(l,σ)) (fun x=>DelL p l x.1.1 x.1.2 x.2.1∧OwnS 175 4 (.slice (some ⟨b,0,none⟩) l.length c) l.length (x.2.1.flatMap encL) x.2.2) (fun x=>[(5,int x.1.1),(6,int x.1.2)]) (fun x=>[x.2.2]) (fun x=>l.length-x.1.2) pickZ ⟨hI0,hO⟩ covZ selZ ?_
 rintro ⟨⟨i,j⟩,⟨m,σ1⟩⟩ ⟨hI,hO1⟩
 dsimp only at hI hO1 ⊢
 have ha:=hI.a
 have hb:=hI.b
 have hcl:=hI.c
 by_cases hlt:j<l.length
 ·have hx:=List.getElem?_eq_getElem (show j<m.length by omega)
  have hO2:OwnS 175 4 (.slice (some ⟨b,0,none⟩) m.length c) m.length (m.flatMap encL) σ1:=by rw [hcl]; exact hO1
  have r1:=ownRow encL_len hO2 hx
  have hfx:=hf m[j]
  generalize m[j]=x at hx r1 hfx
  cases hpp:p x with
  | true =>
   rw [hpp] at hfx
   have hI2:=hI.skip hx hpp hlt
   refine Aap ?_;refine BC ?_;refine Abp ?_;refine Aau ?_;refine Aag ?_;refine Abb ?_;refine A4 ?_; rintro _ _ ⟨b,rfl,rfl⟩;refine AW ?_; rintro _ _ ⟨rfl,rfl⟩;refine AE ?_;refine Aab ?_;refine AK ?_
   refine AZ hfx rfl rfl (fun τ hτ=>.inl (by simp [hτ])) rfl rfl ?_
   rintro _ rfl;refine B6 ?_;refine Aai ?_;refine Acw ?_
   exact AY ((i,j+1),(m,σ1)) ⟨hI2,hO1⟩ (by dsimp only; omega) covZ selZ
  | false =>
   rw [hpp] at hfx
   have hI2:=hI.keep hx hpp hlt
   refine Aap ?_;refine BC ?_;refine Abp ?_;refine Aau ?_;refine Aag ?_;refine Abb ?_;refine A4 ?_; rintro _ _ ⟨b,rfl,rfl⟩;refine AW ?_; rintro _ _ ⟨rfl,rfl⟩;refine AE ?_;refine Aab ?_;refine AK ?_
   refine AZ hfx rfl rfl (fun τ hτ=>.inl (by simp [hτ])) rfl rfl ?_
   rintro _ rfl;refine B6 ?_;refine Aah ?_;refine Aag ?_;refine AK ?_;refine BL ?_
   refine CU (DS encL_len (a:=x) i hO2 rfl (Nat.zero_add _) rfl (by unfold encL; exact oneZ) rfl takeZ (by omega)) rfl rfl ?_
   rintro _ _ ⟨rfl,σ2,hO3,rfl⟩;refine AE ?_;refine Aby ?_;refine Abw ?_;refine Acw ?_
   refine AY ((i+1,j+1),(m.set i x,σ2)) ⟨hI2,?_⟩ (by dsimp only; omega) covZ selZ
   dsimp only
   rw [List.length_set,hcl] at hO3;exact hO3
 ·have hje:j=l.length:=by omega
  have hd:=hI.d
  rw [hje,List.take_length] at hd
  have hlen:(l.filter (fun y=>!p y)).length=i:=by rw [← hd,List.length_take]; omega
  have hO4:=shortL_own hO1 (i:=i) (by omega)
  refine Aap ?_;refine BC ?_;refine Ab1 ?_;refine Aag ?_;refine FM ?_
  refine CU (FN (by_:=32) (s:=4) (n:=i) rfl rfl rfl rfl rfl rfl (by intro u hu; have hu2:u∈[int 0,int 0,int 0,int 0]:=hu; simp at hu2; rw [hu2]; rfl) hO4 takeZ (by omega) (by omega)) rfl rfl ?_
  rintro _ _ ⟨rfl,σ2,hO5,rfl⟩;refine AE ?_;refine Aag ?_;refine EY ?_;refine Aaa ?_;refine AT (res1 rfl rfl) rsubZ selZ ⟨σ2,?_,rfl⟩;rw [hlen,← hd,flat_take encL_len];simp only [cutP_zero];exact hO5
theorem contL_spec (ρ:PH) (v:Value) (l:List Lb) (hv:SlE encL 4 ρ v l) (hl:l.length≤100000000) (fn:Value) (p:Lb→Bool) (Rr:List PH) (hf:∀ x:Lb,Ans Tryz.prog fn [.agg #[int x.n,int x.f,int x.t,int x.a]] Rr (fun r=>r=.bool (p x))) :
  Ans Tryz.prog (fv 81) [v,fn] (ρ::Rr) (fun r=>r=.bool (l.any p)):=by
 have hix:=indexL_spec ρ v l hv hl fn p Rr hf
 obtain ⟨q,c,rfl,hr⟩:=hv.val encL_len
 refine spec_in (cap:=[]) Tryz.func81 rfl rfl Tryz.ntmps81 rfl envZ (fun N β=>?_)
 refine Aaq ?_;refine Aag ?_
 refine AZ hix rfl rfl (fun τ hτ=>.inl (List.mem_cons_of_mem _ hτ)) rfl rfl ?_
 rintro _ (⟨k,rfl,hk,_,hp⟩|⟨rfl,hall⟩)
 ·have hfl:l.any p=true:=List.any_eq_true.2 ⟨_,List.getElem_mem hk,hp _ (List.getElem?_eq_getElem hk)⟩
  refine DH ?_;refine Aaa ?_
  exact AT (res1 rfl rfl) rsubZ selZ ⟨rfl,by rw [hfl]⟩
 ·have hfl:l.any p=false:=List.any_eq_false.2 (fun x hx=>by rw [hall x hx]; simp)
  refine CM ?_;refine Aaa ?_
  exact AT (res1 rfl rfl) rsubZ selZ ⟨rfl,by rw [hfl]⟩
theorem cmpL_lt (x y:Lb):cmpL x y<0↔x.a<y.a∨(x.a=y.a∧(x.n<y.n∨(x.n=y.n∧x.f<y.f))):=by
 unfold cmpL;simp only [orI,cmpI]
 repeat' split
 all_goals omega
theorem minL_spec (ρ:PH) (v:Value) (l:List Lb) (hv:SlE encL 4 ρ v l) (hl:l.length≤100000000) (h0:0<l.length) :
  Ans Tryz.prog (fv 76) [v,fv 77] [ρ] (fun r=>∃ x∈l,(∀ y∈l,¬ cmpL y x<0)∧r=.agg #[int x.n,int x.f,int x.t,int x.a]):=by
 obtain ⟨q,c,rfl,hr⟩:=hv.val encL_len
 refine spec_in (cap:=[]) Tryz.func76 rfl rfl Tryz.ntmps76 rfl envZ (fun N β=>?_)
 have hx0:=List.getElem?_eq_getElem h0
 have hm0:=List.getElem_mem h0
 obtain ⟨b0,o0,rfl,hrd0,g0,g1,g2,g3⟩:=lbRow hr hx0
 have hI0:∀ y∈l.take 1,¬ cmpL y l[0]<0:=fun y hy=>by
  rw [List.take_succ,hx0] at hy
  simp at hy
  subst hy;rw [cmpL_lt]; omega
 generalize l[0]=x0 at hx0 hm0 hrd0 g0 g1 g2 g3 hI0
 clear g0 g1 g2 g3;refine Aa ?_;refine A4 ?_; rintro _ _ ⟨b,rfl,rfl⟩;refine Aam ?_;refine Aab ?_;refine BC ?_;refine A7 ?_;refine Aai ?_;refine Aab ?_;refine Abb ?_;refine A4 ?_; rintro _ _ ⟨b,rfl,rfl⟩;refine AW ?_; rintro _ _ ⟨rfl,rfl⟩;refine Aam ?_;refine Aaq ?_;refine AL ?_
 revert b; intro b5
 revert b; intro b4
 refine BF [0,1,4,5] (X:=Nat × Lb) (1,x0) (fun z=>z.1≤l.length∧z.2∈l∧∀ y∈l.take z.1,¬ cmpL y z.2<0) (fun z=>[(6,int z.1)]) (fun z=>[sng b5 (.cells #[int z.2.n,int z.2.f,int z.2.t,int z.2.a] 175 (0,0)),sng b4 (.cells #[int 0,int 0,int 0,int 0] 175 (0,0))]) (fun z=>l.length-z.1) pickZ ⟨by dsimp only; omega,hm0,hI0⟩ covZ selZ ?_
 rintro ⟨k,m⟩ ⟨hk,hm,hI⟩
 dsimp only at hk hm hI ⊢
 by_cases hlt:k<l.length
 ·have hx:=List.getElem?_eq_getElem hlt
  have hxm:=List.getElem_mem hlt
  have htk:l.take (k+1)=l.take k ++ [l[k]]:=by rw [List.take_succ,hx]; rfl
  obtain ⟨b6,o6,e6,hrd,g0,g1,g2,g3⟩:=lbRow hr hx
  simp only [Option.some.injEq,Addr.mk.injEq,and_true] at e6
  obtain ⟨rfl,rfl⟩:=e6
  have hc:=cmpL_spec l[k] m
  generalize l[k]=x at hx hxm htk hrd g0 g1 g2 g3 hc
  clear g0 g1 g2 g3
  by_cases hlt2:cmpL x m<0
  ·generalize hcv:cmpL x m=cv at hc hlt2
   refine Aap ?_;refine BC ?_;refine Abp ?_;refine Aau ?_;refine AC ?_
   refine BD (.q 0 (.q 1 (.q 2 (.q 3 (.q 4 (.q 5 (.l 6 .e (.q 7 .nil)))))))) [] rfl (by kernel_rfl) selZ ?_
   refine Ac1 ?_;refine Abc ?_;refine A8 ?_;refine B4 (BP rfl hc rfl rfl rdZ rfl rfl ?_);rintro _ rfl;refine DO ?_;refine Abz ?_;refine Aba ?_;refine Abb ?_;refine AW ?_; rintro _ _ ⟨rfl,rfl⟩;refine AE ?_;refine Acw ?_
   refine AY (k+1,x) ⟨by dsimp only; omega,hxm,fun y hy=>?_⟩ (by dsimp only; omega) covZ selZ
   rw [← hcv,cmpL_lt] at hlt2
   dsimp only at hy ⊢
   rw [htk,List.mem_append,List.mem_singleton] at hy
   rcases hy with hy|rfl
   ·have:=hI y hy
    rw [cmpL_lt] at this ⊢; omega
   ·rw [cmpL_lt]; omega
  ·generalize hcv:cmpL x m=cv at hc hlt2
   refine Aap ?_;refine BC ?_;refine Abp ?_;refine Aau ?_;refine AC ?_
   refine BD (.q 0 (.q 1 (.q 2 (.q 3 (.q 4 (.q 5 (.l 6 .e (.q 7 .nil)))))))) [] rfl (by kernel_rfl) selZ ?_
   refine Ac1 ?_;refine Abc ?_;refine A8 ?_;refine B4 (BP rfl hc rfl rfl rdZ rfl rfl ?_);rintro _ rfl;refine CX ?_;refine Acs ?_;refine Acw ?_
   refine AY (k+1,m) ⟨by dsimp only; omega,hm,fun y hy=>?_⟩ (by dsimp only; omega) covZ selZ
   rw [← hcv] at hlt2
   dsimp only at hy ⊢
   rw [htk,List.mem_append,List.mem_singleton] at hy
   rcases hy with hy|rfl
   ·exact hI y hy
   ·exact hlt2
 ·have hke:k=l.length:=by omega
  subst hke;rw [List.take_length] at hI;refine Aap ?_;refine BC ?_;refine Ab1 ?_;refine Aas ?_;refine AW ?_; rintro _ _ ⟨rfl,rfl⟩;refine AE ?_;exact AT (resS1 (b1:=b4) (T:=175) (v1:=[int m.n,int m.f,int m.t,int m.a]) rfl rfl rfl rfl (cells_own memZ)) rsubZ selZ ⟨rfl,m,hm,hI,rfl⟩
theorem swoL:Go.Sort.SWO (Go.Proofs.ltOf cmpL):=by
 have h:∀ x y,Go.Proofs.ltOf cmpL x y=true↔x.a<y.a∨(x.a=y.a∧(x.n<y.n∨(x.n=y.n∧x.f<y.f))):=fun x y=>by unfold Go.Proofs.ltOf; rw [decide_eq_true_eq,cmpL_lt]
 have h2:∀ x y,Go.Proofs.ltOf cmpL x y=false↔¬ (x.a<y.a∨(x.a=y.a∧(x.n<y.n∨(x.n=y.n∧x.f<y.f)))):=fun x y=>by rw [← h x y,Bool.not_eq_true]
 refine ⟨fun x=>(h2 x x).2 (by omega),fun x y z a b=>(h x z).2 ?_,fun x y z a b=>(h2 x z).2 ?_⟩
 ·have a:=(h x y).1 a; have b:=(h y z).1 b; omega
 ·have a:=(h2 x y).1 a; have b:=(h2 y z).1 b; omega
instance:Inhabited Lb:=⟨⟨0,0,0,0⟩⟩
theorem one_Lb (x:Lb):∀ u∈encL x,u.oneCell'=true:=by
 intro u hu
 simp only [encL,List.mem_cons,List.not_mem_nil,or_false] at hu
 rcases hu with rfl|rfl|rfl|rfl <;> rfl
theorem sortL_spec (σ:PH) (v:Value) (l:List Lb) (hO:OwnS 175 4 v l.length (l.flatMap encL) σ) (hl:l.length≤100000000) :
  Eng.Spec Tryz.prog (fv 83) [v,fv 77] [] [σ] (fun r H'=>r=.tuple #[]∧∃ (m:List Lb) (σ':PH),m.Perm l∧m.Pairwise (fun x y=>¬ cmpL y x<0)∧OwnS 175 4 v m.length (m.flatMap encL) σ'∧H'=[σ']):=
 sortF_of (f:=83) (g:=77) (enc:=encL) (cf:=cmpL) Tryz.func83 rfl rfl Tryz.func77 rfl rfl encL_len
  (fun blk cap d w hc hH hb hs=>Go.Proofs.AnyQ.slices_SortFunc Tryz.layLb 4 Tryz.isAgg175 Tryz.sizeOf175 encL encL_len one_Lb cmpL swoL 77 #[] blk 0 cap d w (Go.Proofs.enters_of Tryz.func77 (by kernel_rfl) rfl) hc hH hb hs)
  (fun p cap w=>Go.Proofs.AnyF.slices_SortFunc_none { Tryz.layLb with } p cap (fv 77) w)
  (fun x y=>cmpL_spec x y) hO (by omega)
theorem oneO {e:TypeId} {s:Nat}:∀ z n (xs:List Value) (χ:PH),OwnS e s z n xs χ→z.oneCell'=true:=fun z n xs χ h=>by obtain ⟨_,_,rfl⟩:=h.form; rfl
theorem labels_spec {γ τ:PH} {A:GA} {G:Gr} (hG:GrAt γ τ A G) (hg:GOK G) :
  Makes Tryz.prog (fv 25) [gp A] [γ,τ] (fun r χ=>∃ L,LabR G L∧OwnS 175 4 r L.length (L.flatMap encL) χ):=by
 have hit:=fun c1 c2 (x:Lb) hx=>moves_iter hG hg c1 c2 x hx
 obtain ⟨bA,pq,nq,kq,pc,kc,pg,kg,pr,kr,pd,kd⟩:=A
 obtain ⟨qv,hnq,cv,src,dst,rdy,dln,cus,gv,rv,dv,hcs,gaps,rooms,durs⟩:=hG
 dsimp only at qv hnq cv src dst rdy dln cus gv rv dv hcs gaps rooms durs hit ⊢
 show Makes Tryz.prog _ [.pointer (some ⟨bA,0,none⟩)] _ _
 have hq:=hg.q
 obtain ⟨ms0,hms0⟩:=Int.eq_ofNat_of_zero_le hq.1
 have hlt0:ms0<G.rooms.length:=by omega
 have hR0:=List.getElem?_eq_getElem hlt0
 have hRR:=hg.room _ (List.mem_of_getElem? hR0)
 obtain ⟨b1,o1,q1,k1,rfl,h1,hS⟩:=rooms _ _ hR0
 have hbeg:begs G=((G.rooms[ms0]).filter (fun p=>decide (p.1≤G.q.rdy) && decide (G.q.rdy<p.2))).map (fun p=>⟨G.q.src,p.1,p.2,G.q.rdy⟩):=by
  unfold begs;rw [hms0,Int.toNat_natCast,getD_at hR0]
 generalize G.rooms[ms0]=L at hR0 hRR h1 hS hbeg
 obtain ⟨_,_,ew,hrw⟩:=SlE.val (enc:=encS) encS_len hS
 simp only [Value.slice.injEq] at ew
 obtain ⟨rfl,_,rfl⟩:=ew
 have src:rdc γ bA 4=some (int (ms0:Int)):=by rw [← hms0]; exact src
 refine spec_in (cap:=[]) Tryz.func25 rfl rfl Tryz.ntmps25 rfl envZ (fun N β=>?_)
 refine Aa ?_;refine BH (DP rfl rfl) rfl rfl rfl ?_;rintro _ _ ⟨b2,rfl,rfl⟩;refine AQ (ρ:=sng b2 _) takeZ ?_
 have bx37_3:=rdB b2 81 [.pointer (some ⟨bA,0,none⟩)]
 have g0:=rdC bx37_3 0
 refine CC ?_;refine Adm ?_;refine CB ?_; rintro _ _ ⟨b,rfl,rfl⟩;refine CB ?_; rintro _ _ ⟨b,rfl,rfl⟩;refine Aam ?_;refine AC ?_
 revert b; intro b4
 revert b; intro b3
 refine BD (.q 0 (.q 1 (.q 2 (.q 3 (.q 4 (.q 5 (.q 6 (.q 7 (.q 8 (.q 9 (.q 10 (.q 11 (.q 12 .nil))))))))))))) [] rfl (by kernel_rfl) Sel.nil ?_
 refine AP ?_;refine BG ?_;refine Ab0 ?_;refine Abs ?_;refine DN ?_;refine AP ?_;refine EC ?_;refine AP ?_;refine FU ?_;refine AM ?_;refine BE ?_;refine AL ?_
 refine BF [1,2,3,4,19,20] (X:=Nat × (Value × PH)) (0,(.slice none 0 0,emp)) (fun z=>z.1≤L.length∧OwnS 175 4 z.2.1 (((L.take z.1).filter (fun p=>decide (p.1≤G.q.rdy) && decide (G.q.rdy<p.2))).map (fun p=>(⟨ms0,p.1,p.2,G.q.rdy⟩:Lb))).length ((((L.take z.1).filter (fun p=>decide (p.1≤G.q.rdy) && decide (G.q.rdy<p.2))).map (fun p=>(⟨ms0,p.1,p.2,G.q.rdy⟩:Lb))).flatMap encL) z.2.2) (fun z=>[(21,int z.1)]) (fun z=>[sng b4 (.cells #[z.2.1] 47 (0,0)),sng b3 (.cells #[.slice none 0 0] 47 (0,0)),z.2.2]) (fun z=>L.length-z.1) pickZ ⟨by dsimp only; omega,OwnS.nil _ _⟩ covZ selZ ?_
 rintro ⟨k,u,σ⟩ ⟨hk,hO⟩
 dsimp only at hk hO ⊢
 have hu:=oneO _ _ _ _ hO
 by_cases hlt:k<L.length
 ·have hx:=List.getElem?_eq_getElem hlt
  have hlen:(((L.take k).filter (fun p=>decide (p.1≤G.q.rdy) && decide (G.q.rdy<p.2))).map (fun p=>(⟨ms0,p.1,p.2,G.q.rdy⟩:Lb))).length≤1100:=by
   have:=List.length_filter_le (fun p:Int × Int=>decide (p.1≤G.q.rdy) && decide (G.q.rdy<p.2)) (L.take k)
   rw [List.length_take] at this;rw [List.length_map]; omega
  have hnx:((L.take (k+1)).filter (fun p=>decide (p.1≤G.q.rdy) && decide (G.q.rdy<p.2))).map (fun p=>(⟨ms0,p.1,p.2,G.q.rdy⟩:Lb))=((L.take k).filter (fun p=>decide (p.1≤G.q.rdy) && decide (G.q.rdy<p.2))).map (fun p=>(⟨ms0,p.1,p.2,G.q.rdy⟩:Lb)) ++ (if L[k].1≤G.q.rdy∧G.q.rdy<L[k].2 then [⟨ms0,L[k].1,L[k].2,G.q.rdy⟩] else []):=by
   rw [List.take_add_one,hx,List.filter_append,List.map_append]
   congr 1
   by_cases c1:L[k].1≤G.q.rdy <;> by_cases c2:G.q.rdy<L[k].2 <;> simp [c1,c2]
  obtain ⟨b6,o6,e6,hRd6,y0,y1⟩:=spRow hrw hx
  generalize L[k]=p at hx hRd6 y0 y1 hnx
  generalize ((L.take k).filter (fun p=>decide (p.1≤G.q.rdy) && decide (G.q.rdy<p.2))).map (fun p=>(⟨ms0,p.1,p.2,G.q.rdy⟩:Lb))=Q at hO hnx hlen
  subst e6
  by_cases c1:p.1≤G.q.rdy
  rotate_left
  ·rw [if_neg (by omega),List.append_nil] at hnx
   refine Ab2 ?_;refine A4 ?_; rintro _ _ ⟨b,rfl,rfl⟩;refine AW ?_; rintro _ _ ⟨rfl,rfl⟩;refine Aam ?_
   refine BD P2Z [] rfl (by kernel_rfl) Sel.nil ?_
   refine Ab8 ?_;refine zd_leF ?_;refine Acz ?_;refine BR ?_;refine Acs ?_;refine Aa3 ?_
   exact AY (k+1,(u,σ)) ⟨by dsimp only; omega,by dsimp only; rw [hnx]; exact hO⟩ (by dsimp only; omega) covZ selZ
  by_cases c2:G.q.rdy<p.2
  rotate_left
  ·rw [if_neg (by omega),List.append_nil] at hnx
   refine Ab2 ?_;refine A4 ?_; rintro _ _ ⟨b,rfl,rfl⟩;refine AW ?_; rintro _ _ ⟨rfl,rfl⟩;refine Aam ?_
   refine BD P2Z [] rfl (by kernel_rfl) Sel.nil ?_
   refine Ab8 ?_;refine GD ?_;refine AM ?_;refine AP ?_;refine Ab4 ?_;refine Aak ?_;refine CX ?_;refine BN ?_;refine Acs ?_;refine Aa3 ?_
   exact AY (k+1,(u,σ)) ⟨by dsimp only; omega,by dsimp only; rw [hnx]; exact hO⟩ (by dsimp only; omega) covZ selZ
  rw [if_pos ⟨c1,c2⟩] at hnx;refine Ab2 ?_;refine A4 ?_; rintro _ _ ⟨b,rfl,rfl⟩;refine AW ?_; rintro _ _ ⟨rfl,rfl⟩;refine Aam ?_
  refine BD P2Z [] rfl (by kernel_rfl) Sel.nil ?_
  refine Ab8 ?_;refine GD ?_;refine AM ?_;refine AP ?_;refine Ab4 ?_;refine Aak ?_;refine DO ?_;refine Adl ?_
  refine BD (.q 0 (.q 1 (.q 2 (.q 3 (.q 4 (.q 5 (.q 6 (.q 7 (.q 8 (.q 9 (.q 10 (.q 11 (.q 12 (.q 13 (.q 14 (.q 15 (.l 16 .e (.l 17 .b (.l 18 .b .nil))))))))))))))))))) [] rfl (by kernel_rfl) Sel.nil ?_
  refine AP ?_;refine AP ?_;refine Abs ?_;refine DN ?_;refine AP ?_;refine Abf ?_;refine AP ?_;refine Ab4 ?_;refine EZ ?_;refine B5 ?_; rintro _ _ ⟨b,rfl,rfl⟩
  refine B4 (a_b rfl (CG (by_:=32) (s:=4) (news:=[int (ms0:Int),int p.1,int p.2,int G.q.rdy]) rfl rfl rfl rfl rfl rfl rfl hO takeZ (cells_own memZ) rfl oneZ (by omega) (by simp only [maxLen]; omega) (by omega)) rfl rfl rfl (fun _ _ _ w hw=>hw.sel Sel.nil) ?_)
  rintro u1 _ ⟨σ1,hO1,rfl⟩
  have hu1:=oneO _ _ _ _ hO1
  refine CN ?_; rintro _ _ ⟨rfl,rfl⟩;refine BE ?_;refine Aa3 ?_
  refine AY (k+1,(u1,σ1)) ⟨by dsimp only; omega,?_⟩ (by dsimp only; omega) covZ selZ
  dsimp only
  rw [hnx,List.length_append,List.flatMap_append];exact hO1
 have hke:k=L.length:=by omega
 subst hke;rw [List.take_length] at hO;rw [hms0] at hbeg;rw [← hbeg] at hO;refine CC ?_;refine CC ?_;refine Abl ?_;refine AC ?_;refine AL ?_
 refine D9 [1,2,3,4] (X:=((List Lb × List Lb) × (Value × Value)) × ((PH × PH) × (List Nat × PH))) ((([],begs G),(.slice none 0 0,u)),((emp,σ),([],emp))) (fun x=>x.2.2.1.map mk) (fun x=>LabI G x.1.1.1 x.1.1.2∧OwnS 175 4 x.1.2.1 x.1.1.1.length (x.1.1.1.flatMap encL) x.2.1.1∧OwnS 175 4 x.1.2.2 x.1.1.2.length (x.1.1.2.flatMap encL) x.2.1.2∧MkIn x.2.2.2 x.2.2.1) (fun _=>[]) (fun x=>[sng b4 (.cells #[x.1.2.2] 47 (0,0)),sng b3 (.cells #[x.1.2.1] 47 (0,0)),x.2.1.2,x.2.1.1,x.2.2.2]) (fun x=>6601-x.1.1.1.length) pickZ rfl ⟨LabI.zero hg,OwnS.nil _ _,hO,MkIn.nil⟩ covZ selZ ?_
 clear hO hu hbeg;rintro ⟨⟨⟨D,O⟩,⟨dv,ov⟩⟩,⟨⟨σD,σO⟩,⟨ms,μ⟩⟩⟩ ⟨hI,hOD,hOO,hM⟩
 dsimp only at hI hOD hOO hM ⊢
 have hd1:=oneO _ _ _ _ hOD
 have ho1:=oneO _ _ _ _ hOO
 have hfew:=hI.few hg
 have hol:=hI.len
 obtain ⟨po,ko,rfl⟩:=hOO.form
 by_cases h0:0<O.length
 rotate_left
 ·have hO0:O=[]:=List.length_eq_zero_iff.1 (by omega)
  subst hO0
  have hsort:=sortL_spec σD dv D hOD (by omega)
  refine AC ?_;refine Aa8 ?_;refine Acq ?_;refine Aa1 ?_;refine Aa8 ?_;refine BA hsort rfl rfl takesZ rdZ rfl rfl ?_;rintro _ _ ⟨rfl,Lf,σF,hp,hpw,hOF,rfl⟩;refine Ac3 ?_;refine Aaa ?_;exact DR hM takeZ (res1 rfl rfl) rsubZ selZ ⟨σF,⟨Lf,hI.done hg hp,hOF⟩,rfl⟩
 have hmn:=minL_spec σO _ O hOO.at (by omega) h0
 refine AC ?_;refine Aa8 ?_;refine Adh ?_;refine Aah ?_;refine Ach ?_;refine Aa8 ?_;refine AZ hmn rfl rfl rdZ rfl rfl ?_;rintro _ ⟨x,hx,hmin,rfl⟩;refine A4 ?_; rintro _ _ ⟨b,rfl,rfl⟩;refine AW ?_; rintro _ _ ⟨rfl,rfl⟩;refine Ac3 ?_;refine B3 ?_
 revert b; intro b7
 refine AQ (ρ:=sng b7 _) takeZ ?_
 have hmin2:∀ y∈O,x.a≤y.a:=fun y hy=>by
  have:=hmin y hy
  rw [cmpL_lt] at this;omega
 have hxa:=fine_bd hg (rch_fine hg (hI.rch x (by simp [hx])))
 have hI2:=hI.step hg hx hmin2
 have hfew2:=hI2.few hg
 rw [List.length_append,List.length_singleton] at hfew2;clear hmin
 have cb:=rdB b7 175 [int x.n,int x.f,int x.t,int x.a]
 have hdel:=deleteL_spec σO _ O hOO (by omega) _ (fun y=>sameL x y) [sng b7 (.cells #[int x.n,int x.f,int x.t,int x.a] 175 (0,0))] (fun y=>del1_spec b7 x y)
 have hOl:=List.length_filter_le (fun y=>!sameL x y) O
 generalize O.filter (fun y=>!sameL x y)=O1 at hI2 hdel hOl
 skip
 refine BA hdel rfl rfl takesZ rdZ rfl rfl ?_;rintro ov1 _ ⟨σO1,hOO1,rfl⟩
 have ho2:=oneO _ _ _ _ hOO1
 simp only [List.cons_append,List.nil_append];refine BM ?_; rintro _ _ ⟨rfl,rfl⟩;refine Ac3 ?_;refine AK ?_;refine BQ ?_; rintro _ _ ⟨b,rfl,rfl⟩
 revert b; intro bn
 refine BH (CG (by_:=32) (s:=4) (news:=[int x.n,int x.f,int x.t,int x.a]) rfl rfl rfl rfl rfl rfl rfl hOD takeZ (cells_own memZ) rfl oneZ (by omega) (by simp only [maxLen]; omega) (by omega)) rfl rfl rfl ?_
 rintro dv1 _ ⟨σD1,hOD1,rfl⟩
 have hd2:=oneO _ _ _ _ hOD1
 have hOD2:OwnS 175 4 dv1 (D ++ [x]).length ((D ++ [x]).flatMap encL) σD1:=by
  rw [List.length_append,List.flatMap_append]; exact hOD1
 clear hOD1 hOD hOO
 have hit1:=fun c1 c2=>hit c1 c2 x (by omega)
 have hmv:=moves_spec bA x
 refine BM ?_; rintro _ _ ⟨rfl,rfl⟩;refine Ac3 ?_;refine AK ?_;refine BA hmv rfl rfl takesZ rdZ rfl rfl ?_;rintro _ _ ⟨c1,c2,rfl,rfl⟩;simp only [List.cons_append,List.nil_append];refine AQ (ρ:=sng c2 _) takeZ ?_;refine AQ (ρ:=sng c1 _) takeZ ?_;refine Adi ?_
 have hml:=mvs_len hg x
 have hnl:∀ j,(newL G (D ++ [x]) ((mvs G x).take j)).length≤12100:=fun j=>by
  have h4:=List.length_filter_le (fun m:Lb × Hp=>decide (m.1.n≠G.q.dst) && !(D ++ [x]).any (sameL m.1)) ((mvs G x).take j)
  unfold newL;rw [List.length_map];rw [List.length_take] at h4;omega
 have hO10:OwnS 175 4 ov1 (O1 ++ newL G (D ++ [x]) ((mvs G x).take 0)).length ((O1 ++ newL G (D ++ [x]) ((mvs G x).take 0)).flatMap encL) σO1:=by
  have e:O1 ++ newL G (D ++ [x]) ((mvs G x).take 0)=O1:=by simp [newL]
  rw [e]; exact hOO1
 refine DF (gf:=149) (cap:=[.pointer (some ⟨c1,0,none⟩),.pointer (some ⟨c2,0,none⟩)]) (ps:=[77]) (X:=Value × PH) rfl Tryz.func149 rfl rfl
  (hit1 c1 c2) ?_ (fun j z=>OwnS 175 4 z.1 (O1 ++ newL G (D ++ [x]) ((mvs G x).take j)).length ((O1 ++ newL G (D ++ [x]) ((mvs G x).take j)).flatMap encL) z.2) (fun z=>[sng b4 (.cells #[z.1] 47 (0,0)),sng b3 (.cells #[dv1] 47 (0,0)),z.2,σD1]) (fun _ _=>False) (ov1,σO1) rfl takesZ hO10 ?_ ?_ ?_
 ·intro σ' hσ
  simp only [List.mem_cons,List.not_mem_nil,or_false] at hσ ⊢
  rcases hσ with h|h|h|h <;> simp [h]
 ·rintro lo r j ⟨ov2,σO2⟩ vs hvs hO2 hps has hbd hst hpe hfr
  dsimp only at hO2 ⊢
  have ho3:=oneO _ _ _ _ hO2
  obtain ⟨st,pe,fnn,tm,prm,asg,bdy,df⟩:=r
  simp only at hps has hbd hst hpe hfr;subst hps has hbd hst hpe;rw [List.getElem?_map] at hvs
  obtain ⟨m,hm,rfl⟩:=Option.map_eq_some_iff.1 hvs
  have hnx:=newL_next (G:=G) (D:=D ++ [x]) hm
  have hnj:=hnl j
  refine yield_spec hfr rfl (by intro p hp; simp at hp; omega) putiZ (fun N' β'=>?_)
  unfold encM
  generalize newL G (D ++ [x]) ((mvs G x).take j)=Q at hO2 hnx hnj
  refine AA ?_;refine A4 ?_; rintro _ _ ⟨b,rfl,rfl⟩;refine AW ?_; rintro _ _ ⟨rfl,rfl⟩;refine AE ?_
  revert b; intro b8
  refine C5 rfl rfl ?_;refine DE takeZ rfl ?_;refine AQ (ρ:=sng b8 _) takeZ ?_
  have bx410_3:=rdB b8 180 [int m.1.n,int m.1.f,int m.1.t,int m.1.a,int m.2.c,int m.2.b,int m.2.e,int m.2.a]
  have m0:=rdC bx410_3 0
  have mP:=rdQ (xs:=[_,_,_,_]) bx410_3
  by_cases q1:m.1.n=G.q.dst
  ·rw [if_neg (by simp [q1]),List.append_nil] at hnx
   refine AL ?_;refine AC ?_
   refine BD (.q 0 (.q 1 (.q 2 (.q 3 (.q 4 (.q 5 (.q 6 (.q 7 (.q 8 (.q 9 (.q 10 (.q 11 (.q 12 (.q 13 (.q 14 .nil))))))))))))))) [] rfl (by kernel_rfl) selZ ?_
   refine AS ?_;refine Ab8 ?_;refine FD ?_;refine Aci ?_;refine BR ?_;refine Acs ?_;refine A6 ?_
   exact B9 takeZ rsubZ selZ ⟨(ov2,σO2),.inl ⟨rfl,by dsimp only; rw [hnx]; exact hO2,rfl⟩⟩
  have hco:=contL_spec σD1 _ (D ++ [x]) hOD2.at (by rw [List.length_append,List.length_singleton]; omega) _ (fun y=>sameL m.1 y) _ (fun y=>in2_spec b8 m y)
  cases hany:(D ++ [x]).any (fun y=>sameL m.1 y) with
  | true =>
   rw [hany] at hco
   rw [if_neg (by simp only [not_and]; intro _ h2; rw [show (D ++ [x]).any (sameL m.1)=true from hany] at h2; cases h2),List.append_nil] at hnx
   refine AL ?_;refine AC ?_
   refine BD (.q 0 (.q 1 (.q 2 (.q 3 (.q 4 (.q 5 (.q 6 (.q 7 (.q 8 (.q 9 (.q 10 (.q 11 (.l 12 .e (.q 13 (.q 14 .nil))))))))))))))) [] rfl (by kernel_rfl) selZ ?_
   refine AS ?_;refine Ab8 ?_;refine FJ ?_;refine AM ?_;refine AP ?_;refine DZ ?_;refine B4 (BP rfl hco rfl rfl rdZ rfl rfl ?_);rintro _ rfl;refine CW ?_;refine BN ?_;refine Acs ?_;refine A6 ?_
   exact B9 takeZ rsubZ selZ ⟨(ov2,σO2),.inl ⟨rfl,by dsimp only; rw [hnx]; exact hO2,rfl⟩⟩
  | false =>
   rw [hany] at hco;rw [if_pos ⟨q1,hany⟩] at hnx;refine AL ?_;refine AC ?_
   refine BD (.q 0 (.q 1 (.q 2 (.q 3 (.q 4 (.q 5 (.q 6 (.q 7 (.q 8 (.q 9 (.q 10 (.q 11 (.l 12 .e (.q 13 (.q 14 .nil))))))))))))))) [] rfl (by kernel_rfl) selZ ?_
   refine AS ?_;refine Ab8 ?_;refine FJ ?_;refine AM ?_;refine AP ?_;refine DZ ?_;refine B4 (BP rfl hco rfl rfl rdZ rfl rfl ?_);rintro _ rfl;refine CW ?_;refine Adl ?_;refine AA ?_;refine AF ?_;refine Ab7 ?_;refine BQ ?_; rintro _ _ ⟨b,rfl,rfl⟩
   revert b; intro bn2
   have hlq:(O1 ++ Q).length=O1.length+Q.length:=List.length_append
   refine BH (CG (by_:=32) (s:=4) (news:=[int m.1.n,int m.1.f,int m.1.t,int m.1.a]) rfl rfl rfl rfl rfl rfl rfl hO2 takeZ (cells_own memZ) rfl oneZ (by omega) (by simp only [maxLen]; omega) (by omega)) rfl rfl rfl ?_
   rintro ov3 _ ⟨σO3,hO3,rfl⟩
   have ho4:=oneO _ _ _ _ hO3
   refine BM ?_; rintro _ _ ⟨rfl,rfl⟩;refine AE ?_;refine A6 ?_;refine B9 takeZ rsubZ selZ ⟨(ov3,σO3),.inl ⟨rfl,?_,rfl⟩⟩
   dsimp only
   have e:∀ W:List Lb,OwnS 175 4 ov3 (W.length+1) (W.flatMap encL ++ [int m.1.n,int m.1.f,int m.1.t,int m.1.a]) σO3→OwnS 175 4 ov3 (W ++ [m.1]).length ((W ++ [m.1]).flatMap encL) σO3:=fun W h=>by
    rw [List.length_append,List.flatMap_append]; exact h
   rw [hnx,← List.append_assoc];exact e _ hO3
 ·rintro bm ⟨ov2,σO2⟩ hO2
  dsimp only at hO2 ⊢
  simp only [List.cons_append,List.nil_append];rw [List.length_map,List.take_length] at hO2
  refine D8 (R':=[sng b2 (.cells #[.pointer (some ⟨bA,0,none⟩)] 81 (0,0)),β,γ,τ]) (by intro σ hσ; simp at hσ ⊢; rcases hσ with h|h|h|h <;> simp [h]) ?_
  refine C0 (b:=bm) takeZ (μ:=μ) takeZ hM ?_
  intro μ2 hM2
  refine A6 ?_;refine A6 ?_
  exact DW ((((D ++ [x]),(O1 ++ newL G (D ++ [x]) (mvs G x))),(dv1,ov2)),((σD1,σO2),(bm::ms,μ2))) rfl ⟨hI2,hOD2,hO2,hM2⟩ (by dsimp only; rw [List.length_append,List.length_singleton]; omega) covZ selZ
 ·rintro bm cc o' hf
  exact hf.elim
end Go.Proofs.YtglifndogffmkaaGreat
namespace Go.Step
theorem stored_none {n t:Int}:∀ {l:List Hd},(∀ g∈l,g.n=n→¬ (g.a≤t∧t<g.b))→stored l n t=0
  | [],_=>rfl
  | h::l,hh=>by
    unfold stored
    rw [stored_none (fun g hg=>hh g (by simp [hg])),if_neg (fun hc=>hh h (by simp) hc.1 hc.2)]
    rfl
theorem fits_all {l:List Hd} {nq:Nat} (hok:∀ h∈l,okHd nq h) {n Q t:Int} (hQ:0≤Q) (hf:∀ h∈l,h.n=n→stored l n h.a≤Q):stored l n t≤Q:=by
  rcases last_active (n:=n) (t:=t) l with h|⟨h,hm,hn,ha,hlast⟩
  · rw [stored_none h]; exact hQ
  · refine Int.le_trans (stored_mono (s:=h.a) (fun g hg=>⟨?_,fun h1 h2 h3=>⟨hlast g hg h1 h2 h3,by omega⟩⟩)) (hf h hm hn)
    have:=(hok g hg).2.2.1
    omega
theorem room_nonneg {qs:List Int} {hs:List Hd} (hquo:∀ (j:Nat) (q:Int),qs[j]?=some q→0≤q∧q≤1073741824) (hok:∀ h∈hs,okHd qs.length h) (hfit:fitB qs hs=true) (d:Dm) (n:Nat) (hn:n<qs.length) (t:Int):0≤roomT qs hs d n t:=by
  unfold roomT
  split
  · omega
  have hx:=List.getElem?_eq_getElem hn
  have hq:=hquo n _ hx
  rw [Int.toNat_natCast,List.getD_eq_getElem?_getD,hx,Option.getD_some]
  have hf:=List.all_eq_true.1 hfit
  have:=fits_all (n:=(n:Int)) (t:=t) hok hq.1 (fun h hh hn'=>by
    have h2:=of_decide_eq_true (hf h hh)
    rw [hn',Int.toNat_natCast,List.getD_eq_getElem?_getD,hx,Option.getD_some] at h2
    exact h2)
  omega
def SetsC (c:Cu):Prop:=∀ l∈c,chkI l=0∧l.length≤500
theorem SetsC.at {c:Cu} (h:SetsC c) (n:Int):chkI (cuAt c n)=0∧(cuAt c n).length≤500:=by
  unfold cuAt;rw [List.getD_eq_getElem?_getD]
  cases e:c[n.toNat]? with
  | none=>exact ⟨by decide,by simp⟩
  | some l=>exact h l (List.mem_of_getElem? e)
end Go.Step
namespace Go.Flow
structure Arc where
  f:Int
  t:Int
  c:Int
  deriving DecidableEq,Inhabited
def okArc (n:Int) (a:Arc):Bool:=decide (0≤a.f∧a.f<n∧0≤a.t∧a.t<n∧a.f≠a.t∧0≤a.c∧a.c≤1099511627776)
def chk (n:Int) (l:List Arc):Int:=if n<0 then 2 else if 2000<n∨20000<l.length then 4 else if l.all (okArc n) then 0 else 2
def okEnds (n s t:Int):Bool:=decide (0≤s∧s<n∧0≤t∧t<n∧s≠t)
theorem okArc_iff {n:Int} {a:Arc}:okArc n a=true↔(0≤a.f∧a.f<n∧0≤a.t∧a.t<n∧a.f≠a.t∧0≤a.c∧a.c≤1099511627776):=by unfold okArc; rw [decide_eq_true_eq]
theorem okEnds_iff {n s t:Int}:okEnds n s t=true↔(0≤s∧s<n∧0≤t∧t<n∧s≠t):=by unfold okEnds; rw [decide_eq_true_eq]
theorem chk_ok {n:Int} {l:List Arc} (h:chk n l=0):0≤n∧n≤2000∧l.length≤20000∧∀ a∈l,okArc n a=true:=by
  unfold chk at h
  split at h
  · simp at h
  · split at h
    · simp at h
    · split at h
      · rename_i h3
        rw [List.all_eq_true] at h3
        exact ⟨by omega,by omega,by omega,h3⟩
      · simp at h
def fval (v:Int):List Arc→List Int→Int
  | a::l,x::fl=>((if a.f=v then x else 0)-(if a.t=v then x else 0))+fval v l fl
  | _,_=>0
def small (fl:List Int):Prop:=∀ x∈fl,-1099511627776≤x∧x≤1099511627776
def inCap:List Arc→List Int→Bool
  | a::l,x::fl=>decide (0≤x∧x≤a.c) && inCap l fl
  | _,_=>true
theorem inCap_get:∀ (l:List Arc) (fl:List Int),inCap l fl=true→∀ (i:Nat) (a:Arc) (x:Int),l[i]?=some a→fl[i]?=some x→0≤x∧x≤a.c
  | [],_,_,i,a,x,h1,_=>by simp at h1
  | _::_,[],_,i,a,x,_,h2=>by simp at h2
  | b::l,y::fl,h,i,a,x,h1,h2=>by
    simp only [inCap,Bool.and_eq_true,decide_eq_true_eq] at h
    cases i with
    | zero=>simp at h1 h2; subst h1; subst h2; exact h.1
    | succ i=>simp at h1 h2; exact inCap_get l fl h.2 i a x h1 h2
def balanced (n:Nat) (l:List Arc) (fl:List Int) (s t:Int):Bool:=(List.range n).all (fun (v:Nat)=>decide ((v:Int)=s∨(v:Int)=t∨fval (v:Int) l fl=0))
def valueSpec (n:Int) (l:List Arc) (fl:List Int) (s t:Int):Int × Int:=
  if chk n l≠0 then (0,chk n l) else if okEnds n s t=false then (0,2) else if fl.length≠l.length then (0,10) else if inCap l fl=false then (0,2)
  else if balanced n.toNat l fl s t=false then (0,24) else (fval s l fl,0)
def capOf (p:Nat→Bool):List Arc→Int
  | []=>0
  | a::l=>(if p a.f.toNat=true∧p a.t.toNat=false then a.c else 0)+capOf p l
def sideChk (n:Int):Option Int→List Int→Int
  | _,[]=>0
  | prev,v::r=>if v<0∨n≤v then 2 else if (match prev with|some p=>decide (v≤p)|none=>false)=true then 9 else sideChk n (some v) r
def capacitySpec (n:Int) (l:List Arc) (side:List Int):Int × Int:=
  if chk n l≠0 then (0,chk n l) else if sideChk n none side≠0 then (0,sideChk n none side) else (capOf (fun j=>decide ((j:Int)∈side)) l,0)
end Go.Flow
namespace Go.Flow
def leastR (rm:Nat→Int) (p:List Lk):Int:=p.foldl (fun m x=>min m (rm x.k)) 1099511627776
def rmR (l:List Arc) (fl:List Int) (k:Nat):Int:=if k % 2=0 then (l.getD (k / 2) default).c-fl.getD (k / 2) 0 else fl.getD (k / 2) 0
def rlFrom:Nat→List Arc→List Lk
  | _,[]=>[]
  | i,a::l=>⟨2*i,a.f.toNat,a.t.toNat⟩::⟨2*i+1,a.t.toNat,a.f.toNat⟩::rlFrom (i+1) l
def rlinks (l:List Arc):List Lk:=rlFrom 0 l
theorem rlFrom_mem {n:Nat}:∀ (l:List Arc) (i:Nat),(∀ a∈l,okArc n a=true)→∀ x∈rlFrom i l,x.f<n∧x.t<n∧x.k<2*(i+l.length)
  | [],_,_,x,hx=>by simp [rlFrom] at hx
  | a::l,i,hok,x,hx=>by
    have ha:=okArc_iff.1 (hok a (by simp))
    simp only [rlFrom,List.mem_cons,List.length_cons] at hx ⊢
    rcases hx with rfl|rfl|hx
    · exact ⟨by simp only; omega,by simp only; omega,by simp only; omega⟩
    · exact ⟨by simp only; omega,by simp only; omega,by simp only; omega⟩
    · have:=rlFrom_mem l (i+1) (fun b hb=>hok b (by simp [hb])) x hx
      exact ⟨this.1,this.2.1,by omega⟩
theorem rlinks_mem {n:Nat} {l:List Arc} (hok:∀ a∈l,okArc n a=true) {x:Lk} (hx:x∈rlinks l):x.f<n∧x.t<n∧x.k<2*l.length:=by
  have:=rlFrom_mem l 0 hok x hx
  simpa using this
end Go.Flow
namespace Go.Flow
def opn (ls:List Lk) (rm:Nat→Int) (x:Lk):Prop:=x∈ls∧0<rm x.k
inductive Chn (E:Lk→Prop):Nat→List Lk→Nat→Prop
  | nil {v:Nat}:Chn E v [] v
  | cons {x:Lk} {v:Nat} {p:List Lk} {u:Nat}:x.f=v→E x→Chn E x.t p u→Chn E v (x::p) u
theorem Chn.mono {E E':Lk→Prop} (h:∀ x,E x→E' x) {v u:Nat} {p:List Lk} (hc:Chn E v p u):Chn E' v p u:=by
  induction hc with
  | nil=>exact .nil
  | cons h1 h2 _ ih=>exact .cons h1 (h _ h2) ih
theorem Chn.all {E:Lk→Prop} {v u:Nat} {p:List Lk} (hc:Chn E v p u):∀ x∈p,E x:=by
  induction hc with
  | nil=>simp
  | cons _ h2 _ ih=>intro y hy; simp at hy; rcases hy with rfl|hy; exact h2; exact ih y hy
section
variable {n t:Nat} {ls:List Lk} {rm:Nat→Int} {D:List Int}
theorem nxt_some (hls:∀ x∈ls,x.f<n∧x.t<n) (hD:IsDist n t (opn ls rm) D) {v:Nat} (hv:v<n) (hd:0<D.getD v 0) :
    ∃ x,nxt ls rm D v=some x∧x.f=v∧opn ls rm x∧D.getD x.t 0=D.getD v 0-1:=by
  obtain ⟨y,hy,hyf,hyt⟩:=hD.step v hv hd
  cases e:nxt ls rm D v with
  | none =>
    unfold nxt at e;rw [List.find?_eq_none] at e
    have:=e y hy.1
    exact absurd (by rw [Bool.and_eq_true,Bool.and_eq_true,decide_eq_true_eq,decide_eq_true_eq,near,decide_eq_true_eq]; exact ⟨⟨hy.2,hyf⟩,hyt⟩) this
  | some x =>
    have hm:=List.mem_of_find?_eq_some e
    have hp:=List.find?_some e
    simp only [Bool.and_eq_true,decide_eq_true_eq,near] at hp;exact ⟨x,rfl,hp.1.2,⟨hm,hp.1.1⟩,hp.2⟩
theorem path_chn (hls:∀ x∈ls,x.f<n∧x.t<n) (hD:IsDist n t (opn ls rm) D):∀ (k:Nat) (v:Nat),v<n→D.getD v 0=(k:Int) →
    Chn (fun x=>opn ls rm x∧D.getD x.t 0=D.getD x.f 0-1∧D.getD x.f 0≤k) v (pathD (nxt ls rm D) D v) t:=by
  intro k
  induction k with
  | zero =>
    intro v hv h
    have:=hD.zero v hv h
    subst this
    rw [pathD_end (by omega)]
    exact .nil
  | succ k ih =>
    intro v hv h
    obtain ⟨x,hx,hf,ho,hn⟩:=nxt_some hls hD hv (by omega)
    rw [pathD_step hx (by omega) hn]
    have h2:=ih x.t (hls x ho.1).2 (by rw [hn,h]; omega)
    exact .cons hf ⟨ho,by rw [hf]; exact hn,by rw [hf]; omega⟩ (h2.mono (fun y hy=>⟨hy.1,hy.2.1,by have:=hy.2.2; omega⟩))
theorem path_sorted (hls:∀ x∈ls,x.f<n∧x.t<n) (hD:IsDist n t (opn ls rm) D):∀ (k:Nat) (v:Nat),v<n→D.getD v 0=(k:Int) →
    (pathD (nxt ls rm D) D v).Pairwise (fun x y=>D.getD y.f 0<D.getD x.f 0):=by
  intro k
  induction k with
  | zero =>
    intro v hv h
    rw [pathD_end (by omega)]
    exact List.Pairwise.nil
  | succ k ih =>
    intro v hv h
    obtain ⟨x,hx,hf,ho,hn⟩:=nxt_some hls hD hv (by omega)
    rw [pathD_step hx (by omega) hn]
    have hxt:=(hls x ho.1).2
    refine List.pairwise_cons.2 ⟨fun y hy=>?_,ih x.t hxt (by rw [hn,h]; omega)⟩
    have:=((path_chn hls hD k x.t hxt (by rw [hn,h]; omega)).all y hy).2.2
    rw [hf]; omega
end
/-! ### links of the residual graph -/
theorem rlFrom_iff {x:Lk}:∀ (l:List Arc) (i:Nat),x∈rlFrom i l↔∃ j a,l[j]?=some a∧(x=⟨2*(i+j),a.f.toNat,a.t.toNat⟩∨x=⟨2*(i+j)+1,a.t.toNat,a.f.toNat⟩)
  | [],i=>by simp [rlFrom]
  | a::l,i=>by
    simp only [rlFrom,List.mem_cons];rw [rlFrom_iff l (i+1)]
    constructor
    · rintro (rfl|rfl|⟨j,b,h1,h2⟩)
      · exact ⟨0,a,rfl,.inl rfl⟩
      · exact ⟨0,a,rfl,.inr rfl⟩
      · refine ⟨j+1,b,by simpa using h1,?_⟩
        rw [show i+(j+1)=i+1+j from by omega]; exact h2
    · rintro ⟨j,b,h1,h2⟩
      cases j with
      | zero => simp at h1; subst h1; rcases h2 with h2|h2
                · exact .inl h2
                · exact .inr (.inl h2)
      | succ j =>
        refine .inr (.inr ⟨j,b,by simpa using h1,?_⟩)
        rw [show i+1+j=i+(j+1) from by omega]; exact h2
theorem rlinks_iff {l:List Arc} {x:Lk}:x∈rlinks l↔∃ j a,l[j]?=some a∧(x=⟨2*j,a.f.toNat,a.t.toNat⟩∨x=⟨2*j+1,a.t.toNat,a.f.toNat⟩):=by
  unfold rlinks;rw [rlFrom_iff];simp only [Nat.zero_add]
theorem fval_set (v:Int):∀ (l:List Arc) (fl:List Int) (i:Nat) (a:Arc) (y:Int),l[i]?=some a→l.length=fl.length →
    fval v l (fl.set i y)=fval v l fl+((if a.f=v then y-fl.getD i 0 else 0)-(if a.t=v then y-fl.getD i 0 else 0))
  | [],_,i,a,y,h,_=>by simp at h
  | b::l,[],i,a,y,_,h=>by simp at h
  | b::l,x::fl,i,a,y,h,hl=>by
    cases i with
    | zero =>
      simp at h; subst h
      simp only [List.set_cons_zero,fval,List.getD_cons_zero]
      split <;> split <;> omega
    | succ i =>
      simp only [List.set_cons_succ,fval,List.getD_cons_succ]
      rw [fval_set v l fl i a y (by simpa using h) (by simpa using hl)]
      omega
theorem inCap_set:∀ (l:List Arc) (fl:List Int) (i:Nat) (a:Arc) (y:Int),l[i]?=some a→inCap l fl=true→0≤y→y≤a.c→inCap l (fl.set i y)=true
  | [],_,i,a,y,h,_,_,_=>by simp at h
  | b::l,[],i,a,y,_,h,_,_=>by simp [inCap]
  | b::l,x::fl,i,a,y,h,hc,h1,h2=>by
    simp only [inCap,Bool.and_eq_true,decide_eq_true_eq] at hc
    cases i with
    | zero =>
      simp at h; subst h
      simp only [List.set_cons_zero,inCap,Bool.and_eq_true,decide_eq_true_eq];exact ⟨⟨h1,h2⟩,hc.2⟩
    | succ i =>
      simp only [List.set_cons_succ,inCap,Bool.and_eq_true,decide_eq_true_eq]
      exact ⟨hc.1,inCap_set l fl i a y (by simpa using h) hc.2 h1 h2⟩
def augR (room:Int) (fl:List Int) (x:Lk):List Int:=fl.set (x.k / 2) (if x.k % 2=0 then fl.getD (x.k / 2) 0+room else fl.getD (x.k / 2) 0-room)
def augAll (room:Int) (fl:List Int) (p:List Lk):List Int:=p.foldl (augR room) fl
theorem augR_len (room:Int) (fl:List Int) (x:Lk):(augR room fl x).length=fl.length:=by simp [augR]
theorem augAll_len (room:Int):∀ (p:List Lk) (fl:List Int),(augAll room fl p).length=fl.length
  | [],fl=>rfl
  | x::p,fl=>by
    have:=augAll_len room p (augR room fl x)
    rw [augR_len] at this;exact this
theorem getD_set' {l:List Int} {i j:Nat} {x:Int} (h:i≠j):(l.set i x).getD j 0=l.getD j 0:=by
  rw [List.getD_eq_getElem?_getD,List.getElem?_set_ne h,← List.getD_eq_getElem?_getD]
theorem augR_ok {n:Nat} {l:List Arc} {fl:List Int} {x:Lk} {room:Int} (hok:∀ a∈l,okArc n a=true) (hl:l.length=fl.length) (hc:inCap l fl=true) (hx:x∈rlinks l) (h0:0≤room) (hr:room≤rmR l fl x.k) :
    inCap l (augR room fl x)=true∧(∀ v:Nat,fval v l (augR room fl x)=fval v l fl+((if x.f=v then room else 0)-(if x.t=v then room else 0)))∧∀ k,k / 2≠x.k / 2→rmR l (augR room fl x) k=rmR l fl k:=by
  obtain ⟨j,a,ha,hxe⟩:=rlinks_iff.1 hx
  have hjl:j<l.length:=(List.getElem?_eq_some_iff.1 ha).1
  have hfj:fl[j]?=some (fl.getD j 0):=by simp [List.getD_eq_getElem?_getD,show j<fl.length by omega]
  have hlj:l.getD j default=a:=by simp [List.getD_eq_getElem?_getD,ha]
  have hin:=inCap_get l fl hc j a _ ha hfj
  obtain ⟨g1,g2,g3,g4,g5,g6,g7⟩:=okArc_iff.1 (hok a (List.mem_of_getElem? ha))
  have hrest:∀ k,k / 2≠x.k / 2→rmR l (augR room fl x) k=rmR l fl k:=fun k hk=>by
    unfold rmR augR;rw [getD_set' (Ne.symm hk)]
  refine ⟨?_,?_,hrest⟩
  · rcases hxe with rfl|rfl
    · unfold rmR at hr
      unfold augR
      dsimp only at hr ⊢
      rw [show 2*j / 2=j from by omega,if_pos (by omega),hlj] at hr
      rw [show 2*j / 2=j from by omega,if_pos (by omega)]
      exact inCap_set l fl j a _ ha hc (by omega) (by omega)
    · unfold rmR at hr
      unfold augR
      dsimp only at hr ⊢
      rw [show (2*j+1) / 2=j from by omega,if_neg (by omega)] at hr
      rw [show (2*j+1) / 2=j from by omega,if_neg (by omega)]
      exact inCap_set l fl j a _ ha hc (by omega) (by omega)
  · intro v
    rcases hxe with rfl|rfl
    · unfold augR
      dsimp only
      rw [show 2*j / 2=j from by omega,if_pos (by omega),fval_set v l fl j a _ ha hl]
      have e1:(a.f=(v:Int))↔(a.f.toNat=v):=by omega
      have e2:(a.t=(v:Int))↔(a.t.toNat=v):=by omega
      simp only [e1,e2]
      split <;> split <;> omega
    · unfold augR
      dsimp only
      rw [show (2*j+1) / 2=j from by omega,if_neg (by omega),fval_set v l fl j a _ ha hl]
      have e1:(a.f=(v:Int))↔(a.f.toNat=v):=by omega
      have e2:(a.t=(v:Int))↔(a.t.toNat=v):=by omega
      simp only [e1,e2]
      split <;> split <;> omega
theorem augAll_ok {n:Nat} {l:List Arc} {room:Int} (hok:∀ a∈l,okArc n a=true) (h0:0≤room) {E:Lk→Prop} (hE:∀ x,E x→x∈rlinks l) {u w:Nat} {p:List Lk} (hp:Chn E u p w) :
    ∀ (fl:List Int),l.length=fl.length→inCap l fl=true→p.Pairwise (fun x y=>x.k / 2≠y.k / 2)→(∀ x∈p,room≤rmR l fl x.k) →
    inCap l (augAll room fl p)=true∧∀ v:Nat,fval v l (augAll room fl p)=fval v l fl+((if u=v then room else 0)-(if w=v then room else 0)):=by
  induction hp with
  | nil=>intro fl _ hc _ _; exact ⟨hc,fun v=>by simp [augAll]⟩
  | @cons x u p w hf hx _ ih =>
    intro fl hl hc hpw hr
    rw [List.pairwise_cons] at hpw
    obtain ⟨s1,s2,s3⟩:=augR_ok hok hl hc (hE x hx) h0 (hr x (by simp))
    obtain ⟨r1,r2⟩:=ih (augR room fl x) (by rw [augR_len]; exact hl) s1 hpw.2 (fun y hy=>by rw [s3 y.k (Ne.symm (hpw.1 y hy))]; exact hr y (by simp [hy]))
    refine ⟨r1,fun v=>?_⟩
    have:=r2 v
    rw [s2 v] at this
    show fval v l (augAll room (augR room fl x) p)=_
    rw [this,hf]
    split <;> split <;> split <;> omega
theorem leastR_le (rm:Nat→Int):∀ (p:List Lk) (m:Int),p.foldl (fun m x=>min m (rm x.k)) m≤m∧∀ x∈p,p.foldl (fun m x=>min m (rm x.k)) m≤rm x.k
  | [],m=>by simp
  | y::p,m=>by
    have ih:=leastR_le rm p (min m (rm y.k))
    refine ⟨by simp only [List.foldl_cons]; omega,fun x hx=>?_⟩
    simp only [List.foldl_cons]
    simp at hx
    rcases hx with rfl|hx
    · omega
    · exact ih.2 x hx
theorem leastR_pos (rm:Nat→Int):∀ (p:List Lk) (m:Int),0<m→(∀ x∈p,0<rm x.k)→0<p.foldl (fun m x=>min m (rm x.k)) m
  | [],m,h,_=>by simpa using h
  | y::p,m,h,hp=>by
    simp only [List.foldl_cons]
    exact leastR_pos rm p _ (by have:=hp y (by simp); omega) (fun x hx=>hp x (by simp [hx]))
structure Flw (n:Nat) (l:List Arc) (s t:Nat) (fl:List Int):Prop where
  len:l.length=fl.length
  cap:inCap l fl=true
  bal:∀ v:Nat,v<n→v≠s→v≠t→fval v l fl=0
section
variable {n s t:Nat} {l:List Arc}
theorem rl_lt (hok:∀ a∈l,okArc n a=true):∀ x∈rlinks l,x.f<n∧x.t<n:=fun _ hx=>⟨(rlinks_mem hok hx).1,(rlinks_mem hok hx).2.1⟩
abbrev rE (l:List Arc) (fl:List Int):Lk→Prop:=opn (rlinks l) (rmR l fl)
abbrev rP (l:List Arc) (fl:List Int) (D:List Int) (s:Nat):List Lk:=pathD (nxt (rlinks l) (rmR l fl) D) D s
abbrev rNext (l:List Arc) (fl:List Int) (D:List Int) (s:Nat):List Int:=augAll (leastR (rmR l fl) (rP l fl D s)) fl (rP l fl D s)
theorem rP_arcs (hok:∀ a∈l,okArc n a=true) (hs:s<n) {fl D:List Int} (hD:IsDist n t (rE l fl) D) (h0:0≤D.getD s 0):(rP l fl D s).Pairwise (fun x y=>x.k / 2≠y.k / 2):=by
  obtain ⟨k,hk⟩:=Int.eq_ofNat_of_zero_le h0
  have hp:=path_sorted (rl_lt hok) hD k s hs hk
  have hc:=(path_chn (rl_lt hok) hD k s hs hk).all
  refine List.Pairwise.imp_of_mem (fun {x y} hx hy hxy e=>?_) hp
  obtain ⟨i,a,ha,hxe⟩:=rlinks_iff.1 (hc x hx).1.1
  obtain ⟨j,b,hb,hye⟩:=rlinks_iff.1 (hc y hy).1.1
  have dx:=(hc x hx).2.1
  have dy:=(hc y hy).2.1
  have hij:i=j:=by rcases hxe with rfl|rfl <;> rcases hye with rfl|rfl <;> (dsimp only at e; omega)
  subst hij;rw [ha] at hb
  obtain rfl:=Option.some.inj hb
  rcases hxe with rfl|rfl <;> rcases hye with rfl|rfl <;> (dsimp only at hxy dx dy; omega)
theorem rNext_ok (hok:∀ a∈l,okArc n a=true) (hs:s<n) (hst:s≠t) {fl D:List Int} (hf:Flw n l s t fl) (hD:IsDist n t (rE l fl) D) (h0:0≤D.getD s 0) :
    Flw n l s t (rNext l fl D s)∧0<leastR (rmR l fl) (rP l fl D s)∧fval s l (rNext l fl D s)=fval s l fl+leastR (rmR l fl) (rP l fl D s):=by
  obtain ⟨k,hk⟩:=Int.eq_ofNat_of_zero_le h0
  have hch:=path_chn (rl_lt hok) hD k s hs hk
  have hpos:0<leastR (rmR l fl) (rP l fl D s):=leastR_pos _ _ _ (by omega) (fun x hx=>(hch.all x hx).1.2)
  obtain ⟨r1,r2⟩:=augAll_ok hok (Int.le_of_lt hpos) (E:=fun x=>rE l fl x∧D.getD x.t 0=D.getD x.f 0-1∧D.getD x.f 0≤k) (fun x hx=>hx.1.1) hch fl hf.len hf.cap (rP_arcs hok hs hD h0) (fun x hx=>(leastR_le _ _ _).2 x hx)
  refine ⟨⟨by rw [augAll_len]; exact hf.len,r1,fun v hv h1 h2=>?_⟩,hpos,?_⟩
  · rw [r2 v,if_neg (Ne.symm h1),if_neg (Ne.symm h2),hf.bal v hv h1 h2]; rfl
  · rw [r2 s,if_pos rfl,if_neg (Ne.symm hst)]; omega
end
inductive RunR (n:Nat) (l:List Arc) (s t:Nat):List Int→List Int→Prop
  | done {fl D:List Int}:IsDist n t (rE l fl) D→D.getD s 0<0→RunR n l s t fl fl
  | step {fl D F:List Int}:IsDist n t (rE l fl) D→0≤D.getD s 0→RunR n l s t (rNext l fl D s) F→RunR n l s t fl F
theorem RunR.uniq {n s t:Nat} {l:List Arc} (hok:∀ a∈l,okArc n a=true) {fl F G:List Int} (h1:RunR n l s t fl F) (h2:RunR n l s t fl G):F=G:=by
  have hE:∀ fl x,rE l fl x→x.f<n∧x.t<n:=fun fl x hx=>rl_lt hok x hx.1
  induction h1 generalizing G with
  | done hD hn =>
    cases h2 with
    | done=>rfl
    | step hD2 h0 _=>rw [hD.uniq (hE _) hD2] at hn; omega
  | step hD h0 _ ih =>
    cases h2 with
    | done hD2 hn=>rw [hD.uniq (hE _) hD2] at h0; omega
    | step hD2 _ hr=>rw [hD.uniq (hE _) hD2] at ih; exact ih hr
theorem RunR.flw {n s t:Nat} {l:List Arc} (hok:∀ a∈l,okArc n a=true) (hs:s<n) (hst:s≠t) {fl F:List Int} (h:RunR n l s t fl F):Flw n l s t fl→Flw n l s t F∧∃ D,IsDist n t (rE l F) D∧D.getD s 0<0:=by
  induction h with
  | done hD hn=>intro hf; exact ⟨hf,_,hD,hn⟩
  | step hD h0 _ ih=>intro hf; exact ih (rNext_ok hok hs hst hf hD h0).1
theorem fval_zeros (v:Int):∀ (l:List Arc),fval v l (List.replicate l.length 0)=0
  | []=>rfl
  | a::l=>by simp only [List.length_cons,List.replicate_succ,fval]; rw [fval_zeros v l]; split <;> split <;> rfl
theorem inCap_zeros {n:Nat}:∀ (l:List Arc),(∀ a∈l,okArc n a=true)→inCap l (List.replicate l.length 0)=true
  | [],_=>rfl
  | a::l,h=>by
    have ha:=okArc_iff.1 (h a (by simp))
    simp only [List.length_cons,List.replicate_succ,inCap,Bool.and_eq_true,decide_eq_true_eq]
    exact ⟨⟨by omega,by omega⟩,inCap_zeros l (fun b hb=>h b (by simp [hb]))⟩
theorem flw_zeros {n s t:Nat} {l:List Arc} (hok:∀ a∈l,okArc n a=true):Flw n l s t (List.replicate l.length 0):=⟨by simp,inCap_zeros l hok,fun v _ _ _=>fval_zeros v l⟩
end Go.Flow
namespace Go.Flow
theorem Chn.take {E:Lk→Prop} {v u:Nat} {p:List Lk} (hc:Chn E v p u):∀ i,∃ w,Chn E v (p.take i) w:=by
  induction hc with
  | nil=>intro i; exact ⟨_,by simpa using Chn.nil⟩
  | cons h1 h2 _ ih =>
    intro i
    cases i with
    | zero=>exact ⟨_,by simpa using Chn.nil⟩
    | succ i=>obtain ⟨w,hw⟩:=ih i; exact ⟨w,.cons h1 h2 hw⟩
theorem path_len {n t:Nat} {ls:List Lk} {rm:Nat→Int} {D:List Int} (hls:∀ x∈ls,x.f<n∧x.t<n) (hD:IsDist n t (opn ls rm) D):∀ (k:Nat) (v:Nat),v<n→D.getD v 0=(k:Int)→(pathD (nxt ls rm D) D v).length=k:=by
  intro k
  induction k with
  | zero=>intro v hv h; rw [pathD_end (by omega)]; rfl
  | succ k ih =>
    intro v hv h
    obtain ⟨x,hx,hf,ho,hn⟩:=nxt_some hls hD hv (by omega)
    rw [pathD_step hx (by omega) hn,List.length_cons,ih x.t (hls x ho.1).2 (by rw [hn,h]; omega)]
end Go.Flow
namespace Go.Flow
def sumTo (g:Nat→Int):Nat→Int
  | 0=>0
  | n+1=>sumTo g n+g n
theorem sumTo_add (g h:Nat→Int):∀ n,sumTo (fun v=>g v+h v) n=sumTo g n+sumTo h n
  | 0=>rfl
  | n+1=>by simp only [sumTo]; rw [sumTo_add g h n]; omega
theorem sumTo_congr {g h:Nat→Int}:∀ n,(∀ v,v<n→g v=h v)→sumTo g n=sumTo h n
  | 0,_=>rfl
  | n+1,e=>by simp only [sumTo]; rw [sumTo_congr n (fun v hv=>e v (by omega)),e n (by omega)]
theorem sumTo_zero {g:Nat→Int}:∀ n,(∀ v,v<n→g v=0)→sumTo g n=0
  | 0,_=>rfl
  | n+1,e=>by simp only [sumTo]; rw [sumTo_zero n (fun v hv=>e v (by omega)),e n (by omega)]; rfl
theorem sumTo_one {g:Nat→Int} {k:Nat}:∀ n,k<n→(∀ v,v<n→v≠k→g v=0)→sumTo g n=g k
  | 0,h,_=>by omega
  | n+1,h,e=>by
    simp only [sumTo]
    by_cases hk:k=n
    · subst hk
      rw [sumTo_zero k (fun v hv=>e v (by omega) (by omega))]; omega
    · rw [sumTo_one n (by omega) (fun v hv hne=>e v (by omega) hne),e n (by omega) (by omega)]; omega
def netB (B:Nat→Bool):List Arc→List Int→Int
  | a::l,x::fl=>((if B a.f.toNat=true then x else 0)-(if B a.t.toNat=true then x else 0))+netB B l fl
  | _,_=>0
theorem netB_eq {n:Nat} (B:Nat→Bool):∀ (l:List Arc) (fl:List Int),(∀ a∈l,okArc n a=true)→sumTo (fun v=>if B v=true then fval v l fl else 0) n=netB B l fl
  | [],fl,_=>by
    rw [sumTo_zero n (fun v _=>by simp [fval])]; rfl
  | a::l,[],_=>by
    rw [sumTo_zero n (fun v _=>by simp [fval])]; rfl
  | a::l,x::fl,h=>by
    obtain ⟨g1,g2,g3,g4,_⟩:=okArc_iff.1 (h a (by simp))
    have ih:=netB_eq B l fl (fun b hb=>h b (by simp [hb]))
    simp only [netB];rw [← ih]
    have e1:sumTo (fun v=>if B v=true then (if a.f=(v:Int) then x else 0) else 0) n=if B a.f.toNat=true then x else 0:=by
      rw [sumTo_one (k:=a.f.toNat) n (by omega) (fun v _ hne=>by rw [if_neg (show ¬ a.f=(v:Int) by omega)]; split <;> rfl)]
      rw [if_pos (show a.f=((a.f.toNat:Nat):Int) by omega)]
    have e2:sumTo (fun v=>if B v=true then (if a.t=(v:Int) then -x else 0) else 0) n=if B a.t.toNat=true then -x else 0:=by
      rw [sumTo_one (k:=a.t.toNat) n (by omega) (fun v _ hne=>by rw [if_neg (show ¬ a.t=(v:Int) by omega)]; split <;> rfl)]
      rw [if_pos (show a.t=((a.t.toNat:Nat):Int) by omega)]
    have e3:sumTo (fun v=>if B v=true then fval v (a::l) (x::fl) else 0) n=sumTo (fun v=>((if B v=true then (if a.f=(v:Int) then x else 0) else 0)+(if B v=true then (if a.t=(v:Int) then -x else 0) else 0))+(if B v=true then fval v l fl else 0)) n:=by
      apply sumTo_congr
      intro v _
      simp only [fval]
      repeat' split
      all_goals omega
    rw [e3,sumTo_add,sumTo_add,e1,e2]
    repeat' split
    all_goals omega
section
variable {n s t:Nat} {l:List Arc} {fl:List Int} {B:Nat→Bool}
theorem Flw.net (hok:∀ a∈l,okArc n a=true) (hf:Flw n l s t fl) (hs:s<n) (h1:B s=true) (h2:B t=false):netB B l fl=fval s l fl:=by
  rw [← netB_eq B l fl hok,sumTo_one (k:=s) n hs (fun v hv hne=>?_)]
  · rw [if_pos h1]
  · split
    · rename_i hb
      exact hf.bal v hv hne (fun e=>by subst e; rw [h2] at hb; simp at hb)
    · rfl
end
def tight (B:Nat→Bool) (l:List Arc) (fl:List Int):Prop:=
  ∀ (i:Nat) (a:Arc) (x:Int),l[i]?=some a→fl[i]?=some x→(B a.f.toNat=true→B a.t.toNat=false→x=a.c)∧(B a.f.toNat=false→B a.t.toNat=true→x=0)
theorem net_le (B:Nat→Bool):∀ (l:List Arc) (fl:List Int),l.length=fl.length→inCap l fl=true→(∀ a∈l,0≤a.c)→netB B l fl≤capOf B l∧(netB B l fl=capOf B l↔tight B l fl)
  | [],[],_,_,_=>⟨by simp [netB,capOf],by simp [netB,capOf,tight]⟩
  | a::l,x::fl,hl,h,h0=>by
    simp only [inCap,Bool.and_eq_true,decide_eq_true_eq] at h
    obtain ⟨ih1,ih2⟩:=net_le B l fl (by simpa using hl) h.2 (fun b hb=>h0 b (by simp [hb]))
    have ha:=h0 a (by simp)
    simp only [netB,capOf]
    have hstep:tight B (a::l) (x::fl)↔(((B a.f.toNat=true→B a.t.toNat=false→x=a.c)∧(B a.f.toNat=false→B a.t.toNat=true→x=0))∧tight B l fl):=by
      constructor
      · intro ht
        exact ⟨ht 0 a x rfl rfl,fun i b y hb hy=>ht (i+1) b y (by simpa using hb) (by simpa using hy)⟩
      · rintro ⟨h1,h2⟩ i b y hb hy
        cases i with
        | zero=>simp at hb hy; subst hb; subst hy; exact h1
        | succ i=>exact h2 i b y (by simpa using hb) (by simpa using hy)
    rw [hstep,← ih2]
    cases hB1:B a.f.toNat <;> cases hB2:B a.t.toNat <;> simp <;> omega
inductive Rch (E:Lk→Prop) (s:Nat):Nat→Prop
  | refl:Rch E s s
  | step {x:Lk}:Rch E s x.f→E x→Rch E s x.t
theorem Rch.far {n s t:Nat} {E:Lk→Prop} {D:List Int} (hD:IsDist n t E D) (hs:D.getD s 0<0) {v:Nat} (h:Rch E s v):D.getD v 0<0:=by
  induction h with
  | refl=>exact hs
  | @step x _ hx ih =>
    apply Classical.byContradiction
    intro hc
    have:=(hD.link x hx (by omega)).1
    omega
theorem Rch.sub {E:Lk→Prop} {s:Nat} {B:Nat→Bool} (hs:B s=true) (hcl:∀ x,E x→B x.f=true→B x.t=true) {v:Nat} (h:Rch E s v):B v=true:=by
  induction h with
  | refl=>exact hs
  | step _ hx ih=>exact hcl _ hx ih
section
variable {n s t:Nat} {l:List Arc} {fl:List Int} {B:Nat→Bool}
theorem tight_iff (hl:l.length=fl.length) (hc:inCap l fl=true):tight B l fl↔∀ x,rE l fl x→B x.f=true→B x.t=true:=by
  have hgl:∀ (i:Nat) (a:Arc),l[i]?=some a→l.getD i default=a∧∃ x,fl[i]?=some x∧fl.getD i 0=x:=fun i a ha=>by
    have hi:i<l.length:=(List.getElem?_eq_some_iff.1 ha).1
    have hi2:i<fl.length:=by omega
    refine ⟨by simp [List.getD_eq_getElem?_getD,ha],fl[i],List.getElem?_eq_getElem hi2,by simp [List.getD_eq_getElem?_getD,hi2]⟩
  constructor
  · rintro ht x ⟨hx,hr⟩ hB
    obtain ⟨i,a,ha,hxe⟩:=rlinks_iff.1 hx
    obtain ⟨e1,y,hy,e2⟩:=hgl i a ha
    obtain ⟨t1,t2⟩:=ht i a y ha hy
    have hin:=inCap_get l fl hc i a y ha hy
    unfold rmR at hr
    rcases hxe with rfl|rfl
    · dsimp only at hr hB ⊢
      rw [if_pos (by omega),show 2*i / 2=i from by omega,e1,e2] at hr
      cases hb:B a.t.toNat with
      | true=>rfl
      | false=>have:=t1 hB hb; omega
    · dsimp only at hr hB ⊢
      rw [if_neg (by omega),show (2*i+1) / 2=i from by omega,e2] at hr
      cases hb:B a.f.toNat with
      | true=>rfl
      | false=>have:=t2 hb hB; omega
  · intro h i a y ha hy
    obtain ⟨e1,y',hy',e2⟩:=hgl i a ha
    rw [hy] at hy'
    obtain rfl:=Option.some.inj hy'
    have hin:=inCap_get l fl hc i a y ha hy
    constructor
    · intro h1 h2
      have:=h ⟨2*i,a.f.toNat,a.t.toNat⟩
      apply Classical.byContradiction
      intro hne
      have h3:=this ⟨rlinks_iff.2 ⟨i,a,ha,.inl rfl⟩,by unfold rmR; dsimp only; rw [if_pos (by omega),show 2*i / 2=i from by omega,e1,e2]; omega⟩ h1
      dsimp only at h3
      rw [h2] at h3; simp at h3
    · intro h1 h2
      have:=h ⟨2*i+1,a.t.toNat,a.f.toNat⟩
      apply Classical.byContradiction
      intro hne
      have h3:=this ⟨rlinks_iff.2 ⟨i,a,ha,.inr rfl⟩,by unfold rmR; dsimp only; rw [if_neg (by omega),show (2*i+1) / 2=i from by omega,e2]; omega⟩ h2
      dsimp only at h3
      rw [h1] at h3; simp at h3
theorem ok_cap (hok:∀ a∈l,okArc n a=true):∀ a∈l,0≤a.c:=fun a ha=>by have:=okArc_iff.1 (hok a ha); omega
def IsReach (n:Nat) (E:Lk→Prop) (s:Nat) (B:Nat→Bool):Prop:=∀ v,v<n→(B v=true↔Rch E s v)
theorem IsReach.closed {E:Lk→Prop} (hE:∀ x,E x→x.f<n∧x.t<n) (h:IsReach n E s B):∀ x,E x→B x.f=true→B x.t=true:=
  fun x hx hb=>(h x.t (hE x hx).2).2 (.step ((h x.f (hE x hx).1).1 hb) hx)
theorem run_cut (hok:∀ a∈l,okArc n a=true) (hs:s<n) (ht:t<n) (hst:s≠t) (hr:RunR n l s t (List.replicate l.length 0) fl) (hB:IsReach n (rE l fl) s B) :
    Flw n l s t fl∧B s=true∧B t=false∧fval s l fl=capOf B l:=by
  obtain ⟨hf,D,hD,hn⟩:=hr.flw hok hs hst (flw_zeros hok)
  have hE:∀ x,rE l fl x→x.f<n∧x.t<n:=fun x hx=>rl_lt hok x hx.1
  have b1:B s=true:=(hB s hs).2 .refl
  have b2:B t=false:=by
    cases hb:B t with
    | false=>rfl
    | true =>
      have:=((hB t ht).1 hb).far hD hn
      rw [hD.at0] at this; omega
  refine ⟨hf,b1,b2,?_⟩;rw [← hf.net hok hs b1 b2];exact (net_le B l fl hf.len hf.cap (ok_cap hok)).2.2 ((tight_iff hf.len hf.cap).2 (hB.closed hE))
end
theorem exists_reach (n:Nat) (E:Lk→Prop) (s:Nat):∃ B,IsReach n E s B:=by
  refine ⟨fun v=>open Classical in decide (Rch E s v),fun v _=>?_⟩
  simp
end Go.Flow
