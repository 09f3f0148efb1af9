/- Texts of this proof, one after the other; no conditions. -/
import Derived.Test.YtjehnjhkcmobcaaGreatWB8
import Derived.Test.YtjehnjhkcmobcaaGreatWB3
import Derived.Test.YtjehnjhkcmobcaaGreatWB2
import Derived.Test.YtjehnjhkcmobcaaGreatWB6
import Derived.Test.YtjehnjhkcmobcaaGreatWB7
import Derived.Test.YtjehnjhkcmobcaaGreatWB5
import Derived.Test.YtjehnjhkcmobcaaGreatWB1
set_option linter.all false
/- The least room on a path; graphs: new, a link added; the room of a residual arc. -/
namespace Go.Proofs.YtjehnjhkcmobcaaGreat
open Go.Eng Go.Flow
set_option maxRecDepth 100000
set_option maxHeartbeats 64000000
theorem least_spec (γ ρ:PH) (gb:Nat) (room pv:Value) (rm:Nat→Int) (Rr:List PH) (p:List Lk) (hG:rdc γ gb 2=some room) (hp:IntsAt ρ pv (ksOf p)) (hl:p.length≤100000)
  (hrm:∀ x∈p,Ans Tryz.prog room [int x.k] Rr (fun v=>v=int (rm x.k))) :
  Ans Tryz.prog (fv 77) [.pointer (some ⟨gb,0,none⟩),pv] (γ::ρ::Rr) (fun v=>v=int (leastR rm p)):=by
 obtain ⟨q,c,rfl,hr⟩:=hp.val Eng.encI_len
 have hkl:(ksOf p).length=p.length:=by simp [ksOf]
 refine spec_in (cap:=[]) Tryz.func77 rfl rfl Tryz.ntmps77 rfl envZ (fun N β=>?_)
 refine Agn ?_
 refine BA [0,1,8,9] ((0,1099511627776):Nat × Int) (fun x=>x.1≤p.length∧x.2=leastR rm (p.take x.1)) (fun x=>[(5,int x.2),(10,int x.1)]) (fun _=>[]) (fun x=>p.length-x.1) pickZ ⟨by simp,by simp [leastR]⟩ covZ selZ ?_
 rintro ⟨k,y⟩ ⟨hk,hy⟩;simp only at hk hy
 by_cases hlt:k<p.length
 ·have hx:(ksOf p)[k]?=some (p[k].k:Int):=by simp [ksOf,hlt]
  obtain ⟨b,o,rfl,h0⟩:=hr.int hx
  have hcall:=hrm p[k] (List.getElem_mem hlt)
  refine Aed ?_;refine Ahg ?_;refine Af0 ?_;refine AB ?_
  focus ((refine BC hcall rfl rfl (fun τ hτ=>.inl (by simp [hτ])) rfl rfl ?_; rintro v rfl))
  refine EX ?_;refine Af4 ?_
  refine AT (k+1,_) ⟨by simp only; omega,?_⟩ (by simp only; omega) covZ selZ
  simp only;rw [take_snoc' hlt,leastR_snoc,← hy]
 ·refine AC ?_
  refine Afw ?_;refine Aca ?_;refine AO (res1 rfl rfl) rsubZ selZ ⟨rfl,?_⟩
  rw [hy,List.take_of_length_le (by omega)]
abbrev gHead (gb ob ib n:Nat) (room:Value):PH:=sng gb (.cells #[.slice (some ⟨ob,0,none⟩) n n,.slice (some ⟨ib,0,none⟩) n n,room] 133 (0,0))
abbrev gRow (b:Nat) (vs:List Value):PH:=sng b (.cells vs.toArray 129 (0,0))
theorem newGraph_spec (n:Nat) (f:Nat) (cap:List Value) (hn:n≤2000) :
  Eng.Spec Tryz.prog (fv 73) [int n,.func (.func f) #[] cap.toArray] [] [] (fun v H'=>∃ gb ob ib,v=.pointer (some ⟨gb,0,none⟩) ∧
   H'=[gHead gb ob ib n (.func (.func f) #[] cap.toArray),gRow ob (List.replicate n (.slice none 0 0)),gRow ib (List.replicate n (.slice none 0 0))]):=by
 refine spec_in (cap:=[]) Tryz.func73 rfl rfl Tryz.ntmps73 rfl envZ (fun N β=>?_)
 refine Aai ?_;refine AC ?_
 refine A6 (.q 0 (.q 2 (.q 4 (.l2 1 .e (.l 3 .e (.q 5 (.l 6 .e (.q 7 .nil)))) 3 .e (.l 1 .e (.q 5 (.l 6 .e (.q 7 .nil)))))))) [] rfl (by kernel_rfl) selZ ?_
 repeat' (first
  | (refine AI ?_)
  | (refine B4 ?_)
  | (refine CV ?_)
  | (refine A7 ?_)
  | (refine DS ?_ ?_)
  | (refine GV ?_; rintro _ _ ⟨b,rfl,rfl⟩)
  | (refine GJ ?_; rintro _ _ ⟨b,rfl,rfl⟩)
  | (refine GU ?_; rintro _ _ ⟨b,rfl,rfl⟩)
  | fail)
 repeat' (first
  | fail)
 all_goals exact AO (res1 rfl rfl) rsubZ selZ ⟨_,_,_,rfl,rfl⟩
theorem OwnS.one {e:TypeId} {size:Nat} {v:Value} {n:Nat} {xs:List Value} {ρ:PH} (h:OwnS e size v n xs ρ):v.oneCell'=true:=by
 obtain ⟨b,c,rfl⟩:=h.at.cap
 rfl
theorem add_spec (gb ob ib n k f t:Nat) (room:Value) (ov iv:List Value) (lo li:List Lk) (ρo ρi:PH) (hov:ov.length=n) (hiv:iv.length=n) (hf:f<n) (ht:t<n)
  (ho:∃ u,ov[f]?=some u∧OwnS 135 3 u lo.length (lo.flatMap encL) ρo) (hi:∃ u,iv[t]?=some u∧OwnS 135 3 u li.length (li.flatMap encL) ρi) (hlo:lo.length≤40000) (hli:li.length≤40000) :
  Eng.Spec Tryz.prog (fv 75) [.pointer (some ⟨gb,0,none⟩),int k,int f,int t] [] [gHead gb ob ib n room,gRow ob ov,gRow ib iv,ρo,ρi] (fun v H'=>v=.tuple #[]∧∃ q1 q2 ρ1 ρ2,
   OwnS 135 3 q1 (lo ++ [(⟨k,f,t⟩:Lk)]).length ((lo ++ [(⟨k,f,t⟩:Lk)]).flatMap encL) ρ1∧OwnS 135 3 q2 (li ++ [(⟨k,f,t⟩:Lk)]).length ((li ++ [(⟨k,f,t⟩:Lk)]).flatMap encL) ρ2 ∧
   H'=[gHead gb ob ib n room,gRow ob (ov.set f q1),gRow ib (iv.set t q2),ρ1,ρ2]):=by
 obtain ⟨uo,huo,hO⟩:=ho
 obtain ⟨ui,hui,hI⟩:=hi
 have co:rdc (gRow ob ov) ob f=some uo:=by rw [rdc_sng]; simpa using huo
 have ci:rdc (gRow ib iv) ib t=some ui:=by rw [rdc_sng]; simpa using hui
 refine spec_in (cap:=[]) Tryz.func75 rfl rfl Tryz.ntmps75 rfl envZ (fun N β=>?_)
 refine Aev ?_;refine BY ?_;refine A4 ?_; rintro _ _ ⟨b,rfl,rfl⟩;refine AY ?_; rintro _ _ ⟨rfl,rfl⟩;refine AE ?_
 refine A6 (.p 0 (.p 1 (.p 2 (.p 3 (.p 4 (.p 5 (.p 6 (.p 7 (.p 8 (.p 9 (.q 10 (.q 11 (.q 12 (.q 13 (.q 14 (.q 15 (.q 16 (.q 17 (.p 20 (.p 21 (.p 22 (.p 23 (.p 24 (.p 25 (.p 26 (.p 27 (.l2 18 .e (.l2 19 .b (.l 28 .e (.l 29 .b (.q 30 (.l 31 .b (.q 32 (.l 33 .b .nil)))))) 28 .e (.l 19 .b (.l 29 .b (.q 30 (.l 31 .b (.q 32 (.l 33 .b .nil))))))) 28 .e (.l 18 .e (.l 19 .b (.l 29 .b (.q 30 (.l 31 .b (.q 32 (.l 33 .b .nil)))))))))))))))))))))))))))))))))) [gHead gb ob ib n room,gRow ib iv,sng b (.cells #[int (k:Int),int (f:Int),int (t:Int)] 135 (0,0))] rfl (by kernel_rfl) selZ ?_
 repeat' (first
  | (refine AI ?_)
  | (refine AQ ?_)
  | (refine AX ?_)
  | (refine CM ?_)
  | (refine BE ?_)
  | (refine BJ ?_)
  | (refine DO ?_)
  | (refine GG ?_)
  | (refine GH ?_)
  | (refine HJ ?_)
  | (refine FR ?_)
  | (refine GS ?_)
  | (refine DS ?_ ?_)
  | (refine BF ?_; rintro _ _ ⟨b,rfl,rfl⟩)
  | (refine B9 ?_; rintro _ _ ⟨b,rfl,rfl⟩)
  | fail)
 all_goals (try refine CF ?_)
 all_goals (refine' a_b rfl _ rfl rfl rfl _ _; rotate_left; (focus (exact BI (by_:=24) (s:=3) (news:=[int (k:Int),int (f:Int),int (t:Int)]) rfl rfl rfl rfl rfl rfl rfl hO takeZ (cells_own memZ) rfl oneZ (by omega) (by simp only [maxLen]; omega) (by omega))); (focus (rintro _ _ ⟨_,_,rfl⟩ w hw; exact hw.sel selZ)); rintro q1 _ ⟨ρ1,hQ1,rfl⟩)
 repeat' (first
  | (refine BF ?_; rintro _ _ ⟨b,rfl,rfl⟩)
  | fail)
 all_goals (refine CF ?_; refine' a_b rfl _ rfl rfl rfl _ _; rotate_left; (focus (exact BI (by_:=24) (s:=3) (news:=[int (k:Int),int (f:Int),int (t:Int)]) rfl rfl rfl rfl rfl rfl rfl hI takeZ (cells_own memZ) rfl oneZ (by omega) (by simp only [maxLen]; omega) (by omega))); (focus (rintro _ _ ⟨_,_,rfl⟩ w hw; exact hw.sel selZ)); rintro q2 _ ⟨ρ2,hQ2,rfl⟩)
 all_goals have h1:q1.oneCell'=true:=OwnS.one hQ1
 all_goals have h2:q2.oneCell'=true:=OwnS.one hQ2
 repeat' (first
  | (refine CM ?_)
  | (refine GW ?_; rintro _ _ ⟨rfl,rfl⟩)
  | fail)
 all_goals (refine CF ?_; refine' a_full rfl _ rfl (.inr ⟨rfl,rfl⟩) (by kernel_rfl) (Hf':=[]) _ _; rotate_left; (focus (apply EB; exact rfl; exact rfl; exact h2; exact rfl; exact takeZ; (simp; omega))); (focus (rintro _ _ ⟨_,rfl⟩ w hw; exact hw.sel selZ)); rintro _ _ ⟨rfl,rfl⟩)
 repeat' (first
  | (refine A7 ?_)
  | fail)
 repeat' (first
  | fail)
 all_goals have e1:sng ob (.cells (ov.toArray.setIfInBounds f q1) 129 (0,0))=gRow ob (ov.set f q1):=by simp [gRow]
 all_goals have e2:sng ib (.cells (iv.toArray.setIfInBounds t q2) 129 (0,0))=gRow ib (iv.set t q2):=by simp [gRow]
 all_goals rw [e1,e2]
 all_goals refine C6 (H':=[gHead gb ob ib n room,gRow ob (ov.set f q1),gRow ib (iv.set t q2),ρ1,ρ2]) (res0 rfl) rsubZ selZ ⟨rfl,q1,q2,ρ1,ρ2,?_,?_,rfl⟩
 all_goals first
  | (rw [List.flatMap_append,List.length_append]; exact hQ1)
  | (rw [List.flatMap_append,List.length_append]; exact hQ2)
theorem residual1_spec (ρ:PH) (v:Value) (b1 b2 bf m c k:Nat) (T1 T2 T3:TypeId) (l:List Arc) (fl:List Int) (hv:ArcsAt ρ v l) (hfl:fl.length=l.length) (hm:m=l.length) (hk:k<2*l.length) (hl:l.length≤20000)
  (hc:inCap l fl=true) (hok:∀ a∈l,0≤a.c∧a.c≤1099511627776) :
  Ans Tryz.prog (.func (.func 174) #[] #[.pointer (some ⟨b1,0,none⟩),.pointer (some ⟨b2,0,none⟩)]) [int k] [ρ,sng b1 (.cells #[v] T1 (0,0)),sng b2 (.cells #[.slice (some ⟨bf,0,none⟩) m c] T2 (0,0)),sng bf (.cells (ints fl) T3 (0,0))]
   (fun r=>r=int (rmR l fl k)):=by
 obtain ⟨q,c',rfl,hr⟩:=hv.val encA_len
 subst hm
 have c1:rdc (sng b1 (.cells #[.slice q l.length c'] T1 (0,0))) b1 0=some (.slice q l.length c'):=by rw [rdc_sng]; rfl
 have c2:rdc (sng b2 (.cells #[.slice (some ⟨bf,0,none⟩) l.length c] T2 (0,0))) b2 0=some (.slice (some ⟨bf,0,none⟩) l.length c):=by rw [rdc_sng]; rfl
 have hlt:k / 2<l.length:=by omega
 have hx:=List.getElem?_eq_getElem hlt
 obtain ⟨b,o,rfl,hA,h0,h1,h2⟩:=arcRow hr hx
 have hfx:fl.getD (k / 2) 0=fl[k / 2]:=by simp [List.getD_eq_getElem?_getD,show k / 2<fl.length by omega]
 have hfy:=inCap_get l fl hc (k / 2) l[k / 2] fl[k / 2] hx (List.getElem?_eq_getElem (by omega))
 have hcy:=hok l[k / 2] (List.getElem_mem hlt)
 have hdef:l.getD (k / 2) default=l[k / 2]:=by simp [List.getD_eq_getElem?_getD,hlt]
 have e2:((k:Int) / 2)=((k / 2:Nat):Int):=by omega
 have e3:((k:Int) % 2)=((k % 2:Nat):Int):=by omega
 refine spec_in (cap:=[.pointer (some ⟨b1,0,none⟩),.pointer (some ⟨b2,0,none⟩)]) Tryz.func174 rfl rfl Tryz.ntmps174 rfl envZ (fun N β=>?_)
 by_cases hp:k % 2=0
 ·refine AC ?_
  refine AA ?_;refine Adz ?_;refine EW ?_;refine Ag1 ?_;refine AC ?_
  refine A6 P3Z [] rfl (by kernel_rfl) selZ ?_
  refine AQ ?_;refine AI ?_;refine GI ?_;refine BB ?_;refine Aby ?_;refine AQ ?_;refine AI ?_;refine GI ?_;refine Ady ?_;refine D9 ?_;refine Adr ?_
  skip
  refine AO (res1 rfl rfl) rsubZ selZ ⟨rfl,?_⟩;unfold rmR;rw [if_pos hp,hdef]
 ·refine AC ?_
  refine AA ?_;refine Adz ?_;refine EW ?_;refine Adu ?_;refine Aex ?_;refine ET ?_;refine Adf ?_;refine Aaa ?_;refine AO (res1 rfl rfl) rsubZ selZ ⟨rfl,?_⟩;unfold rmR;rw [if_neg hp]
def RowOK (n:Nat) (vs:List Value) (cs:List PH) (lf:Nat→List Lk):Prop:=
 vs.length=n∧cs.length=n∧∀ v,v<n→∃ u ρ,vs[v]?=some u∧cs[v]?=some ρ∧OwnS 135 3 u (lf v).length ((lf v).flatMap encL) ρ
theorem RowOK.set {n:Nat} {vs:List Value} {cs:List PH} {lf lf':Nat→List Lk} (h:RowOK n vs cs lf) {f:Nat} {u:Value} {ρ:PH} (hu:OwnS 135 3 u (lf' f).length ((lf' f).flatMap encL) ρ) (he:∀ v,v≠f→lf' v=lf v) :
  RowOK n (vs.set f u) (cs.set f ρ) lf':=by
 obtain ⟨h1,h2,h3⟩:=h
 refine ⟨by simp [h1],by simp [h2],fun v hv=>?_⟩
 by_cases e:v=f
 ·subst e
  exact ⟨u,ρ,by simp [h1,hv],by simp [h2,hv],hu⟩
 ·obtain ⟨u',ρ',g1,g2,g3⟩:=h3 v hv
  rw [← he v e] at g3
  exact ⟨u',ρ',by rw [List.getElem?_set_ne (Ne.symm e)]; exact g1,by rw [List.getElem?_set_ne (Ne.symm e)]; exact g2,g3⟩
def GBl (gb ob ib n:Nat) (room:Value) (ls:List Lk) (H:List PH):Prop:=
 ∃ ov iv oc ic,RowOK n ov oc (outsOf ls)∧RowOK n iv ic (insOf ls)∧H=gHead gb ob ib n room::gRow ob ov::gRow ib iv::(oc ++ ic)
theorem add_bl {gb ob ib n:Nat} {room:Value} {ls:List Lk} {H:List PH} (h:GBl gb ob ib n room ls H) (k f t:Nat) (hf:f<n) (ht:t<n) (hl:ls.length≤40000) :
  Eng.Spec Tryz.prog (fv 75) [.pointer (some ⟨gb,0,none⟩),int k,int f,int t] [] H (fun v H'=>v=.tuple #[]∧GBl gb ob ib n room (ls ++ [(⟨k,f,t⟩:Lk)]) H'):=by
 obtain ⟨ov,iv,oc,ic,ho,hi,rfl⟩:=h
 obtain ⟨uo,ρo,a1,a2,a3⟩:=ho.2.2 f hf
 obtain ⟨ui,ρi,c1,c2,c3⟩:=hi.2.2 t ht
 have hs:=add_spec gb ob ib n k f t room ov iv (outsOf ls f) (insOf ls t) ρo ρi ho.1 hi.1 hf ht ⟨uo,a1,a3⟩ ⟨ui,c1,c3⟩ (filter_le _ _ hl) (filter_le _ _ hl)
 refine Spec.perm ?_ (hs.frame (oc.eraseIdx f ++ ic.eraseIdx t)) ?_
 ·simp only [List.cons_append,List.nil_append]
  refine ((List.Perm.trans ?_ ((erase_get_perm a2).append (erase_get_perm c2)).symm).cons _).cons _ |>.cons _;simp only [List.cons_append];exact (List.perm_middle.symm).cons _
 ·rintro v H1 ⟨H2,rfl,rfl,q1,q2,ρ1,ρ2,hq1,hq2,rfl⟩
  refine ⟨gHead gb ob ib n room::gRow ob (ov.set f q1)::gRow ib (iv.set t q2)::(oc.set f ρ1 ++ ic.set t ρ2),?_,rfl,ov.set f q1,iv.set t q2,oc.set f ρ1,ic.set t ρ2,?_,?_,rfl⟩
  ·simp only [List.cons_append,List.nil_append]
   refine ((List.Perm.trans ?_ ((erase_set_perm ρ1 (by rw [ho.2.1]; exact hf)).append (erase_set_perm ρ2 (by rw [hi.2.1]; exact ht))).symm).cons _).cons _ |>.cons _
   simp only [List.cons_append];exact (List.perm_middle.symm).cons _
  ·refine ho.set (lf':=outsOf (ls ++ [(⟨k,f,t⟩:Lk)])) ?_ (fun v hv=>by rw [outsOf_snoc,if_neg (Ne.symm hv),List.append_nil])
   rw [outsOf_snoc,if_pos rfl]; exact hq1
  ·refine hi.set (lf':=insOf (ls ++ [(⟨k,f,t⟩:Lk)])) ?_ (fun v hv=>by rw [insOf_snoc,if_neg (Ne.symm hv),List.append_nil])
   rw [insOf_snoc,if_pos rfl]; exact hq2
theorem GBl.at {gb ob ib n:Nat} {room:Value} {ls:List Lk} {H:List PH} (h:GBl gb ob ib n room ls H) {γ:PH} (hs:∀ ρ∈H,PH.sub ρ γ):GAt γ gb n (outsOf ls) (insOf ls) room:=by
 obtain ⟨ov,iv,oc,ic,ho,hi,rfl⟩:=h
 have hh:=hs (gHead gb ob ib n room) (by simp)
 have hr1:=hs (gRow ob ov) (by simp)
 have hr2:=hs (gRow ib iv) (by simp)
 refine ⟨⟨ob,n,hh.rdc (by rw [rdc_sng]; rfl),fun v hv=>?_⟩,⟨ib,n,hh.rdc (by rw [rdc_sng]; rfl),fun v hv=>?_⟩,hh.rdc (by rw [rdc_sng]; rfl)⟩
 ·obtain ⟨u,ρ,g1,g2,g3⟩:=ho.2.2 v hv
  refine ⟨u,hr1.rdc (by rw [rdc_sng]; simpa using g1),(hs ρ ?_).slE g3.at⟩
  have:=List.mem_of_getElem? g2
  simp [this]
 ·obtain ⟨u,ρ,g1,g2,g3⟩:=hi.2.2 v hv
  refine ⟨u,hr2.rdc (by rw [rdc_sng]; simpa using g1),(hs ρ ?_).slE g3.at⟩
  have:=List.mem_of_getElem? g2
  simp [this]
theorem GOk_of {n:Nat} {ls:List Lk} (hn:n≤2000) (hl:ls.length≤40000) (hx:∀ x∈ls,x.f<n∧x.t<n∧x.k≤40000):GOk n (outsOf ls) (insOf ls) where
 n1:=hn
 len:=fun _=>⟨filter_le _ _ hl,filter_le _ _ hl⟩
 inT:=fun v x _ hm=>by
  unfold insOf at hm; rw [List.mem_filter] at hm
  have:=hx x hm.1
  exact ⟨by simpa using hm.2,this.1,this.2.2⟩
 outF:=fun v x _ hm=>by
  unfold outsOf at hm; rw [List.mem_filter] at hm
  have:=hx x hm.1
  exact ⟨by simpa using hm.2,this.2.1,this.2.2⟩
 same:=fun x _ _=>by unfold insOf outsOf; simp
theorem GBl_new (gb ob ib n:Nat) (room:Value):GBl gb ob ib n room [] (gHead gb ob ib n room::gRow ob (List.replicate n (.slice none 0 0))::gRow ib (List.replicate n (.slice none 0 0))::(List.replicate n emp ++ List.replicate n emp)):=by
 have h:∀ lf:Nat→List Lk,(∀ v,lf v=[])→RowOK n (List.replicate n (.slice none 0 0)) (List.replicate n emp) lf:=fun lf hl=>by
  refine ⟨by simp,by simp,fun v hv=>⟨.slice none 0 0,emp,by simp [hv],by simp [hv],?_⟩⟩
  rw [hl v];exact OwnS.nil _ _
 exact ⟨_,_,_,_,h _ (fun _=>rfl),h _ (fun _=>rfl),rfl⟩
abbrev roomR (b1 b2:Nat):Value:=.func (.func 174) #[] #[.pointer (some ⟨b1,0,none⟩),.pointer (some ⟨b2,0,none⟩)]
theorem residual_spec (ρ:PH) (v fs:Value) (n:Nat) (l:List Arc) (hv:ArcsAt ρ v l) (hfs:fs.oneCell'=true) (hn:n≤2000) (hl:l.length≤20000) (hok:∀ a∈l,okArc n a=true) :
  Eng.Spec Tryz.prog (fv 125) [int n,v,fs] [ρ] [] (fun r H'=>∃ gb b1 b2 γ,r=.pointer (some ⟨gb,0,none⟩)∧GAt γ gb n (outsOf (rlinks l)) (insOf (rlinks l)) (roomR b1 b2) ∧
   H'=[γ,sng b1 (.cells #[v] 73 (0,0)),sng b2 (.cells #[fs] 22 (0,0))]):=by
 have hv1:=SlE.one hv
 obtain ⟨q,c,rfl,hr⟩:=hv.val encA_len
 refine spec_in (cap:=[]) Tryz.func125 rfl rfl Tryz.ntmps125 rfl envZ (fun N β=>?_)
 refine Aa ?_;refine BH (D5 rfl rfl) rfl rfl rfl ?_;rintro _ _ ⟨b1,rfl,rfl⟩;refine BH (D5 rfl hfs) rfl rfl rfl ?_;rintro _ _ ⟨b2,rfl,rfl⟩;refine Abr ?_;refine CL ?_;refine BL (newGraph_spec n 174 [.pointer (some ⟨b1,0,none⟩),.pointer (some ⟨b2,0,none⟩)] hn) rfl rfl takesZ rdZ rfl rfl ?_;rintro _ _ ⟨gb,ob,ib,rfl,rfl⟩;simp only [List.cons_append,List.nil_append]
 have hG0:=GBl_new gb ob ib n (roomR b1 b2)
 refine FF (n+n) ?_;simp only [List.cons_append,List.nil_append];refine Abl ?_;refine Acz ?_;refine Afl ?_
 refine BA [0,4,5,7,13,14] (X:=Nat × List PH) (0,_) (fun x=>x.1≤l.length∧GBl gb ob ib n (roomR b1 b2) (rlinks (l.take x.1)) x.2) (fun x=>[(15,int x.1)])
  (fun x=>sng b1 (.cells #[.slice q l.length c] 73 (0,0))::sng b2 (.cells #[fs] 22 (0,0))::x.2) (fun x=>l.length-x.1) pickZ ⟨by simp,hG0⟩ covZ ?_ ?_
 ·refine Sel.cons takeZ (Sel.cons takeZ (Sel.cons takeZ (Sel.cons takeZ (Sel.cons takeZ ?_))))
  rw [List.replicate_append_replicate];exact Sel.refl
 rintro ⟨k,Hg⟩ ⟨hk,hG⟩
 dsimp only at hk hG ⊢
 by_cases hlt:k<l.length
 ·have hx:=List.getElem?_eq_getElem hlt
  obtain ⟨b',o,rfl,hA,h0,h1,h2⟩:=arcRow hr hx
  obtain ⟨g1,g2,g3,g4,g5,g6,g7⟩:=okArc_iff.1 (hok l[k] (List.getElem_mem hlt))
  obtain ⟨f,hf⟩:=Int.eq_ofNat_of_zero_le g1
  obtain ⟨t,ht⟩:=Int.eq_ofNat_of_zero_le g3
  have hlr:=rlinks_len (l.take k)
  have hlk:(l.take k).length=k:=by simp; omega
  have hsn:=rlinks_snoc (l.take k) l[k]
  rw [← take_snoc' hlt,hlk,hf,ht] at hsn;simp only [Int.toNat_natCast] at hsn;rw [hf,ht] at hA
  have a1:=add_bl hG (2*k) f t (by omega) (by omega) (by omega)
  refine Afb ?_;refine A4 ?_; rintro _ _ ⟨b,rfl,rfl⟩;refine AD ?_;refine AY ?_; rintro _ _ ⟨rfl,rfl⟩;refine AE ?_;refine Aay ?_;refine FI ?_;refine Afc ?_;refine BL a1 rfl rfl (Takes.skips [_,_,_] Takes.all) rdZ rfl rfl ?_;rintro _ H1 ⟨rfl,hG1⟩
  refine DD (H':=sng b (.cells #[int (f:Int),int (t:Int),int l[k].c] 157 (0,0))::sng b1 (.cells #[.slice (some ⟨b',o,none⟩) l.length c] 73 (0,0))::sng b2 (.cells #[fs] 22 (0,0))::H1) (by simpa using List.perm_append_comm (l₁:=H1) (l₂:=[_,_,_])) ?_
  have a2:=add_bl hG1 (2*k+1) t f (by omega) (by omega) (by rw [List.length_append]; simp only [List.length_singleton]; omega)
  refine AE ?_;refine Ac3 ?_;refine FI ?_;refine CB ?_;refine Afc ?_;refine BL a2 rfl rfl (Takes.skips [_,_,_] Takes.all) rdZ rfl rfl ?_;rintro _ H2 ⟨rfl,hG2⟩
  refine DD (H':=sng b (.cells #[int (f:Int),int (t:Int),int l[k].c] 157 (0,0))::sng b1 (.cells #[.slice (some ⟨b',o,none⟩) l.length c] 73 (0,0))::sng b2 (.cells #[fs] 22 (0,0))::H2) (by simpa using List.perm_append_comm (l₁:=H2) (l₂:=[_,_,_])) ?_
  refine Ae9 ?_
  refine AT (k+1,H2) ⟨by dsimp only; omega,?_⟩ (by dsimp only; omega) covZ (Sel.cons takeZ (Sel.cons takeZ (Sel.skip Sel.refl)))
  dsimp only
  rw [hsn]
  simpa using hG2
 ·rw [List.take_of_length_le (by omega)] at hG
  refine Ago ?_
  refine DD (H':=Hg ++ [sng b1 (.cells #[.slice q l.length c] 73 (0,0)),sng b2 (.cells #[fs] 22 (0,0))]) (by simpa using List.perm_append_comm (l₂:=Hg) (l₁:=[_,_])) ?_
  refine EH (fun γ hγ=>?_)
  exact AO (res1 rfl rfl) rsubZ selZ ⟨gb,b1,b2,γ,rfl,hG.at hγ,rfl⟩
theorem opens_opn {n:Nat} {ls:List Lk} (hls:∀ x∈ls,x.f<n∧x.t<n) (rm:Nat→Int):opens n (insOf ls) rm=opn ls rm:=opens_eq hls rm
theorem nxO_nxt (ls:List Lk) (rm:Nat→Int) (D:List Int):nxO (outsOf ls) rm D=nxt ls rm D:=nxt_eq ls rm D
def MaxLeft (n:Nat) (l:List Arc) (s t:Nat) (v fs gv:Value) (F:List Int) (H:List PH):Prop:=
 ∃ bf gb b1 b2 γ,fs=.slice (some ⟨bf,0,none⟩) l.length l.length∧gv=.pointer (some ⟨gb,0,none⟩)∧GAt γ gb n (outsOf (rlinks l)) (insOf (rlinks l)) (roomR b1 b2)∧RunR n l s t (List.replicate l.length 0) F ∧
  H=[sng bf (.cells (ints F) 3 (0,0)),γ,sng b1 (.cells #[v] 73 (0,0)),sng b2 (.cells #[.slice (some ⟨bf,0,none⟩) l.length l.length] 22 (0,0))]
theorem maximum_spec (ρ:PH) (v:Value) (n:Nat) (l:List Arc) (s t:Nat) (hv:ArcsAt ρ v l) (hn:n≤2000) (hl:l.length≤20000) (hok:∀ a∈l,okArc n a=true) (hs:s<n) (ht:t<n) (hst:s≠t) :
  Eng.Spec Tryz.prog (fv 64) [int n,v,int s,int t] [ρ] [] (fun r H'=>∃ fs gv F,r=.tuple #[fs,gv]∧MaxLeft n l s t v fs gv F H'):=by
 have hv1:=SlE.one hv
 have hrl:=rl_lt hok
 have hGok:GOk n (outsOf (rlinks l)) (insOf (rlinks l)):=GOk_of hn (by rw [rlinks_len]; omega) (fun x hx=>by have:=rlinks_mem hok hx; omega)
 have hcap:∀ a∈l,0≤a.c∧a.c≤1099511627776:=fun a ha=>by have:=okArc_iff.1 (hok a ha); omega
 obtain ⟨q,c,rfl,hr⟩:=hv.val encA_len
 refine spec_in (cap:=[]) Tryz.func64 rfl rfl Tryz.ntmps64 rfl envZ (fun N β=>?_)
 refine Ad5 ?_;refine Aac ?_;refine AU ?_;refine DX ?_; rintro _ _ ⟨b,rfl,rfl⟩;refine Abr ?_;refine Aao ?_
 revert b; intro bf
 refine BL (residual_spec ρ _ (.slice (some ⟨bf,0,none⟩) l.length l.length) n l hv rfl hn hl hok) rfl rfl takesZ rdZ rfl rfl ?_;rintro _ _ ⟨gb,b1,b2,γ,rfl,hG,rfl⟩;simp only [List.cons_append,List.nil_append];refine Aaa ?_;refine AM ?_
 refine BA [0,1,2,3,10,11] (List.replicate l.length (0:Int)) (fun fl=>Flw n l s t fl∧∀ F,RunR n l s t fl F→RunR n l s t (List.replicate l.length 0) F) (fun _=>[])
  (fun fl=>[sng bf (.cells (ints fl) 3 (0,0)),γ,sng b1 (.cells #[.slice q l.length c] 73 (0,0)),sng b2 (.cells #[.slice (some ⟨bf,0,none⟩) l.length l.length] 22 (0,0))])
  (fun fl=>(1099511627776*(2*(l.length:Int))-fval s l fl).toNat) pickZ ⟨flw_zeros hok,fun _ h=>h⟩ covZ selZ ?_
 rintro fl ⟨hF,hrun⟩
 have hrm:∀ v x,v<n→x∈insOf (rlinks l) v→Ans Tryz.prog (roomR b1 b2) [int x.k] [ρ,sng b1 (.cells #[.slice q l.length c] 73 (0,0)),sng b2 (.cells #[.slice (some ⟨bf,0,none⟩) l.length l.length] 22 (0,0)),sng bf (.cells (ints fl) 3 (0,0))] (fun r=>r=int (rmR l fl x.k)):=fun v x _ hx=>by
  have hm:x∈rlinks l:=by unfold insOf at hx; exact (List.mem_filter.1 hx).1
  exact residual1_spec ρ _ b1 b2 bf l.length l.length x.k _ _ _ l fl hv hF.len.symm rfl (rlinks_mem hok hm).2.2 hl hF.cap hcap
 refine AM ?_;refine Aev ?_;refine BV (path_spec γ gb n s t (outsOf (rlinks l)) (insOf (rlinks l)) (roomR b1 b2) (rmR l fl) _ hG hGok hs ht hrm) rfl rfl rdZ rfl rfl ?_;rintro _ ρp ⟨D,pv,hD,rfl,hP⟩;rw [opens_opn hrl] at hD;rw [nxO_nxt] at hP
 by_cases h0:0≤D.getD s 0
 rotate_left
 ·rw [decide_eq_false h0]
  refine Adi ?_;refine BN ?_;refine Aag ?_;refine Aay ?_;refine Aal ?_
  exact AO (res2 rfl rfl rfl) rsubZ selZ ⟨_,_,fl,rfl,bf,gb,b1,b2,γ,rfl,rfl,hG,hrun fl (.done hD (by omega)),rfl⟩
 rw [decide_eq_true h0]
 obtain ⟨hN1,hN2,hN3⟩:=rNext_ok hok hs hst hF hD h0
 obtain ⟨k0,hk0⟩:=Int.eq_ofNat_of_zero_le h0
 have hDn:=hD.lt (fun x hx=>hrl x hx.1) ht hs
 have hPl:(rP l fl D s).length=k0:=path_len hrl hD k0 s hs hk0
 have hPm:∀ x∈rP l fl D s,x∈rlinks l:=fun x hx=>((path_chn hrl hD k0 s hs hk0).all x hx).1.1
 have hroom:leastR (rmR l fl) (rP l fl D s)≤1099511627776:=(leastR_le _ _ _).1
 have hIn:IntsAt ρp pv (ksOf (rP l fl D s)):=ownInts (e:=3) (by rw [show (ksOf (rP l fl D s)).length=(rP l fl D s).length from by simp [ksOf]]; exact hP)
 have hlst:=least_spec γ ρp gb (roomR b1 b2) pv (rmR l fl) _ (rP l fl D s) hG.r hIn (by omega) (fun x hx=>hrm x.t x (hrl x (hPm x hx)).2 (by unfold insOf; rw [List.mem_filter]; exact ⟨hPm x hx,by simp⟩))
 obtain ⟨q2,c2,rfl,hr2⟩:=hIn.val Eng.encI_len
 have hkl:(ksOf (rP l fl D s)).length=(rP l fl D s).length:=by simp [ksOf]
 have hmu:=fval_bd s l (rNext l fl D s) (inCap_small l _ hN1.len hN1.cap hok)
 rw [← hN1.len] at hmu;refine Adi ?_;refine Acw ?_;refine Aay ?_;refine BC hlst rfl rfl rdZ rfl rfl ?_;rintro _ rfl;refine Abr ?_;refine Afl ?_
 refine BA [0,1,2,3,10,11,14,38,39] (0:Nat) (fun i=>i≤(rP l fl D s).length) (fun i=>[(40,int i)])
  (fun i=>[sng bf (.cells (ints (augAll (leastR (rmR l fl) (rP l fl D s)) fl ((rP l fl D s).take i))) 3 (0,0)),γ,sng b1 (.cells #[.slice q l.length c] 73 (0,0)),sng b2 (.cells #[.slice (some ⟨bf,0,none⟩) l.length l.length] 22 (0,0)),ρp])
  (fun i=>(rP l fl D s).length-i) pickZ (by omega) covZ selZ ?_
 intro i hi
 by_cases hlt:i<(rP l fl D s).length
 ·have hx:(ksOf (rP l fl D s))[i]?=some ((rP l fl D s)[i].k:Int):=by simp [ksOf,hlt]
  obtain ⟨b,o,rfl,g0⟩:=hr2.int hx
  have hxm:=hPm _ (List.getElem_mem hlt)
  have hxk:=(rlinks_mem hok hxm).2.2
  have hal:(augAll (leastR (rmR l fl) (rP l fl D s)) fl ((rP l fl D s).take i)).length=l.length:=by rw [augAll_len]; exact hF.len.symm
  have hic:=inCap_get l _ (rTake_cap hok hs hF hD h0 i) ((rP l fl D s)[i].k / 2) (l[(rP l fl D s)[i].k / 2]'(by omega)) ((augAll (leastR (rmR l fl) (rP l fl D s)) fl ((rP l fl D s).take i)).getD ((rP l fl D s)[i].k / 2) 0) (List.getElem?_eq_getElem (by omega)) (by rw [List.getD_eq_getElem?_getD,List.getElem?_eq_getElem (by omega)]; rfl)
  have hcc:=hcap _ (List.getElem_mem (show (rP l fl D s)[i].k / 2<l.length by omega))
  have hsn:=augAll_snoc (leastR (rmR l fl) (rP l fl D s)) fl ((rP l fl D s).take i) (rP l fl D s)[i]
  rw [← take_snoc' hlt] at hsn;unfold augR at hsn
  by_cases hp:(rP l fl D s)[i].k % 2=0
  ·rw [if_pos hp] at hsn
   refine Aed ?_;refine Abr ?_;refine EW ?_;refine Ag1 ?_;refine Ac3 ?_;refine ET ?_;refine Afn ?_;refine CB ?_;refine BR ?_;refine DA ?_; rintro _ _ ⟨rfl,rfl⟩;refine Ae9 ?_
   refine AT (i+1) (by omega) (by omega) covZ ?_
   rw [hsn];exact selZ
  ·rw [if_neg hp] at hsn
   refine Aed ?_;refine Abr ?_;refine EW ?_;refine CE ?_;refine Aaf ?_;refine Ac3 ?_;refine ET ?_;refine Afn ?_;refine CP ?_;refine BR ?_;refine DA ?_; rintro _ _ ⟨rfl,rfl⟩;refine Ae9 ?_
   refine AT (i+1) (by omega) (by omega) covZ ?_
   rw [hsn];exact selZ
 ·refine AC ?_
  refine Afw ?_;refine A2 ?_
  refine AT (rNext l fl D s) ⟨hN1,fun F hR=>hrun F (.step hD h0 hR)⟩ (by omega) covZ ?_
  rw [List.take_of_length_le (by omega)]
  exact selZ
theorem flowMax_spec (ρ:PH) (v:Value) (n s t:Int) (l:List Arc) (hv:ArcsAt ρ v l) (hl:l.length≤1000000) :
  Makes Tryz.prog (fv 61) [int n,v,int s,int t] [ρ] (fun r σ=>∃ fs F m e,r=.tuple #[fs,int m,int e]∧IntsAt σ fs F∧MaxOK n l s t F m e):=by
 have hnil:IntsAt emp (.slice none 0 0) []:=⟨rfl,.inl ⟨rfl,none,0,rfl⟩⟩
 refine spec_in (cap:=[]) Tryz.func61 rfl rfl Tryz.ntmps61 rfl envZ (fun N β=>?_)
 refine Aa ?_;refine Acy ?_;refine Aav ?_
 focus ((refine BC (check_spec ρ v n l hv hl) rfl rfl rdZ rfl rfl ?_; rintro _ rfl))
 refine Abr ?_
 by_cases hc:chk n l=0
 rotate_left
 ·refine CJ ?_
  refine Ac0 ?_;refine Acy ?_;refine BZ ?_
  exact AO (res3 rfl rfl rfl rfl) rsubZ selZ ⟨emp,⟨_,[],0,_,rfl,hnil,.inl ⟨by unfold maxErr; rw [if_pos hc]; exact hc,by unfold maxErr; rw [if_pos hc],rfl,rfl⟩⟩,rfl⟩
 refine Abh ?_;refine Agc ?_
 focus ((refine BC (ends_spec _ _ _) rfl rfl rdZ rfl rfl ?_; rintro _ rfl))
 refine Abr ?_
 have hme:maxErr n l s t=if okEnds n s t=true then 0 else 2:=by unfold maxErr; rw [if_neg (by rw [hc]; simp)]
 cases he:okEnds n s t with
 | false =>
  rw [he] at hme;simp only [Bool.false_eq_true,if_false] at hme ⊢;refine CJ ?_;refine Ac0 ?_;refine Acy ?_;refine BZ ?_
  exact AO (res3 rfl rfl rfl rfl) rsubZ selZ ⟨emp,⟨_,[],0,_,rfl,hnil,.inl ⟨by rw [hme]; simp,by rw [hme],rfl,rfl⟩⟩,rfl⟩
 | true =>
  rw [he] at hme;simp only [if_true] at hme ⊢
  obtain ⟨n',s',t',g⟩:=maxErr_good hme
  obtain ⟨rfl,rfl,rfl⟩:=And.intro g.en (And.intro g.es g.et)
  refine Abh ?_;refine Aac ?_;refine Abp ?_;refine BL (maximum_spec ρ v n' l s' t' hv g.n2 g.l2 g.ok g.sn g.tn g.ne) rfl rfl takesZ rdZ rfl rfl ?_;rintro _ _ ⟨_,_,F,rfl,bf,gb,b1,b2,γ,rfl,rfl,_,hR,rfl⟩
  have hF:=(hR.flw g.ok g.sn g.ne (flw_zeros g.ok)).1
  have hIn:IntsAt (sng bf (.cells (ints F) 3 (0,0))) (.slice (some ⟨bf,0,none⟩) l.length l.length) F:=by rw [hF.len]; exact intsAt_sng
  simp only [List.cons_append,List.nil_append];refine Adn ?_;refine Abp ?_;refine BC (value_spec ρ _ v _ s' l F hv hIn g.l2 hF.len.symm (inCap_small l F hF.len hF.cap g.ok)) rfl rfl rdZ rfl rfl ?_;rintro _ rfl;refine Acy ?_;exact AO (res3 rfl rfl rfl rfl) rsubZ selZ ⟨_,⟨_,F,_,_,rfl,hIn,.inr ⟨hme,rfl,hR,rfl⟩⟩,rfl⟩
theorem flowCut_spec (ρ:PH) (v:Value) (n s t:Int) (l:List Arc) (hv:ArcsAt ρ v l) (hl:l.length≤1000000) :
  Makes Tryz.prog (fv 29) [int n,v,int s,int t] [ρ] (fun r σ=>∃ fs side c e,r=.tuple #[fs,int c,int e]∧IntsAt σ fs side∧CutOK n l s t side c e):=by
 have hnil:IntsAt emp (.slice none 0 0) []:=⟨rfl,.inl ⟨rfl,none,0,rfl⟩⟩
 refine spec_in (cap:=[]) Tryz.func29 rfl rfl Tryz.ntmps29 rfl envZ (fun N β=>?_)
 refine Aa ?_;refine Acy ?_;refine Aav ?_
 focus ((refine BC (check_spec ρ v n l hv hl) rfl rfl rdZ rfl rfl ?_; rintro _ rfl))
 refine Abr ?_
 by_cases hc:chk n l=0
 rotate_left
 ·refine CJ ?_
  refine Ac0 ?_;refine Acy ?_;refine BZ ?_
  exact AO (res3 rfl rfl rfl rfl) rsubZ selZ ⟨emp,⟨_,[],0,_,rfl,hnil,.inl ⟨by unfold maxErr; rw [if_pos hc]; exact hc,by unfold maxErr; rw [if_pos hc],rfl,rfl⟩⟩,rfl⟩
 refine Abh ?_;refine Agc ?_
 focus ((refine BC (ends_spec _ _ _) rfl rfl rdZ rfl rfl ?_; rintro _ rfl))
 refine Abr ?_
 have hme:maxErr n l s t=if okEnds n s t=true then 0 else 2:=by unfold maxErr; rw [if_neg (by rw [hc]; simp)]
 cases he:okEnds n s t with
 | false =>
  rw [he] at hme;simp only [Bool.false_eq_true,if_false] at hme ⊢;refine CJ ?_;refine Ac0 ?_;refine Acy ?_;refine BZ ?_
  exact AO (res3 rfl rfl rfl rfl) rsubZ selZ ⟨emp,⟨_,[],0,_,rfl,hnil,.inl ⟨by rw [hme]; simp,by rw [hme],rfl,rfl⟩⟩,rfl⟩
 | true =>
  rw [he] at hme;simp only [if_true] at hme ⊢
  obtain ⟨n',s',t',g⟩:=maxErr_good hme
  obtain ⟨rfl,rfl,rfl⟩:=And.intro g.en (And.intro g.es g.et)
  have hrep:(List.replicate n' false).length=n':=by simp
  have hn2:=g.n2
  have hsn:=g.sn
  have hrl:=rl_lt g.ok
  have hGok:GOk n' (outsOf (rlinks l)) (insOf (rlinks l)):=GOk_of g.n2 (by rw [rlinks_len]; have:=g.l2; omega) (fun x hx=>by have:=rlinks_mem g.ok hx; have:=g.l2; omega)
  have hcap:∀ a∈l,0≤a.c∧a.c≤1099511627776:=fun a ha=>by have:=okArc_iff.1 (g.ok a ha); omega
  refine Abh ?_;refine Aac ?_;refine Abp ?_;refine BL (maximum_spec ρ v n' l s' t' hv g.n2 g.l2 g.ok g.sn g.tn g.ne) rfl rfl takesZ rdZ rfl rfl ?_;rintro _ _ ⟨_,_,F,rfl,bf,gb,b1,b2,γ,rfl,rfl,hG,hR,rfl⟩
  have hF:=(hR.flw g.ok g.sn g.ne (flw_zeros g.ok)).1
  obtain ⟨ob,oc,ho,hol⟩:=hG.o
  have hrm:∀ x,x∈rlinks l→Ans Tryz.prog (roomR b1 b2) [int x.k] [ρ,sng b1 (.cells #[v] 73 (0,0)),sng b2 (.cells #[.slice (some ⟨bf,0,none⟩) l.length l.length] 22 (0,0)),sng bf (.cells (ints F) 3 (0,0))] (fun r=>r=int (rmR l F x.k)):=fun x hx =>
   residual1_spec ρ _ b1 b2 bf l.length l.length x.k _ _ _ l F hv hF.len.symm rfl (rlinks_mem g.ok hx).2.2 g.l2 hF.cap hcap
  simp only [List.cons_append,List.nil_append];refine AW (ρ:=sng bf _) takeZ ?_;refine AW (ρ:=γ) takeZ ?_;refine AW (ρ:=sng b1 _) takeZ ?_;refine AW (ρ:=sng b2 _) takeZ ?_;refine Adn ?_;refine EN ?_; rintro _ _ ⟨b,rfl,rfl⟩;refine CK ?_; rintro _ _ ⟨b,rfl,rfl⟩;refine BS ?_; rintro _ _ ⟨rfl,rfl⟩;refine AE ?_;refine Aex ?_;refine BR ?_;refine DM ?_; rintro _ _ ⟨rfl,rfl⟩;refine AE ?_;refine Aah ?_;refine AZ ?_; rintro _ _ ⟨b,rfl,rfl⟩;refine CK ?_; rintro _ _ ⟨b,rfl,rfl⟩;refine BS ?_; rintro _ _ ⟨rfl,rfl⟩;refine AE ?_;refine AM ?_
  rename_i bm bB bi
  revert b; intro bq
  have hq0:OwnO 3 1 (.slice (some ⟨bi,0,none⟩) 1 1) 1 [int s'] (sng bi (.cells [int (s':Int)].toArray 3 (0,0))):=OwnS.ownO (n:=1) rfl (by simp [maxLen])
  refine BZ ?_
  refine EL [0,1,2,3,14,15] ((((List.replicate n' false).set s' true,[s']),((.slice (some ⟨bi,0,none⟩) 1 1,sng bi (.cells [int (s':Int)].toArray 3 (0,0))),bq)),([],emp)) (X:=((List Bool × List Nat) × ((Value × PH) × Nat)) × (List Nat × PH))
   (fun x=>x.2.1.map mk) (fun x=>RInv n' s' (rE l F) x.1.1.1 x.1.1.2∧OwnO 3 1 x.1.2.1.1 x.1.1.2.length (qInts x.1.1.2) x.1.2.1.2∧x.1.1.2.length+unm x.1.1.1≤n'∧MkIn x.2.2 x.2.1)
   (fun x=>[(16,.pointer (some ⟨x.1.2.2,0,none⟩))]) (fun x=>[sng bB (.cells #[.slice (some ⟨bm,0,none⟩) n' n'] 125 (0,0)),sng bm (.cells (bools x.1.1.1) 4 (0,0)),sng x.1.2.2 (.cells #[x.1.2.1.1] 22 (0,0)),x.1.2.1.2,x.2.2]) (fun x=>2*unm x.1.1.1+x.1.1.2.length)
   pickZ rfl ⟨RInv.start hsn,hq0,by have:=unm_start hsn; dsimp only [List.length_singleton]; omega,MkIn.nil⟩ covZ selZ ?_
  rintro ⟨⟨⟨B,q⟩,⟨⟨qv,ρq⟩,bq2⟩⟩,⟨ms,μ⟩⟩ ⟨hB,hQ,hql,hM⟩
  dsimp only at hB hQ hql hM ⊢
  have hBl:=hB.len
  cases q with
  | nil =>
   have hQ':OwnO 3 1 qv 0 [] ρq:=hQ
   obtain ⟨_,b1',o1,cap1,cur1,rfl,rfl,_⟩:=hQ'
   have hreach:=hB.reach (fun x hx=>hrl x hx.1) hsn
   refine BZ ?_;refine AC ?_;refine Acz ?_;refine AU ?_;refine B7 ?_;refine Aa7 ?_;refine Aai ?_;refine AC ?_;refine Acz ?_;refine Afl ?_
   refine BA [0,1,15,82,83] (X:=Nat × (Value × PH)) (0,(.slice none 0 0,emp)) (fun x=>x.1≤n'∧OwnS 3 1 x.2.1 (sideOf B x.1).length ((sideOf B x.1).map int) x.2.2) (fun x=>[(18,x.2.1),(84,int x.1)])
    (fun x=>[sng bB (.cells #[.slice (some ⟨bm,0,none⟩) n' n'] 125 (0,0)),sng bm (.cells (bools B) 4 (0,0)),x.2.2,μ]) (fun x=>n'-x.1) pickZ ⟨by dsimp only; omega,OwnS.nil _ _⟩ covZ selZ ?_
   rintro ⟨k,⟨sv,ρs⟩⟩ ⟨hk,hS⟩
   dsimp only at hk hS ⊢
   have hsl:=sideOf_len B k
   have hsu:=sideOf_succ B k
   by_cases hlt:k<n'
   ·have hbk:=bget_some (B:=B) (v:=k) (by omega)
    cases hb:bget B k with
    | true =>
     rw [hb] at hbk hsu;rw [if_pos rfl] at hsu;refine Ac6 ?_;refine Adf ?_;refine Aal ?_;refine Aac ?_;refine Aag ?_;refine Ac3 ?_;refine AZ ?_; rintro _ _ ⟨b,rfl,rfl⟩
     refine BH (BI (by_:=8) (s:=1) (news:=[int (k:Int)]) rfl rfl rfl rfl rfl rfl rfl hS takeZ (cells_own memZ) rfl oneZ (by omega) (by simp only [maxLen]; omega) (by omega)) rfl rfl rfl ?_
     rintro q9 _ ⟨ρ3,hQ3,rfl⟩;refine Af4 ?_
     refine AT (k+1,(q9,ρ3)) ⟨by dsimp only; omega,?_⟩ (by dsimp only; omega) covZ selZ
     dsimp only
     rw [hsu,List.map_append,List.length_append];exact hQ3
    | false =>
     rw [hb] at hbk hsu
     rw [if_neg (by simp),List.append_nil] at hsu
     refine Ac6 ?_;refine Adf ?_;refine Aal ?_;refine Aac ?_;refine Aak ?_;refine Abf ?_
     refine AT (k+1,(sv,ρs)) ⟨by dsimp only; omega,?_⟩ (by dsimp only; omega) covZ selZ
     dsimp only
     rw [hsu];exact hS
   ·obtain rfl:k=n':=by omega
    refine Acd ?_;refine Aay ?_;refine AF ?_;refine BC (capacity_spec ρ v k bm k 4 l B hv g.l2 g.ok hBl) rfl rfl rdZ rfl rfl ?_;rintro _ rfl;refine Acy ?_;exact EJ hM takeZ (res3 rfl rfl rfl rfl) rsubZ selZ ⟨_,⟨sv,sideOf B k,_,_,rfl,ownInts (e:=3) hS,.inr ⟨hme,rfl,F,B,hR,hreach,rfl,rfl⟩⟩,rfl⟩
  | cons v1 q =>
   have hQ':OwnO 3 1 qv (q.length+1) (int v1::qInts q) ρq:=hQ
   have hV0:=hB.take
   have hvn:=hV0.vn
   obtain ⟨lv,hlv,hls⟩:=hol v1 hvn
   obtain ⟨b1',o1,cap1,rfl,hh0,_⟩:=hQ'.head
   simp only [List.length_cons] at hql ⊢;refine AC ?_;refine Acz ?_;refine AU ?_;refine CT ?_;refine Aa1 ?_;refine AC ?_
   refine A6 (.q 0 (.q 1 (.q 2 (.q 3 (.q 4 (.q 5 (.q 6 (.q 7 (.q 8 (.q 9 (.l 10 .e .nil))))))))))) [] rfl (by kernel_rfl) selZ ?_
   refine Aan ?_;refine Aec ?_;refine AQ ?_;refine HL ?_;refine AQ ?_;refine Ady ?_;refine CF (BU rfl (open_spec _ _ (SlE.one hls) rfl) rfl rfl rdZ rfl rfl ?_);rintro _ _ ⟨bl,bg,rfl,rfl⟩;simp only [List.cons_append,List.nil_append];refine A7 ?_;refine AW (ρ:=sng bl _) takeZ ?_;refine AW (ρ:=sng bg _) takeZ ?_;refine AM ?_
   refine D4 (gf:=126) (cap:=[.pointer (some ⟨bl,0,none⟩),.pointer (some ⟨bg,0,none⟩)]) (ps:=[65]) (X:=(List Bool × List Nat) × (Value × PH)) rfl Tryz.func126 rfl rfl
    (open_iter γ gb bl bg lv (roomR b1 b2) (outsOf (rlinks l) v1) (rmR l F) _ hls (by have:=(hGok.len v1).1; omega) hG.r (fun x hx=>hrm x (by unfold outsOf at hx; exact (List.mem_filter.1 hx).1))) ?_
    (fun i x=>RVInv n' s' (rE l F) x.1.1 v1 x.1.2 ((openL (rmR l F) (outsOf (rlinks l) v1)).take i)∧OwnO 3 1 x.2.1 (x.1.2.length+1) (int v1::qInts x.1.2) x.2.2∧x.1.2.length+unm x.1.1+1≤n'∧2*unm x.1.1+x.1.2.length≤2*unm B+q.length)
    (fun x=>[sng bB (.cells #[.slice (some ⟨bm,0,none⟩) n' n'] 125 (0,0)),sng bm (.cells (bools x.1.1) 4 (0,0)),sng bq2 (.cells #[x.2.1] 22 (0,0)),x.2.2])
    (fun _ _=>False) ((B,q),(.slice (some ⟨b1',o1,none⟩) (q.length+1) cap1,ρq)) rfl takesZ ⟨by simpa using hV0,hQ',by dsimp only; omega,by dsimp only; omega⟩ ?_ ?_ ?_
   ·intro σ hσ
    simp only [List.cons_append,List.nil_append,List.mem_cons,List.not_mem_nil,or_false] at hσ ⊢
    rcases hσ with h|h|h|h|h|h|h <;> simp [h]
   ·rintro lp r i ⟨⟨B1,q1⟩,⟨qv2,ρ2⟩⟩ vs hvs ⟨hV,hQ2,hlq,hms⟩ hps has hbd hst hpe hfr
    dsimp only at hV hQ2 hlq hms ⊢
    obtain ⟨st,pe,fnn,tm,prm,asg,bdy,df⟩:=r
    simp only at hps has hbd hst hpe hfr;subst hps has hbd hst hpe;rw [List.getElem?_map] at hvs
    obtain ⟨x,hx,rfl⟩:=Option.map_eq_some_iff.1 hvs
    have hlt:i<(openL (rmR l F) (outsOf (rlinks l) v1)).length:=(List.getElem?_eq_some_iff.1 hx).1
    have hxe:(openL (rmR l F) (outsOf (rlinks l) v1))[i]=x:=(List.getElem?_eq_some_iff.1 hx).2
    have hxm:x∈openL (rmR l F) (outsOf (rlinks l) v1):=List.mem_of_getElem? hx
    have hxi:(x∈rlinks l∧x.f=v1)∧0<rmR l F x.k:=by
     unfold openL outsOf at hxm
     obtain ⟨k1,k2⟩:=List.mem_filter.1 hxm
     obtain ⟨k3,k4⟩:=List.mem_filter.1 k1
     exact ⟨⟨k3,by simpa using k4⟩,by simpa using k2⟩
    have hxt:=(hrl x hxi.1.1).2
    have htk:(openL (rmR l F) (outsOf (rlinks l) v1)).take (i+1)=(openL (rmR l F) (outsOf (rlinks l) v1)).take i ++ [x]:=by rw [take_snoc' hlt,hxe]
    have hBl1:B1.length=n':=hV.len
    have hbx:=bget_some (B:=B1) (v:=x.t) (by omega)
    refine yield_spec hfr rfl (by intro p hp; simp at hp; omega) putiZ (fun N' β'=>?_)
    unfold encL;refine AA ?_;refine A4 ?_; rintro _ _ ⟨b,rfl,rfl⟩;refine AY ?_; rintro _ _ ⟨rfl,rfl⟩;refine Ag9 ?_;refine DW takeZ rfl ?_
    cases hb:bget B1 x.t with
    | false =>
     rw [hb] at hbx
     have hp:=hV.push (x:=x) ⟨hxi.1.1,hxi.2⟩ hxt hxi.1.2
     have hu:=unm_set (B:=B1) (i:=x.t) (by omega) hb
     refine AM ?_;refine Acz ?_;refine Aad ?_;refine Adf ?_;refine Afo ?_;refine AF ?_;refine Aad ?_;refine BR ?_;refine DM ?_; rintro _ _ ⟨rfl,rfl⟩;refine Afj ?_;refine AF ?_;refine Aad ?_;refine AZ ?_; rintro _ _ ⟨b,rfl,rfl⟩
     refine BH (FE (by_:=8) (s:=1) (news:=[int (x.t:Int)]) rfl rfl rfl rfl rfl rfl rfl hQ2 takeZ (cells_own memZ) rfl oneZ (by simp only [maxLen]; omega) (by omega)) rfl rfl rfl ?_
     rintro q9 _ ⟨ρ3,hQ3,rfl⟩
     have hq9:q9.oneCell'=true:=by obtain ⟨_,_,_,_,_,rfl,_⟩:=hQ3; rfl
     have hQ4:OwnO 3 1 q9 ((q1 ++ [x.t]).length+1) (int v1::qInts (q1 ++ [x.t])) ρ3:=by
      have:int v1::qInts (q1 ++ [x.t])=(int v1::qInts q1) ++ [int (x.t:Int)]:=by simp [qInts]
      rw [this,List.length_append];exact hQ3
     refine BS ?_; rintro _ _ ⟨rfl,rfl⟩;refine Agz ?_;refine CH takeZ rsubZ selZ ⟨((B1.set x.t true,q1 ++ [x.t]),(q9,ρ3)),.inl ⟨rfl,⟨?_,hQ4,?_,?_⟩,rfl⟩⟩
     ·dsimp only
      rw [htk];exact hp
     ·dsimp only
      rw [List.length_append,List.length_singleton]; omega
     ·dsimp only
      rw [List.length_append,List.length_singleton]; omega
    | true =>
     rw [hb] at hbx;refine AM ?_;refine Acz ?_;refine Aad ?_;refine Adf ?_;refine Acw ?_;refine A2 ?_;refine CH takeZ rsubZ selZ ⟨((B1,q1),(qv2,ρ2)),.inl ⟨rfl,⟨?_,hQ2,hlq,hms⟩,rfl⟩⟩;simp only;rw [htk];exact hV.seen hb
   ·rintro b2' ⟨⟨B1,q1⟩,⟨qv2,ρ2⟩⟩ ⟨hV,hQ2,hlq,hms⟩
    dsimp only at hV hQ2 hlq hms ⊢
    simp only [List.cons_append,List.nil_append]
    refine EK (R':=sng b2 (.cells #[.slice (some ⟨bf,0,none⟩) l.length l.length] 22 (0,0))::sng b1 (.cells #[v] 73 (0,0))::γ::sng bf (.cells (ints F) 3 (0,0))::β::[ρ]) (by intro σ hσ; simp at hσ ⊢; rcases hσ with h|h|h|h|h|h <;> simp [h]) ?_
    refine DT (b:=b2') takeZ (μ:=μ) takeZ hM ?_
    intro μ2 hM2
    obtain ⟨b5,o5,cap5,rfl,_,hh1⟩:=hQ2.head
    refine A2 ?_;refine A2 ?_;refine AC ?_;refine Acz ?_;refine Afj ?_;refine CK ?_; rintro _ _ ⟨b,rfl,rfl⟩;refine BS ?_; rintro _ _ ⟨rfl,rfl⟩;refine Afj ?_;refine AF ?_
    focus ((refine' CW _ rfl rfl rfl _; rotate_left; (apply FB (i:=1); exact rfl; exact rfl; exact rfl; exact rfl; omega)))
    refine BS ?_; rintro _ _ ⟨rfl,rfl⟩;refine AE ?_
    refine EC (((B1,q1),((_,ρ2),b)),(b2'::ms,μ2)) rfl ⟨hV.done (fun x hx hxt=>?_),hh1,by dsimp only; omega,hM2⟩ (by dsimp only [List.length_cons]; omega) covZ selZ
    have hmem:x∈openL (rmR l F) (outsOf (rlinks l) v1):=by
     unfold openL outsOf;rw [List.mem_filter,List.mem_filter]
     exact ⟨⟨hx.1,by simpa using hxt⟩,by simpa using hx.2⟩
    simpa [List.length_map] using hmem
   ·rintro _ _ _ h; exact h.elim
theorem capFun_eq (n:Nat) (side:List Int) (l:List Arc) (hok:∀ a∈l,okArc n a=true):capOf (fun j=>(marksOf n side).getD j false) l=capOf (fun j=>decide ((j:Int)∈side)) l:=by
 induction l with
 | nil=>rfl
 | cons a l ih =>
  obtain ⟨g1,g2,g3,g4,g5,g6,g7⟩:=okArc_iff.1 (hok a (by simp))
  simp only [capOf]
  rw [ih (fun b hb=>hok b (by simp [hb]))]
  have e1:(marksOf n side).getD a.f.toNat false=decide ((a.f.toNat:Int)∈side):=by
   rw [List.getD_eq_getElem?_getD,marksOf_get (by omega)]; rfl
  have e2:(marksOf n side).getD a.t.toNat false=decide ((a.t.toNat:Int)∈side):=by
   rw [List.getD_eq_getElem?_getD,marksOf_get (by omega)]; rfl
  simp only [e1,e2]
theorem flowCapacity_spec (ρ σ:PH) (v u:Value) (n:Int) (l:List Arc) (side:List Int) (hv:ArcsAt ρ v l) (hu:IntsAt σ u side) (hl:l.length≤1000000) (hm:side.length≤1000000) :
  Ans Tryz.prog (fv 69) [int n,v,u] [ρ,σ] (fun r=>r=.tuple #[int (capacitySpec n l side).1,int (capacitySpec n l side).2]):=by
 obtain ⟨q2,c2,rfl,hr2⟩:=hu.val Eng.encI_len
 refine spec_in (cap:=[]) Tryz.func69 rfl rfl Tryz.ntmps69 rfl envZ (fun N β=>?_)
 refine Ad5 ?_;refine Aav ?_
 focus ((refine BC (check_spec ρ v n l hv hl) rfl rfl rdZ rfl rfl ?_; rintro _ rfl))
 refine Abr ?_
 by_cases hc:chk n l=0
 rotate_left
 ·refine CJ ?_
  refine Aeg ?_;refine AO (res2 rfl rfl rfl) rsubZ selZ ⟨rfl,?_⟩;unfold capacitySpec; rw [if_pos hc]
 obtain ⟨a1,a2,a3,hok⟩:=chk_ok hc
 obtain ⟨n,rfl⟩:=Int.eq_ofNat_of_zero_le a1
 refine Abh ?_;refine Aac ?_;refine EN ?_; rintro _ _ ⟨b,rfl,rfl⟩;refine Af2 ?_;rw [← marksOf_nil]
 refine BA [0,1,2,9,20,21] (0:Nat) (fun k=>k≤side.length∧sideChk n none side=sideChk n (prevAt side k) (side.drop k)) (fun k=>[(22,int k)]) (fun k=>[sng b (.cells (bools (marksOf n (side.take k))) 4 (0,0))]) (fun k=>side.length-k) pickZ ⟨by omega,by simp [prevAt]⟩ covZ selZ ?_
 rintro k ⟨hk,hy⟩
 have hml:=marksOf_len n (side.take k)
 by_cases hlt:k<side.length
 ·obtain ⟨b2,o2,rfl,g1⟩:=hr2.int (List.getElem?_eq_getElem hlt)
  have g2:1≤k→rdc σ b2 (o2+(k-1))=some (int side[k-1]):=fun h=>by
   obtain ⟨b3,o3,e,g⟩:=hr2.int (List.getElem?_eq_getElem (show k-1<side.length by omega))
   simp only [Option.some.injEq,Addr.mk.injEq,and_true] at e;rw [e.1,e.2]; exact g
  have hin:0≤side[k]∧side[k]<(n:Int)∨side[k]<0∨(n:Int)≤side[k]:=by omega
  rcases hin with hin|hin
  ·have hpv:k=0∨(1≤k∧side[k]≤side[k-1])∨(1≤k∧side[k-1]<side[k]):=by omega
   have hpa:1≤k→prevAt side k=some side[k-1]:=fun h=>by
    obtain ⟨j,rfl⟩:∃ j,k=j+1:=⟨k-1,by omega⟩
    simp [prevAt]
   obtain ⟨x,hx⟩:=Int.eq_ofNat_of_zero_le hin.1
   rcases hpv with rfl|⟨h1,h2⟩|⟨h1,h2⟩
   ·have hst:=sideChk_step (n:=n) hlt hin.1 hin.2 (by simp [prevAt])
    rw [hx] at g1 hin;refine Ac6 ?_;refine Acb ?_;refine Aal ?_;refine Aav ?_
    focus ((refine BC (inside_spec _ _) rfl rfl rdZ rfl rfl ?_; rintro v (⟨rfl,h⟩|⟨rfl,h⟩); rotate_left; (focus (exfalso; omega))))
    refine Acw ?_;refine Aah ?_;refine B7 ?_;refine Abs ?_;refine Ad7 ?_;refine Ac3 ?_;refine BR ?_;refine DM ?_; rintro _ _ ⟨rfl,rfl⟩;refine Ae9 ?_
    refine AT 1 ⟨by omega,by rw [hy,hst]⟩ (by omega) covZ ?_
    rw [take_snoc' hlt,hx,marksOf_snoc];exact selZ
   ·have hst:=sideChk_nine (n:=n) hlt hin.1 hin.2 (hpa h1) h2
    have hcs:capacitySpec n l side=(0,9):=by
     unfold capacitySpec
     rw [if_neg (by rw [hc]; simp),hy,hst,if_pos (by simp)]
    have g3:=g2 h1
    rw [hx] at g1 hin h2;refine Ac6 ?_;refine Acb ?_;refine Aal ?_;refine Aav ?_
    focus ((refine BC (inside_spec _ _) rfl rfl rdZ rfl rfl ?_; rintro v (⟨rfl,h⟩|⟨rfl,h⟩); rotate_left; (focus (exfalso; omega))))
    refine Acw ?_;refine Aah ?_;refine CT ?_;refine Ad0 ?_;refine D8 ?_;refine Acb ?_;refine C9 ?_;refine AR ?_;refine Acg ?_;refine Aal ?_
    exact AO (res2 rfl rfl rfl) rsubZ selZ ⟨rfl,by rw [hcs]⟩
   ·have hst:=sideChk_step (n:=n) hlt hin.1 hin.2 (fun p hp=>by rw [hpa h1] at hp; simp at hp; omega)
    have g3:=g2 h1
    rw [hx] at g1 hin h2;refine Ac6 ?_;refine Acb ?_;refine Aal ?_;refine Aav ?_
    focus ((refine BC (inside_spec _ _) rfl rfl rdZ rfl rfl ?_; rintro v (⟨rfl,h⟩|⟨rfl,h⟩); rotate_left; (focus (exfalso; omega))))
    refine Acw ?_;refine Aah ?_;refine CT ?_;refine Ad0 ?_;refine D8 ?_;refine Acb ?_;refine DB ?_;refine Aem ?_;refine Ac3 ?_;refine BR ?_;refine DM ?_; rintro _ _ ⟨rfl,rfl⟩;refine Ae9 ?_
    refine AT (k+1) ⟨by omega,by rw [hy,hst]⟩ (by omega) covZ ?_
    rw [take_snoc' hlt,hx,marksOf_snoc];exact selZ
  ·have hst:=sideChk_two (n:=n) (prevAt side k) hlt hin
   have hcs:capacitySpec n l side=(0,2):=by
    unfold capacitySpec
    rw [if_neg (by rw [hc]; simp),hy,hst,if_pos (by simp)]
   refine Ac6 ?_;refine Acb ?_;refine Aal ?_;refine Aav ?_
   focus ((refine BC (inside_spec _ _) rfl rfl rdZ rfl rfl ?_; rintro v (⟨rfl,h⟩|⟨rfl,h⟩); (focus (exfalso; omega))))
   refine Afo ?_;refine Aal ?_
   exact AO (res2 rfl rfl rfl) rsubZ selZ ⟨rfl,by rw [hcs]⟩
 ·obtain rfl:k=side.length:=by omega
  rw [List.take_length] at hml;rw [List.take_length];refine Acd ?_;refine Aay ?_
  focus ((refine BC (capacity_spec ρ v n b n 4 l (marksOf n side) hv (by omega) hok hml) rfl rfl rdZ rfl rfl ?_; rintro _ rfl))
  refine Aal ?_;refine AO (res2 rfl rfl rfl) rsubZ selZ ⟨rfl,?_⟩;unfold capacitySpec
  rw [if_neg (by rw [hc]; simp),hy,List.drop_length]
  rw [if_neg (by simp [sideChk]),capFun_eq n side l hok]
theorem refCapacity_spec (ρ σ:PH) (v u:Value) (n:Int) (l:List Arc) (side:List Int) (hv:ArcsAt ρ v l) (hu:IntsAt σ u side) (hl:l.length≤1000000) (hm:side.length≤1000000) :
  Ans Tryz.prog (fv 163) [int n,v,u] [ρ,σ] (fun r=>r=.tuple #[int (capacitySpec n l side).1,int (capacitySpec n l side).2]):=by
 obtain ⟨q,c,rfl,hr⟩:=hv.val encA_len
 obtain ⟨q2,c2,rfl,hr2⟩:=hu.val Eng.encI_len
 refine spec_in (cap:=[]) Tryz.func163 rfl rfl Tryz.ntmps163 rfl envZ (fun N β=>?_)
 refine Ad5 ?_;refine Aav ?_
 focus ((refine BC (refCheck_spec ρ _ n l hv hl) rfl rfl rdZ rfl rfl ?_; rintro _ rfl))
 refine Abr ?_
 by_cases hc:chk n l=0
 rotate_left
 ·refine CJ ?_
  refine Aeg ?_;refine AO (res2 rfl rfl rfl) rsubZ selZ ⟨rfl,?_⟩;unfold capacitySpec; rw [if_pos hc]
 obtain ⟨a1,a2,a3,hok⟩:=chk_ok hc
 obtain ⟨n,rfl⟩:=Int.eq_ofNat_of_zero_le a1
 refine Abh ?_;refine Aac ?_;refine EN ?_; rintro _ _ ⟨b,rfl,rfl⟩;refine Adt ?_;rw [← marksOf_nil]
 refine BA [0,1,2,9] (0:Nat) (fun k=>k≤side.length∧sideChk n none side=sideChk n (prevAt side k) (side.drop k)) (fun k=>[(10,int k)]) (fun k=>[sng b (.cells (bools (marksOf n (side.take k))) 4 (0,0))]) (fun k=>side.length-k) pickZ ⟨by omega,by simp [prevAt]⟩ covZ selZ ?_
 rintro k ⟨hk,hy⟩
 have hml:=marksOf_len n (side.take k)
 by_cases hlt:k<side.length
 ·obtain ⟨b2,o2,rfl,g1⟩:=hr2.int (List.getElem?_eq_getElem hlt)
  have g2:1≤k→rdc σ b2 (o2+(k-1))=some (int side[k-1]):=fun h=>by
   obtain ⟨b3,o3,e,g⟩:=hr2.int (List.getElem?_eq_getElem (show k-1<side.length by omega))
   simp only [Option.some.injEq,Addr.mk.injEq,and_true] at e;rw [e.1,e.2]; exact g
  have hin:0≤side[k]∧side[k]<(n:Int)∨side[k]<0∨(0≤side[k]∧(n:Int)≤side[k]):=by omega
  rcases hin with hin|hin
  ·have hpv:k=0∨(1≤k∧side[k]≤side[k-1])∨(1≤k∧side[k-1]<side[k]):=by omega
   have hpa:1≤k→prevAt side k=some side[k-1]:=fun h=>by
    obtain ⟨j,rfl⟩:∃ j,k=j+1:=⟨k-1,by omega⟩
    simp [prevAt]
   obtain ⟨x,hx⟩:=Int.eq_ofNat_of_zero_le hin.1
   rcases hpv with rfl|⟨h1,h2⟩|⟨h1,h2⟩
   ·have hst:=sideChk_step (n:=n) hlt hin.1 hin.2 (by simp [prevAt])
    rw [hx] at g1 hin;refine Abo ?_;refine Aav ?_;refine Acb ?_;refine A0 ?_;refine Abp ?_;refine BT ?_;refine Abq ?_;refine Ael ?_;refine Acp ?_
    refine A6 P0Z [] rfl (by kernel_rfl) selZ ?_
    refine AI ?_;refine DL ?_;refine Af8 ?_;refine Ag2 ?_;refine Ac8 ?_;refine Acb ?_;refine BR ?_;refine DM ?_; rintro _ _ ⟨rfl,rfl⟩;refine Ag5 ?_
    refine AT 1 ⟨by omega,by rw [hy,hst]⟩ (by omega) covZ ?_
    rw [take_snoc' hlt,hx,marksOf_snoc];exact selZ
   ·have hst:=sideChk_nine (n:=n) hlt hin.1 hin.2 (hpa h1) h2
    have hcs:capacitySpec n l side=(0,9):=by
     unfold capacitySpec
     rw [if_neg (by rw [hc]; simp),hy,hst,if_pos (by simp)]
    have g3:=g2 h1
    rw [hx] at g1 hin h2;refine Abo ?_;refine Aav ?_;refine Acb ?_;refine A0 ?_;refine Abp ?_;refine BT ?_;refine Abq ?_;refine Ael ?_;refine Acp ?_
    refine A6 P0Z [] rfl (by kernel_rfl) selZ ?_
    refine Afk ?_;refine Ab3 ?_;refine Aco ?_;refine Aan ?_;refine BQ ?_;refine Aco ?_;refine ES ?_;refine Adg ?_;refine Ad5 ?_
    exact AO (res2 rfl rfl rfl) rsubZ selZ ⟨rfl,by rw [hcs]⟩
   ·have hst:=sideChk_step (n:=n) hlt hin.1 hin.2 (fun p hp=>by rw [hpa h1] at hp; simp at hp; omega)
    have g3:=g2 h1
    rw [hx] at g1 hin h2;refine Abo ?_;refine Aav ?_;refine Acb ?_;refine A0 ?_;refine Abp ?_;refine BT ?_;refine Abq ?_;refine Ael ?_;refine Acp ?_
    refine A6 P0Z [] rfl (by kernel_rfl) selZ ?_
    refine Afk ?_;refine Ab3 ?_;refine Aco ?_;refine Aan ?_;refine BQ ?_;refine Aco ?_;refine DZ ?_;refine Agl ?_;refine Ac8 ?_;refine Acb ?_;refine BR ?_;refine DM ?_; rintro _ _ ⟨rfl,rfl⟩;refine Ag5 ?_
    refine AT (k+1) ⟨by omega,by rw [hy,hst]⟩ (by omega) covZ ?_
    rw [take_snoc' hlt,hx,marksOf_snoc];exact selZ
  ·have hst:=sideChk_two (n:=n) (prevAt side k) hlt (by omega)
   have hcs:capacitySpec n l side=(0,2):=by
    unfold capacitySpec
    rw [if_neg (by rw [hc]; simp),hy,hst,if_pos (by simp)]
   rcases hin with hin|hin
   all_goals
    repeat' (first
     | (refine AB ?_)
     | (refine AD ?_)
     | (refine AF ?_)
     | (refine BT ?_)
     | (refine AR ?_)
     | (refine AN ?_)
     | (refine AU ?_)
     | (refine BD ?_)
     | (refine A0 ?_)
     | (refine CX ?_)
     | (refine AC ?_)
     | (refine AA ?_)
     | (refine AE ?_)
     | (refine AM ?_)
     | (refine AJ ?_)
     | (refine AL rfl ?_)
     | (refine AH rfl rfl rfl ?_)
     | fail)
    exact AO (res2 rfl rfl rfl) rsubZ selZ ⟨rfl,by rw [hcs]⟩
 obtain rfl:k=side.length:=by omega
 rw [List.take_length] at hml;rw [List.take_length]
 have hchk0:sideChk n none side=0:=by rw [hy,List.drop_length]; rfl
 refine Aci ?_;refine Af5 ?_
 refine BA [0,1,2,9] ((0,0):Nat × Int) (fun x=>x.1≤l.length∧x.2=capOf (fun j=>(marksOf n side).getD j false) (l.take x.1)) (fun x=>[(11,int x.2),(12,int x.1)]) (fun _=>[sng b (.cells (bools (marksOf n side)) 4 (0,0))]) (fun x=>l.length-x.1) pickZ ⟨by simp,by simp [capOf]⟩ covZ selZ ?_
 rintro ⟨k,y⟩ ⟨hk,hy⟩;simp only at hk hy
 by_cases hlt:k<l.length
 ·have hx:=List.getElem?_eq_getElem hlt
  obtain ⟨b',o,rfl,hA,h0,h1,h2⟩:=arcRow hr hx
  have hbd:=capOf_bd n (fun j=>(marksOf n side).getD j false) (l.take k) (fun a ha=>hok a (List.mem_of_mem_take ha))
  have hlen:(l.take k).length=k:=by simp; omega
  rw [← hy,hlen] at hbd
  obtain ⟨g1,g2,g3,g4,g5,g6,g7⟩:=okArc_iff.1 (hok l[k] (List.getElem_mem hlt))
  have hstep:capOf (fun j=>(marksOf n side).getD j false) (l.take (k+1))=y+(if (marksOf n side).getD l[k].f.toNat false=true∧(marksOf n side).getD l[k].t.toNat false=false then l[k].c else 0):=by
   rw [take_snoc' hlt,capOf_snoc,hy]
  obtain ⟨f,hf⟩:=Int.eq_ofNat_of_zero_le g1
  obtain ⟨t,ht⟩:=Int.eq_ofNat_of_zero_le g3
  rw [hf,ht] at hstep;rw [hf] at g2 h0;rw [ht] at g4 h1
  have e1:(marksOf n side)[f]?=some ((marksOf n side).getD f false):=by
   have:f<(marksOf n side).length:=by omega
   simp [this]
  have e2:(marksOf n side)[t]?=some ((marksOf n side).getD t false):=by
   have:t<(marksOf n side).length:=by omega
   simp [this]
  simp only [Int.toNat_natCast] at hstep
  cases c1:(marksOf n side).getD f false with
  | false =>
   rw [c1] at e1
   rw [if_neg (by rw [c1]; simp),Int.add_zero] at hstep
   refine Abo ?_;refine Aev ?_;refine Afp ?_;refine Adf ?_;refine Adh ?_;refine Afs ?_
   exact AT (k+1,_) ⟨by simp only; omega,hstep.symm⟩ (by simp only; omega) covZ selZ
  | true =>
   rw [c1] at e1
   cases c2:(marksOf n side).getD t false with
   | false =>
    rw [c2] at e2;rw [if_pos ⟨c1,c2⟩] at hstep;refine Abo ?_;refine Aev ?_;refine Afp ?_;refine Adf ?_;refine Agp ?_;refine Adf ?_;refine BN ?_;refine Aez ?_;refine Af7 ?_;refine CB ?_;refine Adb ?_
    exact AT (k+1,_) ⟨by simp only; omega,hstep.symm⟩ (by simp only; omega) covZ selZ
   | true =>
    rw [c2] at e2
    rw [if_neg (by rw [c2]; simp),Int.add_zero] at hstep
    refine Abo ?_;refine Aev ?_;refine Afp ?_;refine Adf ?_;refine Agp ?_;refine Adf ?_;refine BN ?_;refine Agq ?_
    exact AT (k+1,_) ⟨by simp only; omega,hstep.symm⟩ (by simp only; omega) covZ selZ
 ·refine AC ?_
  refine Aea ?_;refine Abv ?_;refine Afh ?_;refine AO (res2 rfl rfl rfl) rsubZ selZ ⟨rfl,?_⟩
  rw [hy,List.take_of_length_le (by omega)]
  unfold capacitySpec
  rw [if_neg (by rw [hc]; simp),if_neg (by rw [hchk0]; simp),capFun_eq n side l hok]
theorem balanced_of {n:Nat} {l:List Arc} {fl:List Int} {s t:Int} (h:∀ v:Nat,v<n→(v:Int)=s∨(v:Int)=t∨fval v l fl=0):balanced n l fl s t=true:=by
 unfold balanced;rw [List.all_eq_true]
 intro v hv
 rw [decide_eq_true_eq]
 exact h v (by simpa using hv)
theorem balanced_not {n:Nat} {l:List Arc} {fl:List Int} {s t:Int} {v:Nat} (hv:v<n) (h1:(v:Int)≠s) (h2:(v:Int)≠t) (h3:fval v l fl≠0):balanced n l fl s t=false:=by
 cases h:balanced n l fl s t with
 | false=>rfl
 | true =>
  unfold balanced at h;rw [List.all_eq_true] at h
  have:=h v (by simpa using hv)
  rw [decide_eq_true_eq] at this
  exact absurd this (by simp [h1,h2,h3])
theorem inCap_take_false {l:List Arc} {fl:List Int} {k:Nat} (hk:k<l.length) (hfl:fl.length=l.length) (h:¬ (0≤fl[k]∧fl[k]≤l[k].c)):inCap l fl=false:=by
 cases hc:inCap l fl with
 | false=>rfl
 | true=>exact absurd (inCap_get l fl hc k l[k] fl[k] (List.getElem?_eq_getElem hk) (List.getElem?_eq_getElem (by omega))) h
theorem flowValue_spec (ρ σ:PH) (v u:Value) (n s t:Int) (l:List Arc) (fl:List Int) (hv:ArcsAt ρ v l) (hu:IntsAt σ u fl) (hl:l.length≤1000000) :
    Ans Tryz.prog (fv 71) [int n,v,u,int s,int t] [ρ,σ] (fun r=>r=.tuple #[int (valueSpec n l fl s t).1,int (valueSpec n l fl s t).2]):=by
  obtain ⟨q,c,rfl,hr⟩:=hv.val encA_len
  obtain ⟨q2,c2,rfl,hr2⟩:=hu.val Eng.encI_len
  refine spec_in (cap:=[]) Tryz.func71 rfl rfl Tryz.ntmps71 rfl envZ (fun N β=>?_)
  refine Ad5 ?_;refine Aav ?_
  focus ((refine BC (check_spec ρ _ n l hv hl) rfl rfl rdZ rfl rfl ?_; rintro _ rfl))
  refine Abr ?_
  by_cases hc:chk n l=0
  rotate_left
  · refine CJ ?_
    refine Aeg ?_;refine AO (res2 rfl rfl rfl) rsubZ selZ ⟨rfl,?_⟩;unfold valueSpec; rw [if_pos hc]
  obtain ⟨a1,a2,a3,hok⟩:=chk_ok hc
  obtain ⟨n,rfl⟩:=Int.eq_ofNat_of_zero_le a1
  by_cases he:okEnds n s t=true
  rotate_left
  · have he':okEnds n s t=false:=by simpa using he
    refine Abh ?_;refine Agc ?_
    focus ((refine BC (ends_spec n s t) rfl rfl rdZ rfl rfl ?_; rintro _ rfl; rw [he',if_neg (by simp)]))
    refine Abr ?_;refine Ag6 ?_;refine AO (res2 rfl rfl rfl) rsubZ selZ ⟨rfl,?_⟩
    unfold valueSpec; rw [if_neg (by rw [hc]; simp),if_pos he']
  obtain ⟨s1,s2,t1,t2,st⟩:=okEnds_iff.1 he
  refine Abh ?_;refine Agc ?_
  focus ((refine BC (ends_spec n s t) rfl rfl rdZ rfl rfl ?_; rintro _ rfl; rw [he,if_pos rfl]))
  refine Ahd ?_;refine Aew ?_
  by_cases hfl:fl.length=l.length
  rotate_left
  · refine CJ ?_
    refine Acg ?_;refine Aal ?_;refine AO (res2 rfl rfl rfl) rsubZ selZ ⟨rfl,?_⟩
    unfold valueSpec; rw [if_neg (by rw [hc]; simp),if_neg (by rw [he]; simp),if_pos hfl]
  refine Abh ?_;refine Aac ?_;refine DX ?_; rintro _ _ ⟨b,rfl,rfl⟩;refine Af2 ?_
  rw [show List.replicate n (0:Int)=negL (netL n [] []) from by rw [netL_nil]; simp [negL]]
  refine BA [0,1,2,3,4,14,39,40] (0:Nat) (fun k=>k≤l.length∧inCap (l.take k) (fl.take k)=true) (fun k=>[(41,int k)]) (fun k=>[sng b (.cells (ints (negL (netL n (l.take k) (fl.take k)))) 3 (0,0))]) (fun k=>l.length-k) pickZ ⟨by omega,by simp [inCap]⟩ covZ selZ ?_
  rintro k ⟨hk,hy⟩
  by_cases hlt:k<l.length
  · have hltf:k<fl.length:=by omega
    obtain ⟨b',o,rfl,hA,h0,h1,h2⟩:=arcRow hr (List.getElem?_eq_getElem hlt)
    obtain ⟨b2,o2,rfl,f0⟩:=hr2.int (List.getElem?_eq_getElem hltf)
    obtain ⟨g1,g2,g3,g4,g5,g6,g7⟩:=okArc_iff.1 (hok l[k] (List.getElem_mem hlt))
    by_cases hin:0≤fl[k]∧fl[k]≤l[k].c
    rotate_left
    · have hvs:valueSpec n l fl s t=(0,2):=by
        unfold valueSpec
        rw [if_neg (by rw [hc]; simp),if_neg (by rw [he]; simp),if_neg (by simpa using hfl),if_pos (inCap_take_false hlt hfl hin)]
      rcases (show fl[k]<0∨(0≤fl[k]∧l[k].c<fl[k]) by omega) with hin'|hin'
      all_goals
        refine Afb ?_;refine A4 ?_; rintro _ _ ⟨b,rfl,rfl⟩;refine AD ?_;refine AY ?_; rintro _ _ ⟨rfl,rfl⟩;refine Aat ?_;refine AC ?_
        refine A6 P0Z [] rfl (by kernel_rfl) selZ ?_
        repeat' (first
          | (refine AI ?_)
          | (refine AQ ?_)
          | (refine AX ?_)
          | (refine CD ?_)
          | (refine BG ?_)
          | (refine BM ?_)
          | (refine D6 ?_)
          | (refine DK ?_)
          | (refine DY ?_)
          | (refine AS rfl rfl rfl rfl rfl ?_)
          | (refine A7 ?_)
          | fail)
        refine AL rfl ?_;refine Ad5 ?_
        exact AO (res2 rfl rfl rfl) rsubZ selZ ⟨rfl,by rw [hvs]⟩
    obtain ⟨f,hf⟩:=Int.eq_ofNat_of_zero_le g1
    obtain ⟨t',ht⟩:=Int.eq_ofNat_of_zero_le g3
    rw [hf,ht] at hA g5;rw [hf] at g2;rw [ht] at g4
    have hst:(l.take k).length=(fl.take k).length:=by simp; omega
    have hlen:(fl.take k).length=k:=by simp; omega
    have hnet:=netL_snoc (n:=n) (l:=l.take k) (fl:=fl.take k) (a:=l[k]) (x:=fl[k]) hst hf ht (by omega)
    rw [← take_snoc' hlt,← take_snoc' hltf] at hnet
    have hsm:small (fl.take k):=inCap_small _ _ hst hy (fun a ha=>hok a (List.mem_of_mem_take ha))
    have b1:=fval_bd f (l.take k) (fl.take k) hsm
    have b2':=fval_bd t' (l.take k) (fl.take k) hsm
    rw [hlen] at b1 b2'
    generalize hE:negL (netL n (l.take k) (fl.take k))=E
    have hEl:E.length=n:=by rw [← hE,negL_len,netL_len]
    have e1:E.getD f 0 = -(fval f (l.take k) (fl.take k)):=by rw [← hE,negL_get (by rw [netL_len]; omega),netL_get (by omega)]
    have e2:E.getD t' 0 = -(fval t' (l.take k) (fl.take k)):=by rw [← hE,negL_get (by rw [netL_len]; omega),netL_get (by omega)]
    have e3:(E.set f (E.getD f 0-fl[k])).getD t' 0=E.getD t' 0:=by
      rw [List.getD_eq_getElem?_getD,List.getElem?_set_ne (by omega),← List.getD_eq_getElem?_getD]
    have e4:(E.set f (E.getD f 0-fl[k])).length=n:=by simp [hEl]
    refine Afb ?_;refine A4 ?_; rintro _ _ ⟨b,rfl,rfl⟩;refine AD ?_;refine AY ?_; rintro _ _ ⟨rfl,rfl⟩;refine Aat ?_;refine AC ?_
    refine A6 P0Z [] rfl (by kernel_rfl) selZ ?_
    refine Adj ?_;refine DK ?_;refine Ab3 ?_;refine Aco ?_;refine Aau ?_;refine DL ?_;refine Ag2 ?_;refine AC ?_
    refine A6 (.q 0 (.q 1 (.q 2 (.q 3 (.q 4 (.q 5 (.q 6 (.q 7 (.q 8 (.q 9 (.q 10 (.l 11 .b .nil)))))))))))) [] rfl (by kernel_rfl) selZ ?_
    refine Afy ?_;refine Ady ?_;refine Adj ?_;refine D9 ?_;refine CM ?_;refine D7 ?_; rintro _ _ ⟨rfl,rfl⟩;refine A7 ?_
    skip
    refine A6 (.q 0 (.q 1 (.q 2 (.q 3 (.q 4 (.q 5 (.q 6 (.q 7 (.q 8 (.q 9 (.q 10 (.l 11 .b .nil)))))))))))) [] rfl (by kernel_rfl) selZ ?_
    refine Afy ?_;refine Ady ?_;refine Adj ?_;refine CY ?_;refine CM ?_;refine D7 ?_; rintro _ _ ⟨rfl,rfl⟩;refine A7 ?_;refine Abf ?_
    refine AT (k+1) ⟨by omega,?_⟩ (by omega) covZ ?_
    · rw [take_snoc' hlt,take_snoc' hltf,inCap_snoc _ _ _ _ hst,hy]
      simp; omega
    · rw [hnet,negL_set,negL_set,hE]
      rw [show -(fval f (l.take k) (fl.take k)+fl[k])=E.getD f 0-fl[k] from by omega]
      rw [show -(fval t' (l.take k) (fl.take k)-fl[k])=(E.set f (E.getD f 0-fl[k])).getD t' 0+fl[k] from by rw [e3]; omega]
      exact selZ
  obtain rfl:k=l.length:=by omega
  rw [List.take_length,List.take_of_length_le (by omega)] at hy
  rw [List.take_length,List.take_of_length_le (by omega)]
  have hsm:small fl:=inCap_small _ _ hfl.symm hy hok
  generalize hE:negL (netL n l fl)=E
  have hEl:E.length=n:=by rw [← hE,negL_len,netL_len]
  refine Acd ?_;refine Acm ?_
  refine BA [1,2,3,4,83,84] (0:Nat) (fun k=>k≤n∧∀ v:Nat,v<k→(v:Int)=s∨(v:Int)=t∨fval v l fl=0) (fun k=>[(85,int k)]) (fun _=>[sng b (.cells (ints E) 3 (0,0))]) (fun k=>n-k) pickZ ⟨by omega,by simp⟩ covZ selZ ?_
  rintro k ⟨hk,hz⟩
  by_cases hlt:k<n
  · have e1:E.getD k 0 = -(fval k l fl):=by rw [← hE,negL_get (by rw [netL_len]; omega),netL_get (by omega)]
    repeat' (first
      | (refine AB ?_)
      | (refine AD ?_)
      | (refine AF ?_)
      | (refine BR ?_)
      | (refine AR ?_)
      | (refine AN ?_)
      | (refine A9 ?_)
      | (refine BD ?_)
      | (refine AC ?_)
      | (refine AA ?_)
      | (refine AE ?_)
      | (refine AM ?_)
      | (refine A2 ?_)
      | (refine AJ ?_)
      | (refine AL rfl ?_)
      | (refine AK rfl ?_)
      | (refine AH rfl rfl rfl ?_)
      | (focus ((refine CU rfl rfl (cmp_ne _ _) rfl rfl (fun h=>?_) (fun h=>?_))))
      | fail)
    all_goals first
      | (refine AT (k+1) ⟨by omega,fun v hv=>?_⟩ (by omega) covZ selZ
         rcases Nat.lt_or_ge v k with hv'|hv'
         · exact hz v hv'
         · obtain rfl:v=k:=by omega
           omega)
      | (refine AO (res2 rfl rfl rfl) rsubZ selZ ⟨rfl,?_⟩
         have hb:=balanced_not (l:=l) (fl:=fl) (s:=s) (t:=t) hlt (by omega) (by omega) (by omega)
         unfold valueSpec
         rw [if_neg (by rw [hc]; simp),if_neg (by rw [he]; simp),if_neg (by simpa using hfl),if_neg (by rw [hy]; simp),Int.toNat_natCast,if_pos hb])
  · refine AC ?_
    refine Afw ?_;refine Aev ?_
    focus ((refine BC (value_spec ρ σ _ _ s l fl hv hu a3 hfl hsm) rfl rfl rdZ rfl rfl ?_; rintro _ rfl))
    refine Aal ?_;refine AO (res2 rfl rfl rfl) rsubZ selZ ⟨rfl,?_⟩
    have hb:=balanced_of (n:=n) (l:=l) (fl:=fl) (s:=s) (t:=t) (fun v hv=>hz v (by omega))
    unfold valueSpec
    rw [if_neg (by rw [hc]; simp),if_neg (by rw [he]; simp),if_neg (by simpa using hfl),if_neg (by rw [hy]; simp),Int.toNat_natCast,if_neg (by rw [hb]; simp)]
theorem refValue_spec (ρ σ:PH) (v u:Value) (n s t:Int) (l:List Arc) (fl:List Int) (hv:ArcsAt ρ v l) (hu:IntsAt σ u fl) (hl:l.length≤1000000) :
    Ans Tryz.prog (fv 165) [int n,v,u,int s,int t] [ρ,σ] (fun r=>r=.tuple #[int (valueSpec n l fl s t).1,int (valueSpec n l fl s t).2]):=by
  obtain ⟨q,c,rfl,hr⟩:=hv.val encA_len
  obtain ⟨q2,c2,rfl,hr2⟩:=hu.val Eng.encI_len
  refine spec_in (cap:=[]) Tryz.func165 rfl rfl Tryz.ntmps165 rfl envZ (fun N β=>?_)
  refine Ad5 ?_;refine Aah ?_;refine Abp ?_
  focus ((refine BC (refEnds_spec ρ _ n s t l hv hl) rfl rfl rdZ rfl rfl ?_; rintro _ rfl))
  refine Abr ?_
  by_cases hc:chk n l=0
  rotate_left
  · rw [if_pos hc]
    refine Ag6 ?_;refine AO (res2 rfl rfl rfl) rsubZ selZ ⟨rfl,?_⟩;unfold valueSpec; rw [if_pos hc]
  rw [if_neg (by rw [hc]; simp)]
  obtain ⟨a1,a2,a3,hok⟩:=chk_ok hc
  obtain ⟨n,rfl⟩:=Int.eq_ofNat_of_zero_le a1
  by_cases he:okEnds n s t=true
  rotate_left
  · have he':okEnds n s t=false:=by simpa using he
    rw [if_neg he];refine Ag6 ?_;refine AO (res2 rfl rfl rfl) rsubZ selZ ⟨rfl,?_⟩
    unfold valueSpec; rw [if_neg (by rw [hc]; simp),if_pos he']
  rw [if_pos he]
  obtain ⟨s1,s2,t1,t2,st⟩:=okEnds_iff.1 he
  by_cases hfl:fl.length=l.length
  rotate_left
  · refine BK ?_
    refine Aak ?_;refine Aew ?_;refine Ae0 ?_;refine Aal ?_;refine AO (res2 rfl rfl rfl) rsubZ selZ ⟨rfl,?_⟩
    unfold valueSpec; rw [if_neg (by rw [hc]; simp),if_neg (by rw [he]; simp),if_pos hfl]
  refine Abh ?_;refine Agt ?_;refine Acv ?_
  refine BA [0,1,2,3,4] (0:Nat) (fun k=>k≤l.length∧inCap (l.take k) (fl.take k)=true) (fun k=>[(13,int k)]) (fun k=>[]) (fun k=>l.length-k) pickZ ⟨by omega,by simp [inCap]⟩ covZ selZ ?_
  rintro k ⟨hk,hy⟩
  by_cases hlt:k<l.length
  · have hltf:k<fl.length:=by omega
    obtain ⟨b',o,rfl,hA,h0,h1,h2⟩:=arcRow hr (List.getElem?_eq_getElem hlt)
    obtain ⟨b2,o2,rfl,f0⟩:=hr2.int (List.getElem?_eq_getElem hltf)
    have hst:(l.take k).length=(fl.take k).length:=by simp; omega
    by_cases hin:0≤fl[k]∧fl[k]≤l[k].c
    rotate_left
    · have hvs:valueSpec n l fl s t=(0,2):=by
        unfold valueSpec
        rw [if_neg (by rw [hc]; simp),if_neg (by rw [he]; simp),if_neg (by simpa using hfl),if_pos (inCap_take_false hlt hfl hin)]
      rcases (show fl[k]<0∨(0≤fl[k]∧l[k].c<fl[k]) by omega) with hin'|hin'
      all_goals
        refine Ad9 ?_
        refine A6 P4Z [] rfl (by kernel_rfl) selZ ?_
        repeat' (first
          | (refine AI ?_)
          | (refine AQ ?_)
          | (refine B6 ?_)
          | (refine CD ?_)
          | (refine BB ?_)
          | (refine BG ?_)
          | (refine BM ?_)
          | (refine D6 ?_)
          | (refine DK ?_)
          | (refine DY ?_)
          | (refine AS rfl rfl rfl rfl rfl ?_)
          | (refine A7 ?_)
          | fail)
        refine AL rfl ?_;refine Ad5 ?_
        exact AO (res2 rfl rfl rfl) rsubZ selZ ⟨rfl,by rw [hvs]⟩
    refine Ad9 ?_
    refine A6 P4Z [] rfl (by kernel_rfl) selZ ?_
    refine Adj ?_;refine DK ?_;refine Ab3 ?_;refine Aco ?_;refine Ado ?_;refine DL ?_;refine BM ?_;refine Aee ?_
    refine AT (k+1) ⟨by omega,?_⟩ (by omega) covZ selZ
    rw [take_snoc' hlt,take_snoc' hltf,inCap_snoc _ _ _ _ hst,hy]
    simp; omega
  obtain rfl:k=l.length:=by omega
  rw [List.take_length,List.take_of_length_le (by omega)] at hy
  have hsm:small fl:=inCap_small _ _ hfl.symm hy hok
  refine Aci ?_;refine Aac ?_;refine DX ?_; rintro _ _ ⟨b,rfl,rfl⟩;refine Adt ?_
  rw [show List.replicate n (0:Int)=netL n [] [] from by rw [netL_nil]]
  refine BA [0,1,2,3,4,14] (0:Nat) (fun k=>k≤l.length) (fun k=>[(15,int k)]) (fun k=>[sng b (.cells (ints (netL n (l.take k) (fl.take k))) 3 (0,0))]) (fun k=>l.length-k) pickZ (by omega) covZ selZ ?_
  rintro k hk
  by_cases hlt:k<l.length
  · have hltf:k<fl.length:=by omega
    obtain ⟨b',o,rfl,hA,h0,h1,h2⟩:=arcRow hr (List.getElem?_eq_getElem hlt)
    obtain ⟨b2,o2,rfl,f0⟩:=hr2.int (List.getElem?_eq_getElem hltf)
    obtain ⟨g1,g2,g3,g4,g5,g6,g7⟩:=okArc_iff.1 (hok l[k] (List.getElem_mem hlt))
    obtain ⟨f,hf⟩:=Int.eq_ofNat_of_zero_le g1
    obtain ⟨t',ht⟩:=Int.eq_ofNat_of_zero_le g3
    rw [hf] at g2 h0 g5;rw [ht] at g4 h1 g5
    have hx3:=hsm fl[k] (List.getElem_mem _)
    have hst:(l.take k).length=(fl.take k).length:=by simp; omega
    have hlen:(fl.take k).length=k:=by simp; omega
    have hnet:=netL_snoc (n:=n) (l:=l.take k) (fl:=fl.take k) (a:=l[k]) (x:=fl[k]) hst hf ht (by omega)
    rw [← take_snoc' hlt,← take_snoc' hltf] at hnet
    have b1:=fval_bd f (l.take k) (fl.take k) (small_take hsm k)
    have b2':=fval_bd t' (l.take k) (fl.take k) (small_take hsm k)
    rw [hlen] at b1 b2'
    generalize hE:netL n (l.take k) (fl.take k)=E
    have hEl:E.length=n:=by rw [← hE,netL_len]
    have e1:E.getD f 0=(fval f (l.take k) (fl.take k)):=by rw [← hE,netL_get (by omega)]
    have e2:E.getD t' 0=(fval t' (l.take k) (fl.take k)):=by rw [← hE,netL_get (by omega)]
    have e3:(E.set f (E.getD f 0+fl[k])).getD t' 0=E.getD t' 0:=by
      rw [List.getD_eq_getElem?_getD,List.getElem?_set_ne (by omega),← List.getD_eq_getElem?_getD]
    have e4:(E.set f (E.getD f 0+fl[k])).length=n:=by simp [hEl]
    refine Ad9 ?_
    refine A6 (.q 0 (.q 1 (.q 2 (.q 3 (.q 4 (.q 5 (.q 6 (.q 7 (.q 8 (.q 9 (.q 10 (.q 11 (.q 12 (.q 13 (.l 14 .b .nil))))))))))))))) [] rfl (by kernel_rfl) selZ ?_
    refine Agj ?_;refine Ady ?_;refine Adj ?_;refine CY ?_;refine CM ?_;refine D7 ?_; rintro _ _ ⟨rfl,rfl⟩;refine A7 ?_
    skip
    refine A6 (.q 0 (.q 1 (.q 2 (.q 3 (.q 4 (.q 5 (.q 6 (.q 7 (.q 8 (.q 9 (.q 10 (.q 11 (.q 12 (.q 13 (.l 14 .b .nil))))))))))))))) [] rfl (by kernel_rfl) selZ ?_
    refine Ad1 ?_;refine Ady ?_;refine Adj ?_;refine D9 ?_;refine CM ?_;refine D7 ?_; rintro _ _ ⟨rfl,rfl⟩;refine A7 ?_;refine Aa2 ?_
    refine AT (k+1) (by omega) (by omega) covZ ?_
    rw [hnet,hE]
    rw [show fval f (l.take k) (fl.take k)+fl[k]=E.getD f 0+fl[k] from by omega]
    rw [show fval t' (l.take k) (fl.take k)-fl[k]=(E.set f (E.getD f 0+fl[k])).getD t' 0-fl[k] from by rw [e3]; omega]
    exact selZ
  obtain rfl:k=l.length:=by omega
  rw [List.take_length,List.take_of_length_le (by omega)]
  generalize hE:netL n l fl=E
  have hEl:E.length=n:=by rw [← hE,netL_len]
  refine Aci ?_;refine Acv ?_
  refine BA [0,1,2,3,4,14] (0:Nat) (fun k=>k≤n∧∀ v:Nat,v<k→(v:Int)=s∨(v:Int)=t∨fval v l fl=0) (fun k=>[(16,int k)]) (fun _=>[sng b (.cells (ints E) 3 (0,0))]) (fun k=>n-k) pickZ ⟨by omega,by simp⟩ covZ selZ ?_
  rintro k ⟨hk,hz⟩
  by_cases hlt:k<n
  · have e1:E.getD k 0=(fval k l fl):=by rw [← hE,netL_get (by omega)]
    repeat' (first
      | (refine AB ?_)
      | (refine AD ?_)
      | (refine AF ?_)
      | (refine BR ?_)
      | (refine AR ?_)
      | (refine AN ?_)
      | (refine A9 ?_)
      | (refine BD ?_)
      | (refine AC ?_)
      | (refine AA ?_)
      | (refine AE ?_)
      | (refine AM ?_)
      | (refine A2 ?_)
      | (refine AJ ?_)
      | (refine AL rfl ?_)
      | (refine AK rfl ?_)
      | (refine AH rfl rfl rfl ?_)
      | (focus ((refine CU rfl rfl (cmp_ne _ _) rfl rfl (fun h=>?_) (fun h=>?_))))
      | fail)
    all_goals first
      | (refine AT (k+1) ⟨by omega,fun v hv=>?_⟩ (by omega) covZ selZ
         rcases Nat.lt_or_ge v k with hv'|hv'
         · exact hz v hv'
         · obtain rfl:v=k:=by omega
           omega)
      | (refine AO (res2 rfl rfl rfl) rsubZ selZ ⟨rfl,?_⟩
         have hb:=balanced_not (l:=l) (fl:=fl) (s:=s) (t:=t) hlt (by omega) (by omega) (by omega)
         unfold valueSpec
         rw [if_neg (by rw [hc]; simp),if_neg (by rw [he]; simp),if_neg (by simpa using hfl),if_neg (by rw [hy]; simp),Int.toNat_natCast,if_pos hb])
  · obtain ⟨s',rfl⟩:=Int.eq_ofNat_of_zero_le s1
    have e1:E.getD s' 0=(fval s' l fl):=by rw [← hE,netL_get (by omega)]
    refine Aav ?_;refine Abv ?_;refine Aay ?_;refine Adf ?_;refine Aal ?_;refine AO (res2 rfl rfl rfl) rsubZ selZ ⟨rfl,?_⟩
    have hb:=balanced_of (n:=n) (l:=l) (fl:=fl) (s:=s') (t:=t) (fun v hv=>hz v (by omega))
    unfold valueSpec
    rw [if_neg (by rw [hc]; simp),if_neg (by rw [he]; simp),if_neg (by simpa using hfl),if_neg (by rw [hy]; simp),Int.toNat_natCast,if_neg (by rw [hb]; simp),e1]
theorem OwnS.row {α:Type} {enc:α→List Value} {s:Nat} (he:∀ x,(enc x).length=s) {e:TypeId} {b n cap:Nat} {l:List α} {ρ:PH} (h:OwnS e s (.slice (some ⟨b,0,none⟩) n cap) l.length (l.flatMap enc) ρ) {i:Nat} {x:α} (hx:l[i]?=some x):RdN ρ b (0+i*s) (enc x):=by
 have hS:SlE enc s ρ (.slice (some ⟨b,0,none⟩) n cap) l:=h.at
 obtain ⟨p,c,e1,hr⟩:=hS.val he
 simp only [Value.slice.injEq] at e1
 obtain ⟨b',o',e2,h2⟩:=hr i x hx
 rw [← e1.1] at e2;simp only [Option.some.injEq,Addr.mk.injEq,and_true] at e2
 obtain ⟨rfl,rfl⟩:=e2
 exact h2
end Go.Proofs.YtjehnjhkcmobcaaGreat
namespace Go.Eng
variable {C:Cx} {D:List Deferred} {R H:List PH} {L:Env} {K:List It}
theorem D3 {P:PH→Prop} {σ χ:PH} {H':List PH} (hσ:Mem σ R) (t:Take χ H H') (h:P σ∨P χ) (k:∀ σ',P σ'→JK C D (σ'::R) H' L K):JK C D R H L K:=by
  rcases h with h|h
  · refine ⟨fun a w hf hd hs=>(k σ h).run a w hf hd ?_⟩
    have h1:=(hs.take t).tail
    refine ⟨h1.sz,fun ρ hρ=>?_,h1.h,h1.hd,fun ρ hρ=>?_⟩
    · simp at hρ
      rcases hρ with rfl|hρ
      · exact h1.r _ hσ.mem
      · exact h1.r ρ hρ
    · simp at hρ
      rcases hρ with rfl|hρ
      · exact h1.rd _ hσ.mem
      · exact h1.rd ρ hρ
  · exact AW t (k χ h)
end Go.Eng
namespace Go.Eng
variable {C:Cx} {D:List Deferred} {R H:List PH} {L:Env} {K:List It}
theorem DF {σ:PH} (h:JK C D R H L K):JK C D (σ::R) H L K:=
  ⟨fun a w hf hd hs=>h.run a w hf hd ⟨hs.sz,fun ρ hρ=>hs.r ρ (List.mem_cons_of_mem _ hρ),hs.h,hs.hd,fun ρ hρ=>hs.rd ρ (List.mem_cons_of_mem _ hρ)⟩⟩
theorem OwnS.formC {e:TypeId} {s n:Nat} {v:Value} {xs:List Value} {ρ:PH} (h:OwnS e s v n xs ρ):∃ p c,v=.slice p n c∧n≤c:=by
  obtain ⟨_,⟨rfl,rfl,_⟩|⟨b,cap,cur,rfl,_,h1,_⟩⟩:=h
  · exact ⟨none,0,rfl,Nat.le_refl _⟩
  · exact ⟨_,cap,rfl,h1⟩
theorem cellsQ {N:Bs} {b:Nat} {xs ys:List Value} {t:TypeId} {fr:Nat × Nat} (m:Mem (sng b (.cells (xs ++ ys).toArray t fr)) H):Cells N R H b 0 xs:=fun w hs j v hv =>
  cells_own m w hs j v (by rw [List.getElem?_append_left (List.getElem?_eq_some_iff.1 hv).1]; exact hv)
theorem RdOK.consE {σ a b:PH} {R1:List PH} (h:σ=a∨σ=b) (ha:Mem a R) (hb:Mem b H) (rest:RdOK R1 R H):RdOK (σ::R1) R H:=by
  rcases h with rfl|rfl
  · exact RdOK.consR ha rest
  · exact RdOK.consH hb rest
theorem Sat.left_out {N:Bs} {w:World}:∀ {H':List PH},Sat N R (H' ++ H) w→Sat N R H w:=fun {H'} h =>
  ⟨h.sz,h.r,fun ρ hρ=>h.h ρ (List.mem_append.2 (.inr hρ)),(List.pairwise_append.1 h.hd).2.1,fun ρ hρ σ hσ=>h.rd ρ hρ σ (List.mem_append.2 (.inr hσ))⟩
theorem GK {Hf R1:List PH} {ps ls done:List Nat} {i d:Nat} {plan:Pl} {all:Array Oper} {f:Value} {vs:List Value} {x:Operand} {xs:Array Operand} {ts:Array TypeId} {ty:TypeId} {pos:String} {aft:Array Edge} {g:Option (Nat × Bool)} {post:Value→List PH→Prop} (ho:all[i]?=some ⟨some d,.call ⟨.value x,xs,ts⟩,ty,pos,aft,g⟩) (hs:Spec C.P f vs R1 [] post) (hf:evalE L x=some f) (ha:evalEs L xs.toList=some vs) (hr:RdOK R1 R H) (hg:wantE all L ⟨some d,.call ⟨.value x,xs,ts⟩,ty,pos,aft,g⟩=some true) (hM:Nat.blt d C.M=true)
    (h:∀ v H',post v H'→DJ C D R Hf (H' ++ H) ((d,v)::L) all (i::done) ps (i::ls) plan K):ActOK C D R Hf H L all done ps ls i .e plan K:=
  a_e ho (loud_call hs hf ha Takes.nil hr) hg rfl hM (fun v H' ⟨H1',e,hp⟩ w hw=>by subst e; exact hw.left_out) (fun v H' ⟨H1',e,hp⟩=>by subst e; exact h v H1' hp)
end Go.Eng
namespace Go.Proofs.YtjehnjhkcmobcaaGreat
open Go.Eng Go.Step
set_option maxRecDepth 100000
set_option maxHeartbeats 64000000
theorem ones_I (l:List Int):∀ u∈l.flatMap Eng.encI,u.oneCell'=true:=by
 intro u hu
 obtain ⟨x,_,hx⟩:=List.mem_flatMap.1 hu
 simp [Eng.encI] at hx
 subst hx
 rfl
theorem times54_spec (ρ τ ω:PH) (pq pc:Option Addr) (kq kc:Nat) (qs:List Int) (cs:List Ct) (hc:CtAt τ (.slice pc cs.length kc) cs) (v:Value) (l:List Sh) (n:Int) (hv:ShAt ω v l) (hll:l.length≤1000000) (hok:∀ x∈l,ShB cs x) :
  Makes Tryz.prog (fv 114) [.agg #[.slice pq qs.length kq,.slice pc cs.length kc],v,int n] [τ,ω] (fun r σ=>OwnS 3 1 r (evtN cs n l).length ((evtN cs n l).flatMap Eng.encI) σ):=by
 obtain ⟨q,cc,rfl,hr⟩:=hv.val encX_len
 have hrc:=rowN encC_len hc
 refine spec_in (cap:=[]) Tryz.func114 rfl rfl Tryz.ntmps114 rfl envZ (fun N β=>?_)
 refine Aa ?_;refine BH (BO rfl) rfl rfl rfl ?_;rintro _ _ ⟨b3,rfl,rfl⟩;refine AW (ρ:=sng b3 _) takeZ ?_
 have cp:=rdB b3 25 [.slice pq qs.length kq,.slice pc cs.length kc]
 have cp0:=rdC cp 0
 have cp1:=rdC cp 1
 refine Afa ?_;refine AZ ?_; rintro _ _ ⟨b,rfl,rfl⟩;refine Afa ?_;refine AZ ?_; rintro _ _ ⟨b,rfl,rfl⟩;refine Adt ?_
 rename_i bu
 revert b; intro ba
 refine BA [1,2,3] (X:=Nat × List Int × Value × PH) (0,[],.slice (some ⟨ba,0,none⟩) 0 0,sng ba (.cells #[] 3 (0,0))) (fun x=>x.1≤l.length∧(∀ t,t∈x.2.1↔t∈evsN cs n (l.take x.1))∧x.2.1.length≤2*x.1∧OwnS 3 1 x.2.2.1 x.2.1.length (x.2.1.flatMap Eng.encI) x.2.2.2) (fun x=>[(9,int x.1),(8,x.2.2.1),(7,.slice (some ⟨bu,0,none⟩) 0 0)]) (fun x=>[sng bu (.cells #[] 3 (0,0)),x.2.2.2]) (fun x=>l.length-x.1) pickZ ⟨by dsimp only; omega,by intro t; rfl,by simp,OwnS.empty⟩ covZ selZ ?_
 rintro ⟨k,A,ua,σa⟩ ⟨hk,hA,hAl,hO⟩
 dsimp only at hk hA hAl hO ⊢
 by_cases hlt:k<l.length
 ·have hx:=List.getElem?_eq_getElem hlt
  obtain ⟨y,y1,y2,y3,y4,y5,y6⟩:=hok _ (List.getElem_mem hlt)
  have hnx:=evs_next cs n hx hA
  obtain ⟨b6,o6,rfl,hrx,x0,x1,x2⟩:=shRow hr hx
  generalize l[k]=x at hx y1 y2 y3 y4 y5 hnx hrx x0 x1 x2
  obtain ⟨i,hi⟩:=Int.eq_ofNat_of_zero_le y3.1
  rw [hi,Int.toNat_natCast] at y1
  obtain ⟨b9,o9,ec,hrd9⟩:=ctRow hrc y1
  have harr:arrOf cs x=x.t+1+y.g:=by unfold arrOf; rw [y2]
  rw [y2,harr] at hnx
  obtain ⟨xc,xt,xn⟩:=x
  dsimp only at hi y3 y4 y5 hnx hrx x0 x1 x2
  subst hi;subst ec;refine Ad9 ?_
  refine DR (X:=Nat) [1,2,3,7,8,9] (fun _=>True) (fun x=>[(10,.pointer (some ⟨x,0,none⟩))]) (fun x=>[sng x (.cells #[int y.f,int y.t,int y.s,int y.e,int y.r,int y.g,int y.l] 114 (0,0)),sng bu (.cells #[] 3 (0,0)),σa]) pickZ ?_ ?_
  ·refine A6 (.q 0 (.q 1 (.q 2 (.q 3 (.q 4 (.q 5 (.q 6 (.q 7 (.q 8 (.l 9 .e (.l 10 .b .nil))))))))))) [] rfl (by kernel_rfl) Sel.nil ?_
   refine Aau ?_;refine Agk ?_;refine BB ?_;refine BJ ?_;refine C5 ?_; rintro _ _ ⟨b,rfl,rfl⟩
   focus ((refine C3 ?_))
   refine A7 ?_;exact B5 _ trivial covZ selZ
  rintro b11 _
  try dsimp only
  by_cases a1:y.t=n
  ·rw [if_pos a1] at hnx
   refine AC ?_;refine Aey ?_;refine Aag ?_
   refine DR (X:=Value × PH) [1,2,3,7,9,10] (fun x=>OwnS 3 1 x.1 (A ++ [xt+1+y.g]).length ((A ++ [xt+1+y.g]).flatMap Eng.encI) x.2) (fun x=>[(8,x.1)]) (fun x=>[sng b11 (.cells #[int y.f,int y.t,int y.s,int y.e,int y.r,int y.g,int y.l] 114 (0,0)),sng bu (.cells #[] 3 (0,0)),x.2]) pickZ ?_ ?_
   ·refine A6 (.q 0 (.q 1 (.q 2 (.q 3 (.q 4 (.q 5 (.q 6 (.q 7 (.q 8 (.q 9 (.l 10 .e (.l 11 .b (.l 12 .b .nil))))))))))))) [] rfl (by kernel_rfl) Sel.nil ?_
    refine Ad1 ?_;refine Ag4 ?_;refine BF ?_; rintro _ _ ⟨b,rfl,rfl⟩
    refine CF (a_b rfl (BI (by_:=8) (s:=1) (news:=[int (xt+1+y.g)]) rfl rfl rfl rfl rfl rfl rfl hO takeZ (cells_own memZ) rfl oneZ (by omega) (by simp only [maxLen]; omega) (by omega)) rfl rfl rfl (fun _ _ _ w hw=>hw.sel Sel.nil) ?_)
    rintro u1 _ ⟨σ1,hO1,rfl⟩;refine Agy ?_
    exact B5 (u1,σ1) (by dsimp only; rw [List.length_append,List.flatMap_append]; exact hO1) covZ selZ
   rintro ⟨u1,σ1⟩ hO1
   dsimp only at hO1 ⊢
   have hA1l:(A ++ [xt+1+y.g]).length=A.length+1:=by simp
   by_cases c1:y.f=n
   ·rw [if_pos c1,← List.append_assoc] at hnx
    refine Aey ?_;refine Aag ?_;refine Af7 ?_;refine AZ ?_; rintro _ _ ⟨b,rfl,rfl⟩
    refine BH (BI (by_:=8) (s:=1) (news:=[int xt]) rfl rfl rfl rfl rfl rfl rfl hO1 takeZ (cells_own memZ) rfl oneZ (by omega) (by simp only [maxLen]; omega) (by omega)) rfl rfl rfl ?_
    rintro u2 _ ⟨σ2,hO2,rfl⟩;refine Adb ?_
    refine AT (k+1,(A ++ [xt+1+y.g]) ++ [xt],u2,σ2) ⟨by dsimp only; omega,hnx,by dsimp only; rw [List.length_append,hA1l]; simp; omega,by dsimp only; rw [List.length_append,List.flatMap_append]; exact hO2⟩ (by dsimp only; omega) covZ selZ
   ·rw [if_neg c1,List.append_nil] at hnx
    refine Af3 ?_;refine Aa2 ?_
    exact AT (k+1,A ++ [xt+1+y.g],u1,σ1) ⟨by dsimp only; omega,hnx,by dsimp only; omega,hO1⟩ (by dsimp only; omega) covZ selZ
  ·rw [if_neg a1,List.nil_append] at hnx
   by_cases c1:y.f=n
   ·rw [if_pos c1] at hnx
    refine AC ?_;refine Af3 ?_;refine Aey ?_;refine Aag ?_;refine Af7 ?_;refine AZ ?_; rintro _ _ ⟨b,rfl,rfl⟩
    refine BH (BI (by_:=8) (s:=1) (news:=[int xt]) rfl rfl rfl rfl rfl rfl rfl hO takeZ (cells_own memZ) rfl oneZ (by omega) (by simp only [maxLen]; omega) (by omega)) rfl rfl rfl ?_
    rintro u2 _ ⟨σ2,hO2,rfl⟩;refine Adb ?_
    refine AT (k+1,A ++ [xt],u2,σ2) ⟨by dsimp only; omega,hnx,by dsimp only; rw [List.length_append]; simp; omega,by dsimp only; rw [List.length_append,List.flatMap_append]; exact hO2⟩ (by dsimp only; omega) covZ selZ
   ·rw [if_neg c1,List.append_nil] at hnx
    refine AC ?_;refine Af3 ?_;refine Af3 ?_;refine Aa2 ?_
    exact AT (k+1,A,ua,σa) ⟨by dsimp only; omega,hnx,by dsimp only; omega,hO⟩ (by dsimp only; omega) covZ selZ
 have hke:k=l.length:=by omega
 rw [hke,List.take_length] at hA
 have hAb:A.length≤2000000:=by omega
 clear hAl;refine Aci ?_;refine Aap ?_
 refine BA [1,2,3] (X:=(List Int × Value × PH) × (List Int × Value × PH)) (([],.slice (some ⟨bu,0,none⟩) 0 0,sng bu (.cells #[] 3 (0,0))),(A,ua,σa)) (fun x=>TmsI (evsN cs n l) x.1.1 x.2.1∧x.1.1.length+x.2.1.length≤2000000∧OwnS 3 1 x.1.2.1 x.1.1.length (x.1.1.flatMap Eng.encI) x.1.2.2∧OwnS 3 1 x.2.2.1 x.2.1.length (x.2.1.flatMap Eng.encI) x.2.2.2) (fun x=>[(7,x.1.2.1),(8,x.2.2.1)]) (fun x=>[x.1.2.2,x.2.2.2]) (fun x=>x.2.1.length) pickZ ⟨TmsI.start hA,by dsimp only; simp; omega,OwnS.empty,hO⟩ covZ selZ ?_
 clear hO hA hAb;rintro ⟨⟨O,uo,σo⟩,⟨A,ua,σa⟩⟩ ⟨hT,hlen,hO,hA⟩
 dsimp only at hT hlen hO hA ⊢
 by_cases hz:A.length=0
 ·have hAe:A=[]:=List.eq_nil_of_length_eq_zero hz
  obtain ⟨pa,ka,rfl⟩:=hA.form
  rw [hz];subst hAe
  have hOe:=hT.done
  subst hOe;refine Abg ?_;refine B7 ?_;refine Aa7 ?_;refine Aca ?_;exact AO (res1 rfl rfl) rsubZ selZ ⟨σo,hO,rfl⟩
 obtain ⟨pa,ka,rfl,hcap⟩:=hA.formC
 have hIA:IntsAt σa (.slice pa A.length ka) A:=hA.at
 have hra:=rowN Eng.encI_len hIA
 refine AW (ρ:=σa) takeZ ?_;refine Abg ?_;refine CT ?_;refine Aag ?_;refine Ae8 ?_;refine Af5 ?_
 refine BA [1,2,3,7,8] (X:=Nat × Nat) (1,0) (fun x=>1≤x.1∧x.1≤A.length∧x.2<x.1∧∃ m,A[x.2]?=some m∧∀ y∈A.take x.1,m≤y) (fun x=>[(12,int x.1),(11,int x.2)]) (fun _=>[σo]) (fun x=>A.length-x.1) pickZ ⟨by dsimp only; omega,by dsimp only; omega,by dsimp only; omega,?_⟩ covZ selZ ?_
 ·have h0:0<A.length:=by omega
  refine ⟨A[0],List.getElem?_eq_getElem h0,fun y hy=>?_⟩
  dsimp only at hy
  rw [List.take_succ_eq_append_getElem h0] at hy
  simp at hy
  omega
 rintro ⟨i,j⟩ ⟨hi1,hi,hji,m,hm,hle⟩
 dsimp only at hi1 hi hji hm hle ⊢
 obtain ⟨bj,oj,rfl,gj⟩:=hra.int hm
 by_cases hil:i<A.length
 ·have hx:=List.getElem?_eq_getElem hil
  obtain ⟨bi,oi,ei,gi⟩:=hra.int hx
  simp only [Option.some.injEq,Addr.mk.injEq,and_true] at ei
  obtain ⟨rfl,rfl⟩:=ei
  have htk:A.take (i+1)=A.take i ++ [A[i]]:=List.take_succ_eq_append_getElem hil
  generalize A[i]=z at hx gi htk
  by_cases hzm:z<m
  ·refine AC ?_
   refine Aea ?_;refine Agi ?_
   refine A6 P7Z [] rfl (by kernel_rfl) selZ ?_
   refine Adj ?_;refine Adj ?_;refine D6 ?_;refine Ab5 ?_;refine Ade ?_;refine Adb ?_
   refine AT (i+1,i) ⟨by dsimp only; omega,by dsimp only; omega,by dsimp only; omega,z,hx,fun y hy=>?_⟩ (by dsimp only; omega) covZ selZ
   dsimp only at hy
   rw [htk] at hy
   rcases List.mem_append.1 hy with hy|hy
   ·have:=hle y hy; omega
   ·simp at hy; omega
  ·refine AC ?_
   refine Aea ?_;refine Agi ?_
   refine A6 P7Z [] rfl (by kernel_rfl) selZ ?_
   refine Adj ?_;refine Adj ?_;refine DK ?_;refine Aee ?_
   refine AT (i+1,j) ⟨by dsimp only; omega,by dsimp only; omega,by dsimp only; omega,m,hm,fun y hy=>?_⟩ (by dsimp only; omega) covZ selZ
   dsimp only at hy
   rw [htk] at hy
   rcases List.mem_append.1 hy with hy|hy
   ·exact hle y hy
   ·simp at hy; omega
 have hie:i=A.length:=by omega
 rw [hie,List.take_length] at hle
 have hst:=hT.step hm hle
 have hjl:j<A.length:=by omega
 have hlo:SlE Eng.encI 1 σa (.slice (cutP (some ⟨bj,oj,none⟩) ka 0 1) j ka) (A.take j):=slE_hi Eng.encI_len hIA hcap (by omega)
 have hhi:SlE Eng.encI 1 σa (.slice (cutP (some ⟨bj,oj,none⟩) ka (j+1) 1) (A.length-(j+1)) (ka-(j+1))) (A.drop (j+1)):=slE_lo Eng.encI_len hIA hcap (by omega) rfl
 have hl1:(A.take j).length=j:=by rw [List.length_take]; omega
 have hl2:(A.drop (j+1)).length=A.length-(j+1):=by rw [List.length_drop]
 have hb:∃ b:Bool,b=decide (O=[]∨O.getD (O.length-1) 0≠m):=⟨_,rfl⟩
 obtain ⟨bb,hbb⟩:=hb
 refine Aci ?_;refine Acp ?_
 refine DR (X:=Unit) [1,2,3,7,8,11] (fun _=>True) (fun _=>[(92,.bool bb)]) (fun _=>[σo]) pickZ ?_ ?_
 ·rcases List.eq_nil_or_concat O with hOn|⟨pre,b,hOc⟩
  ·obtain ⟨po,ko,rfl⟩:=hO.form
   have hOz:O.length=0:=by rw [hOn]; rfl
   rw [decide_eq_true (.inl hOn)] at hbb;subst hbb
   refine A6 P2Z [] rfl (by kernel_rfl) selZ ?_
   refine AI ?_;refine CZ ?_;refine DP ?_;refine Af8 ?_;refine AS rfl rfl rfl rfl rfl ?_;refine BG ?_;refine A7 ?_;exact B5 () trivial covZ selZ
  ·rw [List.concat_eq_append] at hOc
   have hOp:0<O.length:=by rw [hOc]; simp
   obtain ⟨bo,ko,rfl⟩:=hO.formP hOp
   have hbl:O[O.length-1]?=some b:=by rw [hOc]; simp
   have hne:O≠[]:=by rw [hOc]; simp
   have hgd:O.getD (O.length-1) 0=b:=by rw [List.getD_eq_getElem?_getD,hbl]; rfl
   have hrb:=OwnS.row Eng.encI_len hO hbl
   have g0:rdc σo bo (0+(O.length-1)*1)=some (int b):=hrb.get0
   rw [Nat.mul_one,Nat.zero_add] at g0
   by_cases hbm:b=m
   ·rw [decide_eq_false (fun h=>by rcases h with h|h; exact hne h; exact h (hgd.trans hbm))] at hbb
    subst hbb
    refine A6 P2Z [] rfl (by kernel_rfl) selZ ?_
    refine AI ?_;refine CZ ?_;refine C7 ?_;refine Ab3 ?_;refine CZ ?_;refine BQ ?_;refine Ady ?_;refine Adj ?_;refine EV ?_;refine BM ?_;refine A7 ?_;exact B5 () trivial covZ selZ
   ·rw [decide_eq_true (.inr (fun h=>hbm (hgd.symm.trans h)))] at hbb
    subst hbb
    refine A6 P2Z [] rfl (by kernel_rfl) selZ ?_
    refine AI ?_;refine CZ ?_;refine C7 ?_;refine Ab3 ?_;refine CZ ?_;refine BQ ?_;refine Ady ?_;refine Adj ?_;refine GR ?_;refine BM ?_;refine A7 ?_;exact B5 () trivial covZ selZ
 rintro _ _
 try dsimp only
 by_cases hc:O=[]∨O.getD (O.length-1) 0≠m
 ·rw [decide_eq_true hc] at hbb
  subst hbb
  have hnx:nextT O m=O ++ [m]:=by unfold nextT; rw [if_pos hc]
  refine AL rfl ?_;refine Ac8 ?_;refine Acb ?_;refine AZ ?_; rintro _ _ ⟨b,rfl,rfl⟩
  refine BH (BI (by_:=8) (s:=1) (news:=[int m]) rfl rfl rfl rfl rfl rfl rfl hO takeZ (cells_own memZ) rfl oneZ (by omega) (by simp only [maxLen]; omega) (by omega)) rfl rfl rfl ?_
  rintro u9 _ ⟨σ9,hO9,rfl⟩
  replace hO9:OwnS 3 1 u9 (O ++ [m]).length ((O ++ [m]).flatMap Eng.encI) σ9:=by rw [List.length_append,List.flatMap_append]; exact hO9
  refine Aaa ?_
  refine DR (X:=Value × PH) [1,2,3,7] (fun x=>OwnS 3 1 x.1 (A.take j ++ A.drop (j+1)).length ((A.take j ++ A.drop (j+1)).flatMap Eng.encI) x.2) (fun x=>[(8,x.1)]) (fun x=>[σ9,x.2]) pickZ ?_ ?_
  ·refine A6 (.q 1 (.q 2 (.q 3 (.p 5 (.p 6 (.p 7 (.p 8 (.l 0 .e (.l 4 .b (.l 9 .b (.l 10 .b .nil))))))))))) [σ9] rfl (by kernel_rfl) selZ ?_
   refine Aan ?_;refine FZ ?_;refine DO ?_;refine DO ?_;refine G3 ?_;refine ED ?_;refine BF ?_; rintro _ _ ⟨b,rfl,rfl⟩
   refine CF (a_b rfl (C4 (by_:=8) (s:=1) (σ:=σa) (w0:=.slice (cutP (some ⟨bj,oj,none⟩) ka 0 1) j ka) (news:=(A.take j).flatMap Eng.encI) (m:=(A.take j).length) rfl rfl rfl rfl rfl rfl rfl OwnS.empty takeZ hlo (fun b o h=>cellsR h memZ) (ones_I _) (by rw [hl1]; simp only [maxLen]; omega) (by rw [hl1]; omega)) rfl rfl rfl (fun v H' hp w hw=>by obtain ⟨_,_,rfl⟩:=hp; exact hw.sel selZ) ?_)
   rintro u3 _ ⟨σ3,hO3,rfl⟩
   refine CF (a_b rfl (C4 (by_:=8) (s:=1) (σ:=σa) (w0:=.slice (cutP (some ⟨bj,oj,none⟩) ka (j+1) 1) (A.length-(j+1)) (ka-(j+1))) (news:=(A.drop (j+1)).flatMap Eng.encI) (m:=(A.drop (j+1)).length) rfl rfl rfl rfl rfl rfl rfl hO3 takeZ hhi (fun b o h=>cellsR h memZ) (ones_I _) (by rw [hl1,hl2]; simp only [maxLen]; omega) (by rw [hl1,hl2]; omega)) rfl rfl rfl (fun v H' hp w hw=>by obtain ⟨_,_,rfl⟩:=hp; exact hw.sel selZ) ?_)
   rintro u4 _ ⟨σ4,hO4,rfl⟩;refine Agy ?_;refine B5 (u4,σ4) ?_ covZ selZ
   dsimp only
   rw [List.length_append,List.flatMap_append];rw [List.nil_append,Nat.zero_add] at hO4;exact hO4
  rintro ⟨u4,σ4⟩ hO4
  try dsimp only at hO4 ⊢
  refine A2 ?_;refine DF ?_
  refine AT ((nextT O m,u9,σ9),(A.take j ++ A.drop (j+1),u4,σ4)) ⟨hst,?_,?_,hO4⟩ (by dsimp only; rw [List.length_append,hl1,hl2]; omega) covZ selZ
  ·dsimp only
   rw [hnx];simp only [List.length_append,List.length_singleton,hl1,hl2];omega
  ·dsimp only
   rw [hnx];exact hO9
 ·rw [decide_eq_false hc] at hbb
  subst hbb
  have hnx:nextT O m=O:=by unfold nextT; rw [if_neg hc]
  have hO9:=hO
  refine Abd ?_
  refine DR (X:=Value × PH) [1,2,3,7] (fun x=>OwnS 3 1 x.1 (A.take j ++ A.drop (j+1)).length ((A.take j ++ A.drop (j+1)).flatMap Eng.encI) x.2) (fun x=>[(8,x.1)]) (fun x=>[σo,x.2]) pickZ ?_ ?_
  ·refine A6 (.q 1 (.q 2 (.q 3 (.p 5 (.p 6 (.p 7 (.p 8 (.l 0 .e (.l 4 .b (.l 9 .b (.l 10 .b .nil))))))))))) [σo] rfl (by kernel_rfl) selZ ?_
   refine Aan ?_;refine FZ ?_;refine DO ?_;refine DO ?_;refine G3 ?_;refine ED ?_;refine BF ?_; rintro _ _ ⟨b,rfl,rfl⟩
   refine CF (a_b rfl (C4 (by_:=8) (s:=1) (σ:=σa) (w0:=.slice (cutP (some ⟨bj,oj,none⟩) ka 0 1) j ka) (news:=(A.take j).flatMap Eng.encI) (m:=(A.take j).length) rfl rfl rfl rfl rfl rfl rfl OwnS.empty takeZ hlo (fun b o h=>cellsR h memZ) (ones_I _) (by rw [hl1]; simp only [maxLen]; omega) (by rw [hl1]; omega)) rfl rfl rfl (fun v H' hp w hw=>by obtain ⟨_,_,rfl⟩:=hp; exact hw.sel selZ) ?_)
   rintro u3 _ ⟨σ3,hO3,rfl⟩
   refine CF (a_b rfl (C4 (by_:=8) (s:=1) (σ:=σa) (w0:=.slice (cutP (some ⟨bj,oj,none⟩) ka (j+1) 1) (A.length-(j+1)) (ka-(j+1))) (news:=(A.drop (j+1)).flatMap Eng.encI) (m:=(A.drop (j+1)).length) rfl rfl rfl rfl rfl rfl rfl hO3 takeZ hhi (fun b o h=>cellsR h memZ) (ones_I _) (by rw [hl1,hl2]; simp only [maxLen]; omega) (by rw [hl1,hl2]; omega)) rfl rfl rfl (fun v H' hp w hw=>by obtain ⟨_,_,rfl⟩:=hp; exact hw.sel selZ) ?_)
   rintro u4 _ ⟨σ4,hO4,rfl⟩;refine Agy ?_;refine B5 (u4,σ4) ?_ covZ selZ
   dsimp only
   rw [List.length_append,List.flatMap_append];rw [List.nil_append,Nat.zero_add] at hO4;exact hO4
  rintro ⟨u4,σ4⟩ hO4
  try dsimp only at hO4 ⊢
  refine A2 ?_;refine DF ?_
  refine AT ((nextT O m,uo,σo),(A.take j ++ A.drop (j+1),u4,σ4)) ⟨hst,?_,?_,hO4⟩ (by dsimp only; rw [List.length_append,hl1,hl2]; omega) covZ selZ
  ·dsimp only
   rw [hnx];simp only [List.length_append,hl1,hl2];omega
  ·dsimp only
   rw [hnx];exact hO9
end Go.Proofs.YtjehnjhkcmobcaaGreat
