/- Texts of this proof, one after the other; no conditions. -/
import Derived.Lib.LazyBuf
import Derived.Laws.StructEq
import Derived.ProofKit
import Derived.Deep.Slices
import Derived.Lib.SmallJoins
import Derived.Test.YtjehnjhkcmobcaaGreatWB1
set_option linter.all false
/- In a region that draws: an act behind which nothing is open. No conditions. -/
namespace Go.Eng
variable {C:Cx} {D:List Deferred} {R Hf H:List PH} {L:Env} {K:List It} {ps ls:List Nat}
theorem a_full {all:Array Oper} {done:List Nat} {i:Nat} {rest:Pl} {o:Oper} {post:Value→List PH→Prop} {L':Value→Env} {Hf':List PH} (ho:all[i]?=some o) (hl:Loud C R H L o post) (hg:wantE all L o=some true)
    (hL:(∃ d,o.dst=some d∧Nat.blt d C.M=true∧L'=fun v=>(d,v)::L)∨(o.dst=none∧L'=fun _=>L))
    (hfull:((done.all fun j=>(closeP all (all.size*all.size) (predsOf all i ++ ls) []).contains j) && ls.all (fun j=>Nat.blt j all.size))=true)
    (hsub:∀ v H',post v H'→∀ w,Sat C.N R H' w→Sat C.N R Hf' w)
    (h:∀ v H',post v H'→DJ C D R Hf' H' (L' v) all (i::done) ps (i::ls) rest K):ActOK C D R Hf H L all done ps ls i .b rest K:=by
  intro hlo hpl hrd fuel listed a w hinv hm
  simp only [loudOK] at hlo
  obtain ⟨k1,k2,k3⟩:=mem_readyL.1 hrd
  have hms:i<listed.size:=by rw [hinv.size]; exact k1
  have hrdy:=(mem_ready.1 hm).2.2
  have bnd:∀ j,listed.getD j false=true→j<all.size∧isL listed j:=fun j hlj=>by
    have hjs:j<all.size:=by
      rw [← hinv.size]
      cases hb:listed[j]? with
      | none=>simp [Array.getD_eq_getD_getElem?,hb] at hlj
      | some b=>exact (Array.getElem?_eq_some_iff.1 hb).1
    exact ⟨hjs,(getD_isL hinv.size hjs).1 hlj⟩
  have hall:∀ j∈done,isL listed j:=fun j hj=>by
    rw [Bool.and_eq_true,List.all_eq_true,List.all_eq_true] at hfull
    have h3:=hfull.1 j hj
    refine (close_sub (all:=all) (E:=fun j=>j<all.size∧isL listed j) (fun i hi=>hinv.dc i hi.1 hi.2) _ (predsOf all i ++ ls) [] (fun j hj=>?_) (by simp) j (by simpa using h3)).2
    rcases List.mem_append.1 hj with hj|hj
    · exact bnd j (hrdy j hj)
    · exact ⟨Nat.le_of_ble_eq_true (hfull.2 j hj),hinv.lds j hj⟩
  have hpend:∀ j∈done,¬ isL listed j→ps.contains j=true∧freshOK all [j] i=true∧dataOK all [j] i=true:=fun j hj hnj=>by
    rw [List.all_eq_true] at hlo
    have h3:=hlo j hj
    simp only [Bool.or_eq_true,Bool.and_eq_true] at h3
    rcases h3 with (h3|h3)|⟨⟨h3,h4⟩,h5⟩
    rotate_left
    · exact absurd (hinv.lds j (by simpa using h3)) hnj
    rotate_left
    · exact absurd (close_sub (all:=all) (E:=fun j=>j<all.size∧isL listed j) (fun i hi=>hinv.dc i hi.1 hi.2) _ (predsOf all i) [] (fun j hj=>bnd j (hrdy j hj)) (by simp) j (by simpa using h3)).2 hnj
    · exact ⟨h3,h4,h5⟩
  have hdata:∀ j∈done,¬ isL listed j→∀ d∈dstOf all j,d∉rdsOf all i:=fun j hj hnj d hd hr=>by
    have:=data_of (hpend j hj hnj).2.2 j (by simp) d hd hr
    exact hnj (bnd j (hrdy j this)).2
  have hon:∀ t∈readsOf all o,∀ v,look L t=some v→a.tmps.getD t undef=v:=fun t ht v hv=>by
    rcases hinv.get t v hv with hg'|⟨j,hj,hnj,hjt⟩
    · exact hg'
    · exact absurd (by unfold rdsOf; rw [ho]; exact ht) (hdata j hj hnj t hjt)
  obtain ⟨l1,l2,l3⟩:=hinv.listed hm
  unfold wpOpIn;rw [ho];simp only;rw [if_pos (want_of hg hon)]
  refine hl.run a w (onE_of hon) hinv.sat _ _ (fun v H' w' hp hs'=>(h v H' hp).run hpl _ _ _ _ ?_)
  have back:∀ j∈done,¬ isL (listed.setIfInBounds i true) j→¬ isL listed j:=fun j _ hn hl=>hn ((isL_set hms).2 (.inr hl))
  have cs:∀ j,j∈i::done→¬ isL (listed.setIfInBounds i true) j→j∈done:=fun j hj hn=>by
    simp at hj
    rcases hj with rfl|hj
    · exact absurd ((isL_set hms).2 (.inl rfl)) hn
    · exact hj
  have hlds:∀ j∈i::ls,isL (listed.setIfInBounds i true) j:=fun j hj=>by
    simp at hj
    rcases hj with rfl|hj
    · exact (isL_set hms).2 (.inl rfl)
    · exact (isL_set hms).2 (.inr (hinv.lds j hj))
  have hfr:∀ j∈done,¬ isL listed j→∀ d∈dstOf all i,d∉rdsOf all j∧d∉dstOf all j:=fun j hj hnj d hd=>(fresh_of (hpend j hj hnj).2.1 hd).2 j (by simp)
  refine ⟨l1,l2,fun j hj hlj=>?_,l3,?_,?_,hs',fun t u hu=>?_,fun j hj hnl=>?_,fun w hw=>hsub v H' hp w hw,hlds,fun j hj hnl k hk d' hd' hr=>?_,fun j hj hnl k hk hkj d' hd'=>?_,⟨k1,k3,hinv.chron⟩⟩
  · rcases (isL_set hms).1 hlj with rfl|hlj
    · simp
    · simp [hinv.sub j hj hlj]
  · have:=hinv.tm
    cases hd:o.dst <;> simpa [Act.put] using this
  · have:=hinv.df
    cases hd:o.dst <;> simpa [Act.put] using this
  · rcases hL with ⟨d,hd,hM,rfl⟩|⟨hd,rfl⟩
    · rw [hd]
      simp only at hu;rw [look_cons] at hu
      by_cases e:d=t
      · subst e
        simp only [if_true,Option.some.injEq] at hu; subst hu
        left
        simp [Act.put,hinv.tm,show d<C.M from Nat.le_of_ble_eq_true hM]
      · rw [if_neg e] at hu
        rcases hinv.get t u hu with hg'|⟨j,hj,hnj,hjt⟩
        · left; simpa [Act.put,Array.getD_eq_getD_getElem?,e] using hg'
        · right
          refine ⟨j,by simp [hj],fun hlj=>?_,hjt⟩
          rcases (isL_set hms).1 hlj with rfl|hlj
          · exact k2 hj
          · exact hnj hlj
    · rw [hd]
      simp only [Act.put] at hu ⊢
      rcases hinv.get t u hu with hg'|⟨j,hj,hnj,hjt⟩
      · exact .inl hg'
      · right
        refine ⟨j,by simp [hj],fun hlj=>?_,hjt⟩
        rcases (isL_set hms).1 hlj with rfl|hlj
        · exact k2 hj
        · exact hnj hlj
  · have hj':=cs j hj hnl
    have hnj:=back j hj' hnl
    exact absurd (hall j hj') hnj
  · have hj':=cs j hj hnl
    by_cases ek:k=i
    · subst ek
      exact absurd hr (hfr j hj' (back j hj' hnl) d' hd').1
    · exact hinv.data j hj' (back j hj' hnl) k (by simp at hk; exact hk.resolve_left ek) d' hd' hr
  · have hj':=cs j hj hnl
    by_cases ek:k=i
    · subst ek
      intro hdk
      exact (hfr j hj' (back j hj' hnl) d' hdk).2 hd'
    · exact hinv.uniq j hj' (back j hj' hnl) k (by simp at hk; exact hk.resolve_left ek) hkj d' hd'
section
variable {dst:Option Tmp} {ty:TypeId} {pos:String} {aft:Array Edge} {g:Option (Nat × Bool)}
theorem G1 {x y:Operand} {xT yT:TypeId} {j:Nat} (h1:evalE L x=some (.int .i64 (j:Int))) (h2:evalE L y=some (.int .i64 2)) (hr:j≤9223372036854775807):Quiet C R H L ⟨dst,.binOp .quo xT x y yT,ty,pos,aft,g⟩ (.int .i64 ((j / 2:Nat):Int)):=by
  have:=q_quo (C:=C) (R:=R) (H:=H) (dst:=dst) (ty:=ty) (pos:=pos) (aft:=aft) (g:=g) (xT:=xT) (yT:=yT) h1 h2 (by omega) (by omega) (by omega)
  rwa [show (j:Int) / 2=((j / 2:Nat):Int) from by omega] at this
theorem q_par {x y:Operand} {xT yT:TypeId} {j:Nat} (h1:evalE L x=some (.int .i64 (j:Int))) (h2:evalE L y=some (.int .i64 2)):Quiet C R H L ⟨dst,.binOp .rem xT x y yT,ty,pos,aft,g⟩ (.int .i64 ((j % 2:Nat):Int)):=by
  have:=q_rem (C:=C) (R:=R) (H:=H) (dst:=dst) (ty:=ty) (pos:=pos) (aft:=aft) (g:=g) (xT:=xT) (yT:=yT) h1 h2 (by omega) (by omega)
  rwa [show (j:Int) % 2=((j % 2:Nat):Int) from by omega] at this
theorem FP {x y:Operand} {t e:TypeId} {k1 k2:IntKind} {n:Nat} (hx:evalE L x=some (.int k1 (n:Int))) (hy:evalE L y=some (.int k2 (n:Int))) (ht:elemP C.P t=some e) (hs:szP C.P e=some 1) (hz:zeroP C.P e=some (.slice none 0 0)) (hb:bytesP C.P e=some 24)
    (hn:n≤9223372036854775807) (hby:24*n≤281474976710656) :
    Loud C R H L ⟨dst,.makeSlice t x y,ty,pos,aft,g⟩ (fun u H2=>∃ b,u=.slice (some ⟨b,0,none⟩) n n∧H2=sng b (.cells (List.replicate n (.slice none 0 0)).toArray e (0,0))::H):=by
  have:=FV (C:=C) (R:=R) (H:=H) (dst:=dst) (ty:=ty) (pos:=pos) (aft:=aft) (g:=g) hx hy ht hs hz hb hn hby
  rwa [show (Value.slice none 0 0).cells = #[.slice none 0 0] from rfl,Nat.mul_one,madeCells_one,← List.toArray_replicate] at this
end
theorem Take.left {ρ:PH} {A A':List PH} (B:List PH) (h:Take ρ A A'):Take ρ (A ++ B) (A' ++ B):=by
  induction h with
  | here=>exact Take.here
  | there _ ih=>exact Take.there ih
theorem Take.right {ρ:PH} {B B':List PH} (h:Take ρ B B'):∀ A:List PH,Take ρ (A ++ B) (A ++ B')
  | []=>h
  | _::A=>Take.there (Take.right h A)
theorem Take.perm {ρ:PH} {A A':List PH} (h:Take ρ A A'):A.Perm (ρ::A'):=by
  induction h with
  | here=>exact List.Perm.refl _
  | there _ ih=>exact (ih.cons _).trans (List.Perm.swap _ _ _)
theorem DD {H':List PH} (hp:H.Perm H') (h:JK C D R H' L K):JK C D R H L K:=
  ⟨fun a w hf hd hs=>h.run a w hf hd (hs.perm hp)⟩
theorem EH:∀ {A B:List PH},(∀ γ,(∀ ρ∈A,PH.sub ρ γ)→JK C D R (γ::B) L K)→JK C D R (A ++ B) L K
  | [],B,h=>BZ (h emp (by simp))
  | ρ::A,B,h=>by
    refine DD (H':=A ++ (ρ::B)) (by simpa using List.perm_middle.symm) (EH (fun γ hγ=>?_))
    refine DC (Take.there Take.here) Take.here (fun δ g1 g2=>h δ (fun σ hσ=>?_))
    simp at hσ
    rcases hσ with rfl|hσ
    · exact g1
    · exact (hγ σ hσ).trans g2
end Go.Eng
namespace Go.Eng
variable {C:Cx} {D:List Deferred} {R H:List PH} {L:Env} {K:List It}
theorem Upd.frame {N:Bs} {H H1 F:List PH} {w w':World} (hs:Sat N R (H ++ F) w) (u:Upd H H1 w w'):Upd (H ++ F) (H1 ++ F) w w' where
  size:=u.size
  keep:=fun b hb hno=>u.keep b hb (fun ρ hρ=>hno ρ (by simp [hρ]))
  own:=fun ρ hρ=>(hs.upd u).h ρ hρ
  hd:=(hs.upd u).hd
  new:=fun ρ hρ b hb=>by
    rcases List.mem_append.1 hρ with h|h
    · rcases u.new ρ h b hb with ⟨σ,hσ,h2⟩|h2
      · exact .inl ⟨σ,by simp [hσ],h2⟩
      · exact .inr h2
    · exact .inl ⟨ρ,by simp [h],hb⟩
theorem Spec.frame {P:Program} {f:Value} {args:List Value} {R H:List PH} {post:Value→List PH→Prop} (F:List PH) (h:Spec P f args R H post):Spec P f args R (H ++ F) (fun v H'=>∃ H1,H'=H1 ++ F∧post v H1):=by
  intro N w hs
  refine (h N w hs.left).mono ?_;rintro v w' ⟨H1,hp,hu⟩;exact ⟨H1 ++ F,⟨H1,rfl,hp⟩,hu.frame hs⟩
theorem Upd.perm {H H' H1 H1':List PH} {w w':World} (hp:H.Perm H') (hq:H1.Perm H1') (u:Upd H H1 w w'):Upd H' H1' w w' where
  size:=u.size
  keep:=fun b hb hno=>u.keep b hb (fun ρ hρ=>hno ρ (hp.mem_iff.1 hρ))
  own:=fun ρ hρ=>u.own ρ (hq.mem_iff.2 hρ)
  hd:=(hq.pairwise_iff (fun hd=>PH.disj.symm hd)).1 u.hd
  new:=fun ρ hρ b hb=>by
    rcases u.new ρ (hq.mem_iff.2 hρ) b hb with ⟨σ,hσ,h2⟩|h2
    · exact .inl ⟨σ,hp.mem_iff.1 hσ,h2⟩
    · exact .inr h2
theorem Spec.perm {P:Program} {f:Value} {args:List Value} {R H H':List PH} {post post':Value→List PH→Prop} (hp:H.Perm H') (h:Spec P f args R H post) (hq:∀ v H1,post v H1→∃ H2,H1.Perm H2∧post' v H2):Spec P f args R H' post':=by
  intro N w hs
  refine (h N w (hs.perm hp.symm)).mono ?_;rintro v w' ⟨H1,h1,hu⟩
  obtain ⟨H2,h2,h3⟩:=hq v H1 h1
  exact ⟨H2,h3,hu.perm hp h2⟩
theorem Takes.skips:∀ (A:List PH) {H T H':List PH},Takes H T H'→Takes (A ++ H) T (A ++ H')
  | [],_,_,_,h=>h
  | _::A,_,_,_,h=>Takes.skip (Takes.skips A h)
theorem erase_set_perm {α:Type}:∀ {A:List α} {i:Nat} (y:α),i<A.length→(A.set i y).Perm (y::A.eraseIdx i)
  | [],i,y,h=>by simp at h
  | a::A,0,y,_=>by simp
  | a::A,i+1,y,h=>by
    simp only [List.set_cons_succ,List.eraseIdx_cons_succ]
    exact ((erase_set_perm y (by simpa using h)).cons a).trans (List.Perm.swap _ _ _)
theorem erase_get_perm {α:Type}:∀ {A:List α} {i:Nat} {y:α},A[i]?=some y→A.Perm (y::A.eraseIdx i)
  | [],i,y,h=>by simp at h
  | a::A,0,y,h=>by simp at h; subst h; simp
  | a::A,i+1,y,h=>by
    simp only [List.eraseIdx_cons_succ]
    exact ((erase_get_perm (i:=i) (by simpa using h)).cons a).trans (List.Perm.swap _ _ _)
theorem GA:∀ (m:Nat),JK C D R (List.replicate m emp ++ H) L K→JK C D R H L K
  | 0,h=>h
  | m+1,h=>GA m (BZ (by simpa [List.replicate_succ] using h))
theorem FF (m:Nat) (h:JK C D R (H ++ List.replicate m emp) L K):JK C D R H L K:=
  GA m (DD (List.perm_append_comm) h)
end Go.Eng
namespace Go.Eng
variable {C:Cx} {D:List Deferred} {R H:List PH} {L:Env} {K:List It}
def elems {α:Type} (enc:α→List Value) (l:List α):Array Value:=(l.flatMap enc).toArray
theorem elems_size {α:Type} {enc:α→List Value} {s:Nat} (he:∀ x,(enc x).length=s) (l:List α):(elems enc l).size=l.length*s:=by simp [elems,flat_len he]
theorem flat_set {α:Type} {enc:α→List Value} {s:Nat} (he:∀ x,(enc x).length=s):∀ (l:List α) (i:Nat) (x:α),i<l.length→(l.set i x).flatMap enc=(l.flatMap enc).take (i*s) ++ enc x ++ (l.flatMap enc).drop (i*s+s)
  | [],i,x,h=>by simp at h
  | y::l,0,x,_=>by
    have:(enc y).length=s:=he y
    simp only [List.set_cons_zero,List.flatMap_cons,Nat.zero_mul,List.take_zero,List.nil_append,Nat.zero_add];rw [← this,List.drop_left]
  | y::l,i+1,x,h=>by
    have ih:=flat_set he l i x (by simpa using h)
    have hy:(enc y).length=s:=he y
    simp only [List.set_cons_succ,List.flatMap_cons]
    have e1:(i+1)*s=(enc y).length+i*s:=by rw [hy,Nat.add_mul]; omega
    have e2:(i+1)*s+s=(enc y).length+(i*s+s):=by rw [e1]; omega
    have h1:(enc y ++ l.flatMap enc).take ((enc y).length+i*s)=enc y ++ (l.flatMap enc).take (i*s):=by
      rw [List.take_append,List.take_of_length_le (l:=enc y) (by omega)]
      congr 2
      omega
    have h2:(enc y ++ l.flatMap enc).drop ((enc y).length+(i*s+s))=(l.flatMap enc).drop (i*s+s):=by
      rw [List.drop_append,List.drop_of_length_le (l:=enc y) (by omega),List.nil_append]
      congr 1
      omega
    rw [ih,e2,e1,h1,h2]
    simp
theorem slE_sng {α:Type} {enc:α→List Value} {s:Nat} (he:∀ x,(enc x).length=s) {b:Nat} {l:List α} {t:TypeId} {fr:Nat × Nat} {c:Nat}:SlE enc s (sng b (.cells (elems enc l) t fr)) (.slice (some ⟨b,0,none⟩) l.length c) l:=by
  refine ⟨flat_len he l,.inr ⟨b,0,c,rfl,fun j u hu=>?_⟩⟩
  rw [rdc_sng,Nat.zero_add]
  simpa [elems] using hu
section
variable {dst:Option Tmp} {ty:TypeId} {pos:String} {aft:Array Edge} {g:Option (Nat × Bool)}
theorem made_elems {α:Type} {enc:α→List Value} {s:Nat} {z:Value} {a:α} (hz:z.cells.toList=enc a) (he:(enc a).length=s):∀ n,madeCells z.cells (n*s)=elems enc (List.replicate n a):=by
  intro n
  have hs:z.cells.size=s:=by rw [← he,← hz]; simp
  apply Array.ext'
  have hl:∀ n,((List.replicate n a).flatMap enc).length=n*s:=fun n=>by
    induction n with
    | zero=>simp
    | succ n ih=>rw [List.replicate_succ,List.flatMap_cons,List.length_append,ih,he,Nat.add_mul]; omega
  have hget:∀ n j,j<n*s→((List.replicate n a).flatMap enc)[j]?=(enc a)[j % s]?:=fun n=>by
    induction n with
    | zero=>intro j h; simp at h
    | succ n ih =>
      intro j hj
      rw [List.replicate_succ,List.flatMap_cons]
      by_cases hjs:j<s
      · rw [List.getElem?_append_left (by omega),Nat.mod_eq_of_lt hjs]
      · have h3:j-s<n*s:=by rw [Nat.add_mul] at hj; omega
        rw [List.getElem?_append_right (by omega),he,ih (j-s) h3,← Nat.mod_eq_sub_mod (show j≥s by omega)]
  apply List.ext_getElem?
  intro j
  rw [Array.getElem?_toList,show (elems enc (List.replicate n a)).toList=(List.replicate n a).flatMap enc from by simp [elems]]
  by_cases hj:j<n*s
  · rw [hget n j hj]
    have h0:0<s:=by
      rcases Nat.eq_zero_or_pos s with h|h
      · rw [h] at hj; simp at hj
      · exact h
    have hm:j % s<z.cells.size:=by rw [hs]; exact Nat.mod_lt _ h0
    simp only [madeCells];rw [Array.getElem?_map,Array.getElem?_range,if_pos hj,← hz,Array.getElem?_toList]
    simp [hs,hm]
    rw [hs] at hm
    simp [hm,hs]
  · rw [List.getElem?_eq_none (by rw [hl]; omega)]
    rw [Array.getElem?_eq_none];rw [size_madeCells]; omega
theorem GB {α:Type} {enc:α→List Value} {x y:Operand} {t e:TypeId} {s by_:Nat} {z:Value} {k1 k2:IntKind} {n:Nat} (a:α) (hx:evalE L x=some (.int k1 (n:Int))) (hy:evalE L y=some (.int k2 (n:Int))) (ht:elemP C.P t=some e) (hs:szP C.P e=some s) (hz:zeroP C.P e=some z) (hb:bytesP C.P e=some by_)
    (hza:z.cells.toList=enc a) (hea:(enc a).length=s) (hn:n≤9223372036854775807) (hby:by_*n≤281474976710656) :
    Loud C R H L ⟨dst,.makeSlice t x y,ty,pos,aft,g⟩ (fun u H2=>∃ b,u=.slice (some ⟨b,0,none⟩) n n∧H2=sng b (.cells (elems enc (List.replicate n a)) e (0,0))::H):=by
  have:=FV (C:=C) (R:=R) (H:=H) (dst:=dst) (ty:=ty) (pos:=pos) (aft:=aft) (g:=g) hx hy ht hs hz hb hn hby
  rwa [made_elems hza hea] at this
theorem E5 {α:Type} {enc:α→List Value} {s:Nat} (he:∀ x,(enc x).length=s) {t T:TypeId} {x y:Operand} {b o:Nat} {l:List α} {a:α} {H':List PH} (i:Nat) (h:evalE L x=some (.pointer (some ⟨b,o,none⟩))) (ho:o=i*s) (hv:evalE L y=some (.agg (enc a).toArray)) (h1:∀ v∈enc a,v.oneCell'=true)
    (hn:szP C.P t=some s) (ht:Take (sng b (.cells (elems enc l) T (0,0))) H H') (hi:i<l.length) :
    Loud C R H L ⟨dst,.store t x y,ty,pos,aft,g⟩ (fun u H2=>u=undef∧H2=sng b (.cells (elems enc (l.set i a)) T (0,0))::H'):=by
  subst ho
  have hle:i*s+s≤l.length*s:=by
    have:=Nat.mul_le_mul_right s (show i+1≤l.length from hi)
    rw [Nat.add_mul] at this; omega
  have:=FU (C:=C) (R:=R) (L:=L) (dst:=dst) (ty:=ty) (pos:=pos) (aft:=aft) (g:=g) h hv h1 (by rw [he]; exact hn) ht (by rw [he,elems_size he]; exact hle)
  rw [he] at this
  have e:(elems enc l).toList=l.flatMap enc:=by simp [elems]
  rw [e,← flat_set he l i a hi] at this;exact this
theorem q_dbl {x y:Operand} {xT yT:TypeId} {j:Nat} (h1:evalE L x=some (.int .i64 2)) (h2:evalE L y=some (.int .i64 (j:Int))) (hr:j≤4611686018427387903):Quiet C R H L ⟨dst,.binOp .mul xT x y yT,ty,pos,aft,g⟩ (.int .i64 ((2*j:Nat):Int)):=by
  have:=HB (C:=C) (R:=R) (H:=H) (dst:=dst) (ty:=ty) (pos:=pos) (aft:=aft) (g:=g) (xT:=xT) (yT:=yT) h1 h2 ⟨by omega,by omega⟩
  rwa [show 2*(j:Int)=((2*j:Nat):Int) from by omega] at this
end
end Go.Eng
namespace Go.Eng
variable {C:Cx} {D:List Deferred} {R H:List PH} {L:Env} {K:List It}
section
variable {dst:Option Tmp} {ty:TypeId} {pos:String} {aft:Array Edge} {g:Option (Nat × Bool)}
theorem G2 {x y:Operand} {t e yT:TypeId} {a:Option Addr} {n c:Nat} (h:evalE L x=some (.slice a n c)) (h2:evalE L y=some (.slice none 0 0)) (ht:elemP C.P t=some e) :
    Quiet C R H L ⟨dst,.binOp .eql t x y yT,ty,pos,aft,g⟩ (.bool a.isNone):=
  ⟨by intro c; simp,fun ac w hx _=>by
    have e1:=hx x (by simp [Op.operands]) _ h
    have e2:=hx y (by simp [Op.operands]) _ h2
    have hr:=Go.run_eql_slice_nil (P:=C.P) w t e a n c (und_elem ht)
    simp [execOp,e1,e2,eqGuard,hr]⟩
theorem GD {x y:Operand} {t e yT:TypeId} {n c:Nat} (h:evalE L x=some (.slice none n c)) (h2:evalE L y=some (.slice none 0 0)) (ht:elemP C.P t=some e) :
    Quiet C R H L ⟨dst,.binOp .eql t x y yT,ty,pos,aft,g⟩ (.bool true):=G2 h h2 ht
theorem GE {x y:Operand} {t e yT:TypeId} {a:Addr} {n c:Nat} (h:evalE L x=some (.slice (some a) n c)) (h2:evalE L y=some (.slice none 0 0)) (ht:elemP C.P t=some e) :
    Quiet C R H L ⟨dst,.binOp .eql t x y yT,ty,pos,aft,g⟩ (.bool false):=G2 h h2 ht
theorem GF {x y:Operand} {t e:TypeId} {s b o n c c2:Nat} {p:Option Addr} (hx:evalE L x=some (.slice (some ⟨b,o,none⟩) n c)) (hy:evalE L y=some (.slice p 0 c2)) (ht:elemP C.P t=some e) (hs:szP C.P e=some s) (hn:n≤c) :
    Quiet C R H L ⟨dst,.call ⟨.builtin .append,#[x,y],#[t,t]⟩,ty,pos,aft,g⟩ (.slice (some ⟨b,o,none⟩) n c):=
  ⟨by intro c; simp,fun a w hxx _=>by
    have e1:=hxx x (by simp [Op.operands,Call.operands]) _ hx
    have e2:=hxx y (by simp [Op.operands,Call.operands]) _ hy
    have htu:=und_elem ht
    obtain ⟨i,hi,his⟩:∃ i,C.P.info? e=some i∧i.size=s:=by
      unfold szP at hs
      cases hi:C.P.info? e with
      | none=>simp [hi] at hs
      | some i=>simp only [hi,Option.some.injEq] at hs; exact ⟨i,rfl,hs⟩
    have hf:(Builtin.firstCells i.size 0 (.slice p 0 c2)).run C.P w=.ok #[] w:=by
      cases p with
      | none=>simp [Builtin.firstCells]
      | some ad=>exact run_firstCells_some (P:=C.P) w i.size 0 ad 0 c2 [] (by simp) (by simp)
    have hr:(Builtin.append_ #[t,t] ty #[.slice (some ⟨b,o,none⟩) n c,.slice p 0 c2]).run C.P w=.ok (.slice (some ⟨b,o,none⟩) n c) w:=by
      simp [Builtin.append_,run_underlying htu,sizeOf,typeInfo,hi,Builtin.lenOf,hn,hf,storeCells]
    simp [execOp,resolve,e1,e2,invoke,builtin,hr]⟩
end
theorem OwnS.empty {e:TypeId} {size b:Nat}:OwnS e size (.slice (some ⟨b,0,none⟩) 0 0) 0 [] (sng b (.cells #[] e (0,0))):=⟨by simp,.inr ⟨b,0,#[],rfl,rfl,by omega,by simp,by simp,by simp⟩⟩
theorem OwnS.block {α:Type} {enc:α→List Value} {s:Nat} {e:TypeId} {v:Value} {l:List α} {ρ:PH} (h:OwnS e s v l.length (l.flatMap enc) ρ) :
    (v=.slice none 0 0∧l=[]∧ρ=emp)∨∃ b cap cur,v=.slice (some ⟨b,0,none⟩) l.length cap∧ρ=sng b (.cells cur e (0,0))∧l.length≤cap∧cap≤maxLen∧cur.size=cap*s∧cur.toList.take (l.length*s)=l.flatMap enc:=by
  obtain ⟨_,⟨rfl,h2,rfl⟩|⟨b,cap,cur,rfl,rfl,h1,h2,h3,h4⟩⟩:=h
  · exact .inl ⟨rfl,List.eq_nil_of_length_eq_zero h2,rfl⟩
  · exact .inr ⟨b,cap,cur,rfl,rfl,h1,h2,h3,h4⟩
end Go.Eng
namespace Go.Eng
variable {C:Cx} {D:List Deferred} {R H:List PH} {L:Env} {K:List It}
theorem flat_set1 {α:Type} {enc:α→List Value} {s:Nat} (he:∀ x,(enc x).length=s) {j:Nat} {v:Value} {a':α} (hj:j<s):∀ (l:List α) (i:Nat) (a:α),l[i]?=some a→enc a'=(enc a).set j v→(l.flatMap enc).set (i*s+j) v=(l.set i a').flatMap enc
  | [],i,a,h,_=>by simp at h
  | y::l,0,a,h,h'=>by
    simp at h; subst h
    simp only [List.flatMap_cons,Nat.zero_mul,Nat.zero_add,List.set_cons_zero]
    rw [List.set_append_left _ _ (by rw [he]; exact hj),h']
  | y::l,i+1,a,h,h'=>by
    have ih:=flat_set1 he hj l i a (by simpa using h) h'
    have hy:(enc y).length=s:=he y
    simp only [List.flatMap_cons,List.set_cons_succ]
    have e:(i+1)*s+j=(enc y).length+(i*s+j):=by rw [hy,Nat.add_mul]; omega
    rw [e,List.set_append_right _ _ (by omega),show (enc y).length+(i*s+j)-(enc y).length=i*s+j from by omega,ih]
theorem EM {dst:Option Tmp} {ty:TypeId} {pos:String} {aft:Array Edge} {g:Option (Nat × Bool)} {α:Type} {enc:α→List Value} {s:Nat} (he:∀ x,(enc x).length=s) {t e:TypeId} {x y:Operand} {b o cap:Nat} {l:List α} {a:α} {v:Value} {ρ:PH} {H':List PH} (i j:Nat) (a':α)
    (hO:OwnS e s (.slice (some ⟨b,0,none⟩) l.length cap) l.length (l.flatMap enc) ρ) (h:evalE L x=some (.pointer (some ⟨b,o,none⟩))) (ho:o=i*s+j) (hj:j<s) (ha:l[i]?=some a) (ha':enc a'=(enc a).set j v) (hv:evalE L y=some v) (h1:v.oneCell'=true)
    (hn:szP C.P t=some 1) (ht:Take ρ H H') :
    Loud C R H L ⟨dst,.store t x y,ty,pos,aft,g⟩ (fun u H2=>u=undef∧∃ ρ',OwnS e s (.slice (some ⟨b,0,none⟩) (l.set i a').length cap) (l.set i a').length ((l.set i a').flatMap enc) ρ'∧H2=ρ'::H'):=by
  subst ho
  have hi:i<l.length:=(List.getElem?_eq_some_iff.1 ha).1
  obtain ⟨h0,⟨h2,_⟩|⟨b',cap',cur,h2,rfl,k1,k2,k3,k4⟩⟩:=hO
  · simp at h2
  · simp only [Value.slice.injEq,Option.some.injEq,Addr.mk.injEq,and_true,true_and] at h2
    obtain ⟨rfl,rfl⟩:=h2
    have hle:i*s+s≤l.length*s:=by
      have:=Nat.mul_le_mul_right s (show i+1≤l.length from hi)
      rw [Nat.add_mul] at this; omega
    have hle2:l.length*s≤cap*s:=Nat.mul_le_mul_right s k1
    have:=EB (C:=C) (R:=R) (L:=L) (dst:=dst) (ty:=ty) (pos:=pos) (aft:=aft) (g:=g) h hv h1 hn ht (by omega)
    refine ⟨fun ac w hx hs next Q hnx=>this.run ac w hx hs next Q (fun v H2 w' hp hs'=>?_)⟩
    obtain ⟨rfl,rfl⟩:=hp
    refine hnx _ _ _ ⟨rfl,_,⟨flat_len he _,.inr ⟨b,cap,_,rfl,rfl,by simpa using k1,k2,by simpa using k3,?_⟩⟩,rfl⟩ hs'
    rw [← flat_set1 he hj l i a ha ha',← k4,List.length_set,Array.toList_setIfInBounds,List.take_set]
end Go.Eng
namespace Go.Eng
variable {C:Cx} {D:List Deferred} {R H:List PH} {L:Env} {K:List It}
def cutP (a:Option Addr) (c i s:Nat):Option Addr:=if c=i then a else a.map (·.add (i*s))
section
variable {dst:Option Tmp} {ty:TypeId} {pos:String} {aft:Array Edge} {g:Option (Nat × Bool)}
variable {t e:TypeId} {x y z:Operand} {a:Option Addr} {n c s:Nat} {k k2:IntKind} {i j:Nat}
theorem E6 (h:evalE L x=some (.slice a n c)) (hy:evalE L y=some (.int k (i:Int))) (ht:elemP C.P t=some e) (hs:szP C.P e=some s) (h1:i≤c) :
    Quiet C R H L ⟨dst,.slice t x none (some y) none,ty,pos,aft,g⟩ (.slice (cutP a c 0 s) i c):=
  ⟨by intro c; simp,fun ac w hx _=>by
    have e1:=hx x (by simp [Op.operands]) _ h
    have e2:=hx y (by simp [Op.operands]) _ hy
    simp [execOp,e1,e2,Instr.sliceAt,run_underlying (und_elem ht),Instr.slice,Instr.sliceBounds,Instr.sliceBound,asIntOf,run_sizeOf hs,h1,cutP]⟩
theorem GC (h:evalE L x=some (.slice a n c)) (hy:evalE L y=some (.int k (i:Int))) (ht:elemP C.P t=some e) (hs:szP C.P e=some s) (h1:i≤n) :
    Quiet C R H L ⟨dst,.slice t x (some y) none none,ty,pos,aft,g⟩ (.slice (cutP a c i s) (n-i) (c-i)):=
  ⟨by intro c; simp,fun ac w hx _=>by
    have e1:=hx x (by simp [Op.operands]) _ h
    have e2:=hx y (by simp [Op.operands]) _ hy
    simp [execOp,e1,e2,Instr.sliceAt,run_underlying (und_elem ht),Instr.slice,Instr.sliceBounds,Instr.sliceBound,asIntOf,run_sizeOf hs,h1,cutP]⟩
end
def CapOK (v:Value):Prop:=∃ p n c,v=.slice p n c∧n≤c
theorem CapOK.le {p:Option Addr} {n c:Nat} (h:CapOK (.slice p n c)):n≤c:=by
  obtain ⟨p',n',c',e,h⟩:=h
  simp only [Value.slice.injEq] at e
  obtain ⟨_,rfl,rfl⟩:=e
  exact h
theorem OwnS.capOK {e:TypeId} {s n:Nat} {v:Value} {xs:List Value} {σ:PH} (h:OwnS e s v n xs σ):CapOK v:=by
  obtain ⟨_,⟨rfl,rfl,_⟩|⟨b,cap,cur,rfl,_,h1,_⟩⟩:=h
  · exact ⟨_,_,_,rfl,Nat.le_refl _⟩
  · exact ⟨_,_,_,rfl,h1⟩
theorem addr_add (b o m:Nat):(⟨b,o,none⟩:Addr).add m=⟨b,o+m,none⟩:=Addr.add_lit ..
theorem flat_cut {α:Type} {enc:α→List Value} {s:Nat} (he:∀ x,(enc x).length=s):∀ (l:List α) (i:Nat),i≤l.length→(l.drop i).flatMap enc=(l.flatMap enc).drop (i*s)
  | l,0,_=>by simp
  | [],i+1,h=>by simp at h
  | x::l,i+1,h=>by
    rw [List.drop_succ_cons,flat_cut he l i (by simpa using h),List.flatMap_cons,List.drop_append,List.drop_of_length_le (l:=enc x) (by rw [he,Nat.add_mul]; omega),he]
    congr 1
    rw [Nat.add_mul]; omega
theorem flat_take {α:Type} {enc:α→List Value} {s:Nat} (he:∀ x,(enc x).length=s):∀ (l:List α) (i:Nat),(l.take i).flatMap enc=(l.flatMap enc).take (i*s)
  | l,0=>by simp
  | [],i+1=>by simp
  | x::l,i+1=>by
    rw [List.take_succ_cons,List.flatMap_cons,flat_take he l i,List.flatMap_cons,List.take_append,List.take_of_length_le (l:=enc x) (by rw [he,Nat.add_mul]; omega),he]
    congr 2
    rw [Nat.add_mul]; omega
theorem slE_cut {α:Type} {enc:α→List Value} {s:Nat} (he:∀ x,(enc x).length=s) {ρ:PH} {a:Option Addr} {n c:Nat} {l:List α} (h:SlE enc s ρ (.slice a n c) l) (hc:l.length≤c) {i j:Nat} (h1:i≤j) (h2:j≤l.length):SlE enc s ρ (.slice (cutP a c i s) (j-i) (c-i)) ((l.drop i).take (j-i)):=by
  have hlen:((l.drop i).take (j-i)).length=j-i:=by simp; omega
  refine ⟨by rw [flat_len he],?_⟩
  by_cases h0:j-i=0
  · left
    exact ⟨by rw [hlen]; exact h0,_,_,by rw [h0]⟩
  · right
    obtain ⟨_,⟨h3,_⟩|⟨b,o,c',e,hr⟩⟩:=h
    · omega
    · simp only [Value.slice.injEq] at e
      obtain ⟨rfl,rfl,rfl⟩:=e
      refine ⟨b,o+i*s,c-i,?_,fun k u hu=>?_⟩
      · rw [hlen]
        unfold cutP
        rw [if_neg (by omega)]
        simp [addr_add]
      · rw [flat_take he,flat_cut he l i (by omega)] at hu
        have hk:k<(j-i)*s:=by
          have:=(List.getElem?_eq_some_iff.1 hu).1
          simp at this; omega
        rw [List.getElem?_take_of_lt hk,List.getElem?_drop] at hu
        have:=hr _ u hu
        rwa [← Nat.add_assoc] at this
theorem slE_hi {α:Type} {enc:α→List Value} {s:Nat} (he:∀ x,(enc x).length=s) {ρ:PH} {a:Option Addr} {n c:Nat} {l:List α} (h:SlE enc s ρ (.slice a n c) l) (hc:l.length≤c) {j:Nat} (h2:j≤l.length):SlE enc s ρ (.slice (cutP a c 0 s) j c) (l.take j):=by
  have:=slE_cut he h hc (Nat.zero_le j) h2
  simpa using this
theorem slE_lo {α:Type} {enc:α→List Value} {s:Nat} (he:∀ x,(enc x).length=s) {ρ:PH} {a:Option Addr} {n c:Nat} {l:List α} (h:SlE enc s ρ (.slice a n c) l) (hc:l.length≤c) {i:Nat} (h2:i≤l.length) (hn:n=l.length):SlE enc s ρ (.slice (cutP a c i s) (n-i) (c-i)) (l.drop i):=by
  subst hn
  have:=slE_cut he h hc h2 (Nat.le_refl _)
  rwa [List.take_of_length_le (by simp)] at this
end Go.Eng
namespace Go.Eng
variable {C:Cx} {D:List Deferred} {R H:List PH} {L:Env} {K:List It}
variable {dst:Option Tmp} {ty:TypeId} {pos:String} {aft:Array Edge} {g:Option (Nat × Bool)}
theorem q_cap {x:Operand} {t e:TypeId} {a:Option Addr} {n c:Nat} (h:evalE L x=some (.slice a n c)) (ht:elemP C.P t=some e) :
    Quiet C R H L ⟨dst,.call ⟨.builtin .cap,#[x],#[t]⟩,ty,pos,aft,g⟩ (.int .i64 (c:Int)):=
  ⟨by intro c; simp,fun ac w hx _=>by
    have e1:=hx x (by simp [Op.operands,Call.operands]) _ h
    simp [execOp,resolve,e1,invoke,builtin,Builtin.cap_,run_underlying (und_elem ht),goInt]⟩
theorem und_kindI {P:Program} {t:TypeId} (h:kindP P t=some .i64):P.underlying t=some (.int .i64):=und_kind h
theorem run_append_zeros {P:Program} (w:World) (t tx ty e:TypeId) (i:TypeInfo) (z:Value) (ht:P.underlying t=some (.slice e)) (hx:P.underlying tx=some (.int .i64)) (hi:P.info? e=some i) (hz:i.zero=some z) (n:Nat) (h0:0<n) (hs:0<i.size)
    (h63:(n:Int)≤9223372036854775807) (h48:n*i.bytes≤281474976710656) :
    (Builtin.append_ #[t,tx] ty #[.slice none 0 0,.int .i64 (n:Int)]).run P w =
      .ok (.slice (some ⟨w.heap.size,0,none⟩) n (grownCap w n 0 e)) (w.drew.alloc (.cells (Builtin.zeroCells z.cells n ++ Builtin.zeroCells z.cells (grownCap w n 0 e-n)) e)):=by
  have hn:¬ (n=0):=by omega
  have hwr:IntKind.i64.wrap (n:Int)=(n:Int):=wrap_in ⟨by omega,by omega⟩
  have hng:¬ ((n:Int)<0):=by omega
  have h63':¬ (9223372036854775807<(n:Int)):=by omega
  have h48':¬ (281474976710656<Builtin.nextslicecap n 0*i.bytes):=by rw [nextslicecap_zero h0]; omega
  have h48'':¬ (281474976710656<(n:Int)*(i.bytes:Int)):=by rw [← Int.natCast_mul]; omega
  have hm:¬ (n*i.size=0):=by
    have:=Nat.mul_pos h0 hs
    omega
  have hmx:max (n:Int) 0=(n:Int):=by omega
  simp [Builtin.append_,run_underlying ht,run_underlying hx,sizeOf,typeInfo,zeroValue,hi,hz,asInt,asIntOf,hwr,hng,hmx,h48'',hn,h63',h48',Question.forced,Builtin.firstCells,newRow,grownCap]
  intro h; exact absurd h hm
theorem FH {x y:Operand} {t tx e:TypeId} {s by_:Nat} {z:Value} {n:Nat} (hx:evalE L x=some (.slice none 0 0)) (hy:evalE L y=some (.int .i64 (n:Int))) (ht:elemP C.P t=some e) (htx:kindP C.P tx=some .i64) (hs:szP C.P e=some s) (hz:zeroP C.P e=some z) (hb:bytesP C.P e=some by_)
    (hzs:z.cells.size=s) (hs0:0<s) (hn0:0<n) (hmax:n≤maxLen) (hby:n*by_≤140737488355328) :
    Loud C R H L ⟨dst,.call ⟨.builtin .append,#[x,y],#[t,tx]⟩,ty,pos,aft,g⟩ (fun u H2=>∃ b cap cur,u=.slice (some ⟨b,0,none⟩) n cap∧H2=sng b (.cells cur e (0,0))::H∧n≤cap∧cap≤maxLen∧cur.size=cap*s):=by
  refine ⟨fun a w hxx hsat next Q hnx=>?_⟩
  obtain ⟨i,hi,rfl,hiz,rfl⟩:=info_of hs hz hb
  have htu:=und_elem ht
  have e1:=hxx x (by simp [Op.operands,Call.operands]) _ hx
  have e2:=hxx y (by simp [Op.operands,Call.operands]) _ hy
  have hr:=run_append_zeros (P:=C.P) w t tx ty e i z htu (und_kindI htx) hi hiz n hn0 hs0 (by simp only [maxLen] at hmax; omega) (by omega)
  have hge:=grownCap_ge w n 0 e
  have hcm:grownCap w n 0 e≤maxLen:=grownCap_le_maxLen w n 0 e hmax
  have hsat2:=hsat.drew.alloc (.cells (Builtin.zeroCells z.cells n ++ Builtin.zeroCells z.cells (grownCap w n 0 e-n)) e)
  refine wpIn_value (by intro c; simp) ?_ (hnx _ _ _ ⟨w.heap.size,_,_,rfl,rfl,hge,hcm,?_⟩ (by simpa using hsat2))
  · simp [execOp,resolve,e1,e2,invoke,builtin,hr]
  · simp only [Array.size_append,size_zeroCells,hzs,← Nat.add_mul]
    congr 1
    omega
theorem OwnS.room {e:TypeId} {s b cap:Nat} {cur:Array Value} (h1:cap≤maxLen) (h2:cur.size=cap*s):OwnS e s (.slice (some ⟨b,0,none⟩) 0 cap) 0 [] (sng b (.cells cur e (0,0))):=
  ⟨by simp,.inr ⟨b,cap,cur,rfl,rfl,Nat.zero_le _,h1,h2,by simp⟩⟩
theorem cutP_zero (b cap s:Nat):cutP (some ⟨b,0,none⟩) cap 0 s=some ⟨b,0,none⟩:=by
  unfold cutP
  split
  · rfl
  · simp [addr_add]
theorem cells_of_mem {N:Bs} {σ:PH} {b o:Nat} {vs:List Value} (m:σ∈R) (h:RdN σ b o vs):Cells N R H b o vs:=fun _ hs j v hv=>rdc_cell (hs.r σ m) (h j v hv)
def encW (v:Value):List Value:=[v]
theorem encW_len (v:Value):(encW v).length=1:=rfl
def totL {α:Type} (ls:List (List α)):Nat:=(ls.map List.length).foldr (· + ·) 0
theorem totL_cons {α:Type} (l:List α) (ls:List (List α)):totL (l::ls)=l.length+totL ls:=rfl
theorem totL_flat {α:Type}:∀ (ls:List (List α)),ls.flatten.length=totL ls
  | []=>rfl
  | l::ls=>by rw [List.flatten_cons,List.length_append,totL_flat ls,totL_cons]
theorem totL_take {α:Type}:∀ (ls:List (List α)) (k:Nat) (l:List α),ls[k]?=some l→totL (ls.take (k+1))=totL (ls.take k)+l.length
  | [],k,l,h=>by simp at h
  | x::ls,0,l,h=>by simp at h; subst h; simp [totL]
  | x::ls,k+1,l,h=>by
    have:=totL_take ls k l (by simpa using h)
    rw [List.take_succ_cons,totL_cons,this,List.take_succ_cons,totL_cons]; omega
theorem totL_le {α:Type}:∀ (ls:List (List α)) (k:Nat),totL (ls.take k)≤totL ls
  | [],k=>by simp
  | x::ls,0=>by simp [totL]
  | x::ls,k+1=>by rw [List.take_succ_cons,totL_cons,totL_cons]; have:=totL_le ls k; omega
theorem flat_succ {α:Type} (ls:List (List α)) (k:Nat) (l:List α) (h:ls[k]?=some l):(ls.take (k+1)).flatten=(ls.take k).flatten ++ l:=by
  obtain ⟨hk,rfl⟩:=List.getElem?_eq_some_iff.1 h
  rw [List.take_succ_eq_append_getElem hk,List.flatten_append];simp only [List.flatten_cons,List.flatten_nil,List.append_nil]
theorem C4 {x y:Operand} {t e:TypeId} {s by_:Nat} {z:Value} {v w0:Value} {n m:Nat} {xs news:List Value} {ρ σ:PH} {H':List PH}
    (hx:evalE L x=some v) (hy:evalE L y=some w0) (ht:elemP C.P t=some e) (hs:szP C.P e=some s) (hz:zeroP C.P e=some z) (hb:bytesP C.P e=some by_)
    (hzs:z.cells.size=s) (hown:OwnS e s v n xs ρ) (htk:Take ρ H H') (hw:SlAt σ s w0 m news) (hc:∀ b o,RdN σ b o news→Cells C.N R H' b o news) (h1:∀ u∈news,u.oneCell'=true) (hmax:n+m≤maxLen) (hby:(n+m)*by_≤140737488355328) :
    Loud C R H L ⟨dst,.call ⟨.builtin .append,#[x,y],#[t,t]⟩,ty,pos,aft,g⟩ (fun u H2=>∃ ρ',OwnS e s u (n+m) (xs ++ news) ρ'∧H2=ρ'::H'):=by
  rcases Nat.eq_zero_or_pos m with h0|h0
  · subst h0
    have hnews:news=[]:=List.eq_nil_of_length_eq_zero (by have:=hw.1; simpa using this)
    subst hnews
    obtain ⟨p,c2,rfl⟩:=hw.cap
    obtain ⟨i,hi,rfl,hiz,rfl⟩:=info_of hs hz hb
    have htu:=und_elem ht
    refine ⟨fun a w hxx hsat next Q hnx=>?_⟩
    have e1:=hxx x (by simp [Op.operands,Call.operands]) _ hx
    have e2:=hxx y (by simp [Op.operands,Call.operands]) _ hy
    have hf:(Builtin.firstCells i.size 0 (.slice p 0 c2)).run C.P w=.ok #[] w:=by
      cases p with
      | none=>simp [Builtin.firstCells]
      | some ad=>exact run_firstCells_some (P:=C.P) w i.size 0 ad 0 c2 [] (by simp) (by simp)
    have hr:(Builtin.append_ #[t,t] ty #[v,.slice p 0 c2]).run C.P w=.ok v w:=by
      obtain ⟨_,⟨rfl,rfl,_⟩|⟨b,cap,cur,rfl,_,hle,_⟩⟩:=hown
      · simp [Builtin.append_,run_underlying htu,sizeOf,typeInfo,hi,Builtin.lenOf,hf]
      · simp [Builtin.append_,run_underlying htu,sizeOf,typeInfo,hi,Builtin.lenOf,hle,hf,storeCells]
    refine wpIn_value (by intro c; simp) ?_ (hnx v _ w ⟨ρ,by simpa using hown,rfl⟩ (hsat.take htk))
    simp [execOp,resolve,e1,e2,invoke,builtin,hr]
  · obtain ⟨b2,o2,c2,rfl,hr⟩:=hw.some h0
    exact BI hx hy ht hs hz hb hzs hown htk (hc b2 o2 (fun j v hv=>hr j v hv)) hw.1 h1 h0 hmax hby
end Go.Eng
namespace Go.Eng
variable {C : Cx} {D : List Deferred} {R H : List PH} {L : Env} {K : List It}
section
variable {dst : Option Tmp} {ty : TypeId} {pos : String} {aft : Array Edge} {g : Option (Nat × Bool)}
variable {t yT : TypeId} {x y : Operand}
theorem GQ {a b : Bool} (h1 : evalE L x = some (.bool a)) (h2 : evalE L y = some (.bool b)) (ht : C.P.underlying t = some .bool) : Quiet C R H L ⟨dst, .binOp .eql t x y yT, ty, pos, aft, g⟩ (.bool (a == b)) :=
  ⟨by intro c; simp, fun ac w hx _ => by
    have e1 := hx x (by simp [Op.operands]) _ h1
    have e2 := hx y (by simp [Op.operands]) _ h2
    have h3 := run_equalIn_bool' (P := C.P) w 9999 t a b ht
    simp only [Nat.reduceAdd] at h3
    simp [execOp, e1, e2, eqGuard, binOp, Op.equal, Op.maxDepth, h3]⟩
def fldI (P : Program) (k : Nat) (f : Field) : Bool := f.name != "_" && f.offset == k && (match P.underlying f.type with | some (.int .i64) => true | _ => false)
def fldsI (P : Program) : Nat → List Field → Bool
  | _, [] => true
  | k, f :: fs => fldI P k f && fldsI P (k + 1) fs
def intsP (P : Program) (t : TypeId) (n : Nat) : Bool := match P.underlying t with
  | some (.struct fs) => fs.size == n && fldsI P 0 fs.toList
  | _ => false
theorem eqFields_ints {P : Program} (w : World) (d : Nat) (l m : List Int) : ∀ (fs : List Field) (k : Nat), fldsI P k fs = true → k + fs.length = l.length → l.length = m.length →
    (Op.eqFields (d + 1) (l.map int).toArray (m.map int).toArray fs).run P w = .ok (decide (l.drop k = m.drop k)) w
  | [], k, _, h, h2 => by
    rw [List.drop_of_length_le (by simp at h; omega), List.drop_of_length_le (by simp at h; omega)]
    simp [Op.eqFields]
  | f :: fs, k, hf, h, h2 => by
    simp only [fldsI, fldI, Bool.and_eq_true, bne_iff_ne, ne_eq, beq_iff_eq] at hf
    obtain ⟨⟨⟨h3, h4⟩, h5⟩, h6⟩ := hf
    have hu : P.underlying f.type = some (.int .i64) := by
      split at h5
      · assumption
      · simp at h5
    have ih := eqFields_ints w d l m fs (k + 1) h6 (by simp at h; omega) h2
    have hk : k < l.length := by simp at h; omega
    have hk2 : k < m.length := by omega
    have hp : ∀ (q : List Int) (hq : k < q.length), (part f.type (q.map int).toArray f.offset).run P w = .ok (int q[k]) w := fun q hq => by
      have hag : aggP P f.type = some false := by simp [aggP, hu]
      simp [part, run_isAgg hag, h4, hq]
    have hd : decide (l.drop k = m.drop k) = (decide (l[k] = m[k]) && decide (l.drop (k + 1) = m.drop (k + 1))) := by
      rw [List.drop_eq_getElem_cons hk, List.drop_eq_getElem_cons hk2, Bool.eq_iff_iff];simp only [List.cons.injEq, decide_eq_true_eq, Bool.and_eq_true]
    rw [hd]
    have he := run_equalIn_int (P := P) w d f.type .i64 .i64 l[k] m[k] hu
    simp only [Op.eqFields, h3, not_false_eq_true, if_true, Sem.run_bind, hp l hk, hp m hk2, Result.andThen_ok, he, ne_eq]
    by_cases hkm : l[k] = m[k]
    · simp only [hkm, beq_self_eq_true, Bool.not_true, Bool.false_eq_true, if_false, ih, decide_true, Bool.true_and]
    · have : (l[k] == m[k]) = false := by simpa using hkm
      simp only [this, hkm, Bool.not_false, if_true, Sem.run_pure, decide_false, Bool.false_and]
theorem intsP_of {P : Program} {n : Nat} (h : intsP P t n = true) : ∃ fs : Array Field, P.underlying t = some (.struct fs) ∧ fs.size = n ∧ fldsI P 0 fs.toList = true := by
  unfold intsP at h
  split at h
  · rename_i fs hu
    simp only [Bool.and_eq_true, beq_iff_eq] at h;exact ⟨fs, hu, h.1, h.2⟩
  · simp at h
theorem run_eqInts {P : Program} (w : World) {l m : List Int} {n : Nat} (hi : intsP P t n = true) (hp : P.stoodInHeld t = false) (hl : l.length = n) (hm : m.length = n) : (Op.equalIn 10000 t (.agg (l.map int).toArray) (.agg (m.map int).toArray)).run P w = .ok (decide (l = m)) w := by
  obtain ⟨fs, hu, hs, hf⟩ := intsP_of hi
  have hfo : P.fieldsOf t = fs := by simp [Program.fieldsOf, hu]
  have h1 := run_equalIn_struct (P := P) w 9999 t (l.map int).toArray (m.map int).toArray (by rw [hfo]; exact hu) hp
  have h2 := eqFields_ints (P := P) w 9998 l m fs.toList 0 hf (by simp [hs, hl]) (by omega)
  rw [hfo] at h1;simp only [Nat.reduceAdd] at h1 h2;rw [h1, h2]; simp
theorem FQ (l m : List Int) {n : Nat} (h1 : evalE L x = some (.agg (l.map int).toArray)) (h2 : evalE L y = some (.agg (m.map int).toArray)) (hi : intsP C.P t n = true) (hp : C.P.stoodInHeld t = false) (hg : C.P.eqGuardType C.P.depth t = false) (hl : l.length = n) (hm : m.length = n) :
    Quiet C R H L ⟨dst, .binOp .neq t x y yT, ty, pos, aft, g⟩ (.bool (!decide (l = m))) :=
  ⟨by intro c; simp, fun ac w hx _ => by
    have e1 := hx x (by simp [Op.operands]) _ h1
    have e2 := hx y (by simp [Op.operands]) _ h2
    have h3 := run_neq_struct (P := C.P) w t (l.map int).toArray (m.map int).toArray
    rw [run_eqInts w hi hp hl hm] at h3
    have h4 := run_eqGuard_agg (P := C.P) w .neq t x y (l.map int).toArray (m.map int).toArray hg
    simp [execOp, e1, e2, h3, h4]⟩
end
end Go.Eng
namespace Go.Eng
open Go.ChangeShapes Go.WideShapes Go.RowKit
def heapPH (w : World) : PH := fun b => w.heap[b]?
theorem sat_heap (w : World) : Sat (Bs.of w) [heapPH w] [] w :=
  ⟨⟨Nat.le_refl _, rfl, rfl, rfl, Nat.le_refl _⟩, by intro ρ hρ; simp at hρ; subst hρ; exact fun b o h => h, by simp, List.Pairwise.nil, by simp⟩
theorem rdc_heap {w : World} {b o : Nat} {v : Value} (h : w.cell? ⟨b, o, none⟩ = some v) : rdc (heapPH w) b o = some v := by
  unfold World.cell? at h;unfold rdc heapPH
  cases e : w.heap[b]? with
  | none => simp [e] at h
  | some ob => cases ob <;> simp_all
theorem cell_spot {w : World} {a : Addr} {v : Value} (h : w.cell? a = some v) : a.spot = none := by
  unfold World.cell? at h
  split at h
  · split at h
    · simp at h
    · rename_i hs; simpa using hs
  · simp at h
theorem law_calls {P : Program} {f : FuncId} {fn : Func} {c : Code} {args : List Value} {W : World} (hf : P.funcs[f]? = some fn) (hb : fn.body = some c) (hname : (fn.name == "runtime.NumGoroutine") = false)
    (hs : Ans P (fv f) args [heapPH W] (fun v => v = .bool true)) : Calls P f args.toArray W (fun e W' => e = .returned (.bool true) ∧ Below W.heap.size W W') := by
  have h := hs (Bs.of W) W (sat_heap W)
  unfold CallsV at h
  have hrun : ((do let d ← Deferred.ofValue (fv f) args.toArray; invoke d.target d.args : Sem Next).run P W) = .ok (.enter f args.toArray) W := by
    have hname' : ¬ fn.name = "runtime.NumGoroutine" := by simpa using hname
    simp [Deferred.ofValue, invoke, callFunc, program, Sem.run, bind, Sem.bind, pure, hf, hb, hname']
  rw [hrun] at h;refine callsIn_wide.1 (CallsIn.mono h ?_);rintro e W' ⟨v, rfl, H', ⟨rfl, rfl⟩, hu⟩
  exact ⟨rfl, hu.size.2.1, hu.size.2.2.2.1, hu.size.2.2.1, hu.size.1, fun k hk => hu.keep k hk (by simp)⟩
def RdT (P : Program) (W : World) (t : TypeId) (cs : List Value) : Prop := ∃ (H : Type) (enc : TypeId × Value → H) (fuel : Nat) (x : DataW H × List MemPlace), DataW.trod enc P W 0 (fun _ => true) true fuel t cs = some x
section
variable {P : Program} {W : World} {t : TypeId} {cs : List Value}
theorem RdT.of {H : Type} {enc : TypeId × Value → H} {v : Value} {d : DataW H} {p : List MemPlace} (h : DataW.Trod enc P W 0 (fun _ => true) true t v d p) : RdT P W t v.cells.toList := by
  obtain ⟨fuel, hf⟩ := h
  exact ⟨H, enc, fuel, _, hf⟩
theorem RdT.num {k : IntKind} (ht : P.underlying t = some (.int k)) (h : RdT P W t cs) : ∃ n, cs = [.int k n] ∧ (Lit.int k n).wf = true := by
  obtain ⟨H, enc, fuel, x, h⟩ := h
  obtain ⟨n, h1, _, h2⟩ := DataW.trod_int ht h
  exact ⟨n, h1, h2⟩
theorem wf_i64 {n : Int} (h : (Lit.int .i64 n).wf = true) : In64 n := by
  simp only [Lit.wf, Bool.and_eq_true, decide_eq_true_eq] at h;exact ⟨h.1, h.2⟩
theorem RdT.i64 (ht : P.underlying t = some (.int .i64)) (h : RdT P W t cs) : ∃ n, cs = [int n] ∧ In64 n := by
  obtain ⟨n, h1, h2⟩ := h.num ht
  exact ⟨n, h1, wf_i64 h2⟩
theorem RdT.bool (ht : P.underlying t = some .bool) (h : RdT P W t cs) : ∃ b, cs = [.bool b] := by
  obtain ⟨H, enc, fuel, x, h⟩ := h
  cases fuel with
  | zero => simp [DataW.trod] at h
  | succ n =>
    unfold DataW.trod at h;rw [ht] at h
    split at h <;> simp_all
theorem RdT.struct {fs : Array Field} (ht : P.underlying t = some (.struct fs)) (h : RdT P W t cs) : cs.length = P.cellsOf t ∧ ∀ (i : Nat) (f : Field), fs[i]? = some f → RdT P W f.type ((cs.drop f.offset).take (P.cellsOf f.type)) := by
  obtain ⟨H, enc, fuel, x, h⟩ := h
  obtain ⟨xs, n, _, _, hl, hlen, hf⟩ := DataW.trod_struct ht h
  refine ⟨hl, fun i f hi => ?_⟩
  have hif : i < xs.length := by rw [hlen]; exact (Array.getElem?_eq_some_iff.1 hi).1
  have := hf i f hi
  rw [List.getElem?_eq_getElem hif] at this;exact ⟨H, enc, n, _, this⟩
theorem RdT.fld1 {fs : Array Field} (ht : P.underlying t = some (.struct fs)) (h : RdT P W t cs) (i : Nat) {f : Field} (hi : fs[i]? = some f) {ty : TypeId} {o : Nat} {c : Value} (hty : f.type = ty) (ho : f.offset = o) (hc : P.cellsOf ty = 1) (hcs : cs[o]? = some c) : RdT P W ty [c] := by
  have := (h.struct ht).2 i f hi
  rw [hty, ho, hc] at this
  obtain ⟨hlt, he⟩ := List.getElem?_eq_some_iff.1 hcs
  rw [List.drop_eq_getElem_cons hlt, he] at this
  simpa using this
theorem choose_list {α : Type} (q : Nat → α → Prop) : ∀ n, (∀ i, i < n → ∃ a, q i a) → ∃ l : List α, l.length = n ∧ ∀ i a, l[i]? = some a → q i a
  | 0, _ => ⟨[], rfl, by simp⟩
  | n + 1, h => by
    obtain ⟨l, hl, hq⟩ := choose_list q n (fun i hi => h i (by omega))
    obtain ⟨a, ha⟩ := h n (by omega)
    refine ⟨l ++ [a], by simp [hl], fun i b hb => ?_⟩
    by_cases e : i < n
    · rw [List.getElem?_append_left (by omega)] at hb; exact hq i b hb
    · rw [List.getElem?_append_right (by omega)] at hb
      have hi : i - l.length = 0 := by
        have := (List.getElem?_eq_some_iff.1 hb).1
        simp at this; omega
      rw [hi] at hb
      simp at hb
      subst hb
      have : i = n := by omega
      subst this; exact ha
theorem RdT.slice {e : TypeId} {s : Nat} (ht : P.underlying t = some (.slice e)) (hs : P.cellsOf e = s) (h0 : 0 < s) (h : RdT P W t cs) :
    ∃ v p c, cs = [v] ∧ ∃ els : List (List Value), v = .slice p els.length c ∧ els.length ≤ maxLen ∧ ∀ i x, els[i]? = some x → x.length = s ∧ RdT P W e x ∧ ∃ b o, p = some ⟨b, o, none⟩ ∧ RdN (heapPH W) b (o + i * s) x := by
  obtain ⟨H, enc, fuel, x, h⟩ := h
  rcases Deep.open_slice ht h with ⟨rfl, _⟩ | ⟨a, len, cap, m, n, D, Pl, rfl, _, hlc, hcm, hm, _, hx⟩
  · exact ⟨_, none, 0, rfl, [], rfl, by simp, by simp⟩
  · have hm' : m = cap := by rw [hm]; simp
    obtain ⟨els, hl, hq⟩ := choose_list (fun i cs' => W.cells? 0 (a.add (i * P.cellsOf e)) (P.cellsOf e) = some cs' ∧ DataW.trod enc P W 0 (fun _ => true) true n e cs' = some (D i, Pl i)) len (fun i hi => hx i (by omega))
    refine ⟨_, some a, cap, rfl, els, by rw [hl], by omega, fun i y hy => ?_⟩
    obtain ⟨q1, q2⟩ := hq i y hy
    obtain ⟨_, k1, k2⟩ := World.cells?_some q1
    rw [hs] at k1 k2
    have hsp : a.spot = none := by
      have hi : i < els.length := (List.getElem?_eq_some_iff.1 hy).1
      obtain ⟨r1, _⟩ := hq 0 els[0] (List.getElem?_eq_getElem (by omega))
      obtain ⟨_, g1, g2⟩ := World.cells?_some r1
      rw [hs] at g1 g2
      have hv0 : els[0][0]? = some (els[0][0]'(by omega)) := List.getElem?_eq_getElem (by omega)
      have := cell_spot ((g2 0 h0).trans hv0)
      simpa [Addr.add] using this
    obtain ⟨b, o, sp⟩ := a
    simp only at hsp;subst hsp
    have hadd : ∀ m : Nat, (⟨b, o, none⟩ : Addr).add m = ⟨b, o + m, none⟩ := fun m => by
      unfold Addr.add
      split
      · rename_i e; rw [e]; rfl
      · rfl
    have hadd2 : ∀ m k : Nat, (⟨b, o + m, none⟩ : Addr).add k = ⟨b, o + m + k, none⟩ := fun m k => by
      unfold Addr.add
      split
      · rename_i e; rw [e]; rfl
      · rfl
    refine ⟨k1, ⟨H, enc, n, _, q2⟩, b, o, rfl, fun j v hv => ?_⟩
    have hj : j < s := by
      have := (List.getElem?_eq_some_iff.1 hv).1
      omega
    have := (k2 j hj).trans hv
    rw [hadd, hadd2] at this;exact rdc_heap this
theorem RdT.sliceE {α : Type} {enc : α → List Value} {Q : α → Prop} {e : TypeId} {s : Nat} (ht : P.underlying t = some (.slice e)) (hs : P.cellsOf e = s) (h0 : 0 < s) (hel : ∀ x, RdT P W e x → ∃ a, x = enc a ∧ Q a) (h : RdT P W t cs) :
    ∃ v, cs = [v] ∧ ∃ l : List α, SlE enc s (heapPH W) v l ∧ (∀ a ∈ l, Q a) ∧ l.length ≤ maxLen := by
  obtain ⟨v, p, c, rfl, els, rfl, hle, hx⟩ := h.slice ht hs h0
  obtain ⟨l, hl, hq⟩ := choose_list (fun i (a : α) => ∀ x, els[i]? = some x → x = enc a ∧ Q a) els.length (fun i hi => by
    obtain ⟨a, h1, h2⟩ := hel els[i] (hx i _ (List.getElem?_eq_getElem hi)).2.1
    exact ⟨a, fun x hx => by rw [List.getElem?_eq_getElem hi] at hx; obtain rfl := Option.some.inj hx; exact ⟨h1, h2⟩⟩)
  have hlen : ∀ i a, l[i]? = some a → (enc a).length = s ∧ Q a ∧ ∃ b o, p = some ⟨b, o, none⟩ ∧ RdN (heapPH W) b (o + i * s) (enc a) := fun i a ha => by
    have hi : i < els.length := by rw [← hl]; exact (List.getElem?_eq_some_iff.1 ha).1
    obtain ⟨e1, e2⟩ := hq i a ha _ (List.getElem?_eq_getElem hi)
    obtain ⟨k1, _, k3⟩ := hx i _ (List.getElem?_eq_getElem hi)
    rw [e1] at k1 k3;exact ⟨k1, e2, k3⟩
  refine ⟨_, rfl, l, ⟨?_, ?_⟩, fun a ha => ?_, by omega⟩
  · clear hq hx hle
    have : ∀ (l : List α), (∀ a ∈ l, (enc a).length = s) → (l.flatMap enc).length = l.length * s := by
      intro l
      induction l with
      | nil => simp
      | cons a l ih =>
        intro hall
        rw [List.flatMap_cons, List.length_append, ih (fun b hb => hall b (by simp [hb])), hall a (by simp), List.length_cons, Nat.add_mul]; omega
    exact this l (fun a ha => by
      obtain ⟨i, hi, e⟩ := List.getElem_of_mem ha
      exact (hlen i a (by rw [List.getElem?_eq_getElem hi, e])).1)
  · rcases Nat.eq_zero_or_pos l.length with hz | hz
    · left; refine ⟨hz, p, c, by rw [← hl, hz]⟩
    · right
      obtain ⟨_, _, b, o, rfl, _⟩ := hlen 0 l[0] (List.getElem?_eq_getElem hz)
      refine ⟨b, o, c, by rw [hl], fun j u hu => ?_⟩
      have hfl : ∀ (l' : List α) (k : Nat), (∀ i a, l'[i]? = some a → (enc a).length = s ∧ RdN (heapPH W) b (o + (k + i) * s) (enc a)) → ∀ j u, (l'.flatMap enc)[j]? = some u → rdc (heapPH W) b (o + k * s + j) = some u := by
        intro l'
        induction l' with
        | nil => intro k _ j u hu; simp at hu
        | cons a l' ih =>
          intro k hall j u hu
          have h1 := hall 0 a rfl
          rw [List.flatMap_cons] at hu
          by_cases hj : j < (enc a).length
          · rw [List.getElem?_append_left hj] at hu
            have := h1.2 j u hu
            rwa [Nat.add_zero] at this
          · rw [List.getElem?_append_right (by omega)] at hu
            have := ih (k + 1) (fun i b' hb => by
              have := hall (i + 1) b' (by simpa using hb)
              rwa [show k + (i + 1) = k + 1 + i from by omega] at this) (j - (enc a).length) u hu
            rw [h1.1] at this hj
            rwa [show o + (k + 1) * s + (j - s) = o + k * s + j from by rw [Nat.add_mul]; omega] at this
      have := hfl l 0 (fun i a ha => by
        obtain ⟨k1, _, b', o', e, k3⟩ := hlen i a ha
        simp only [Option.some.injEq, Addr.mk.injEq, and_true] at e
        obtain ⟨rfl, rfl⟩ := e
        rw [Nat.zero_add]; exact ⟨k1, k3⟩) j u hu
      rwa [Nat.zero_mul, Nat.add_zero] at this
  · obtain ⟨i, hi, e⟩ := List.getElem_of_mem ha
    exact (hlen i a (by rw [List.getElem?_eq_getElem hi, e])).2.1
theorem RdT.ints {e : TypeId} (ht : P.underlying t = some (.slice e)) (he : P.underlying e = some (.int .i64)) (hs : P.cellsOf e = 1) (h : RdT P W t cs) :
    ∃ v, cs = [v] ∧ ∃ l : List Int, IntsAt (heapPH W) v l ∧ (∀ a ∈ l, In64 a) ∧ l.length ≤ maxLen :=
  h.sliceE ht hs (by omega) (fun x hx => hx.i64 he)
end
theorem okWide_agg {P : Program} {w : World} {r : Reach} {base : Nat} {t : TypeId} {v : Value} {fs : Array Field} (ht : P.underlying t = some (.struct fs)) (h : Value.okWide P w r base t v) : ∃ cs, v = .agg cs := by
  simp only [Value.okWide, ht] at h
  obtain ⟨cs, h1, _⟩ := h
  exact ⟨cs, h1⟩
end Go.Eng
namespace Go.Eng
variable {C:Cx} {D:List Deferred} {R H:List PH} {L:Env} {K:List It}
structure RdP (ρ:PH) (b o:Nat) (vs:List Value):Prop where
  rd:RdN ρ b o vs
theorem cellsP {N:Bs} {σ:PH} {b o:Nat} {vs:List Value} (h:RdP σ b o vs) (m:Mem σ R):Cells N R H b o vs:=cellsR h.rd m
theorem rdP_sng {b k:Nat} {xs vs:List Value} {t:TypeId} {fr:Nat × Nat} (h:(xs.drop k).take vs.length=vs):RdP (sng b (.cells xs.toArray t fr)) b k vs:=⟨fun j v hv=>by
  rw [rdc_sng];rw [← h] at hv
  have hlt:=(List.getElem?_eq_some_iff.1 hv).1
  rw [List.length_take] at hlt
  rw [List.getElem?_take_of_lt (by omega),List.getElem?_drop] at hv
  simpa using hv⟩
end Go.Eng
