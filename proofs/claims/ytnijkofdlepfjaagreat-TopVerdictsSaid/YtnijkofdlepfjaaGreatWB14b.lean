/- Texts of this proof, one after the other; no conditions. -/
import Derived.Test.YtnijkofdlepfjaaGreatWA
import Derived.Test.YtnijkofdlepfjaaGreatWB13
import Derived.Test.YtnijkofdlepfjaaGreatWB14
set_option linter.all false
namespace Go.Ev
open Go.Eng
section
variable {P:Program} {ρ:Rn} {fr:Fr} {ev:Operand->Value} {w:World} {h:AH} {η:PH}
theorem cells_at (hr:HR P ρ h η) (hw:η.le w) {i:Nat} {c:List Value} {t:TypeId} (hi:h.get i=some (.cells c t)):∃ b s e us,ρ i=some (b,s,e)/\rnL ρ c=some us/\∀ o u,us[o]?=some u->w.cell? ⟨b,s+o,none⟩=some u:=by
  obtain ⟨b,s,e,ob,h1,_,h3⟩:=hr.val i _ hi
  obtain ⟨pre,us,post,fz,k,_,k2,_⟩:=id h3
  exact ⟨b,s,e,us,h1,k2,fun o u hu=>hr.cell hw hi h1 k2 hu⟩
theorem tU {n:Option (List Value)} {f:List Value->Option (List Value)} {r:List Value} (e:aMn n f=some r):∃ l,n=some l/\f l=some r:=by
  cases n with
  | none=>cases e
  | some l=>exact ⟨l,rfl,e⟩
theorem sE {l:Option (List Value)} {v:Value} (e:aggO l=some v):∃ r,l=some r/\v=.agg ⟨r⟩:=by
  cases l with
  | none=>cases e
  | some r=>cases e; exact ⟨r,rfl,rfl⟩
theorem pF {n:Option Nat} {x:Option Value} {v:Value} (e:aC5 h n x=some v):∃ i o,x=some (.pointer (some ⟨i,o,none⟩))/\ldO o n (h.get i)=some v:=by
  unfold aC5 at e
  split at e
  · exact ⟨_,_,rfl,e⟩
  · cases e
theorem aVy (hr:HR P ρ h η) (hw:η.le w) {p p' v:Value} (e:aC5 h none (some p)=some v) (hp:rn ρ p=some p'):∃ b o u,p'=.pointer (some ⟨b,o,none⟩)/\rn ρ v=some u/\w.cell? ⟨b,o,none⟩=some u:=by
  obtain ⟨i,o,hx,e0⟩:=pF e
  cases hx
  clear e;unfold ldO at e0
  split at e0
  · rename_i c t hi
    simp only [zR] at e0
    obtain ⟨b,s,ex,us,h1,h2,h3⟩:=cells_at hr hw hi
    obtain ⟨b',s',e',h4,rfl⟩:=pU hp
    rw [h1] at h4; cases h4
    obtain ⟨u,h5,h6⟩:=zP h2 e0
    exact ⟨b,s+o,u,rfl,h6,h3 o u h5⟩
  · cases e0
theorem aVz (hr:HR P ρ h η) (hw:η.le w) {p p' v:Value} {n:Nat} (e:aC5 h (some n) (some p)=some v) (hp:rn ρ p=some p'):∃ (b o:Nat) (us:List Value),p'=.pointer (some ⟨b,o,none⟩)/\rn ρ v=some (.agg us.toArray)/\us.length=n/\∀ j u,us[j]?=some u->w.cell? ⟨b,o+j,none⟩=some u:=by
  obtain ⟨i,o,hx,e0⟩:=pF e
  cases hx
  clear e;unfold ldO at e0
  split at e0
  · rename_i c t hi
    obtain ⟨r,e1,rfl⟩:=sE e0
    obtain ⟨l,e2,e3⟩:=tU e1
    obtain ⟨rfl,k1⟩:=pE _ _ _ e2
    obtain ⟨rfl,k2⟩:=pD _ _ _ e3
    obtain ⟨b,s,ex,us,h1,h2,h3⟩:=cells_at hr hw hi
    obtain ⟨b',s',e',h4,rfl⟩:=pU hp
    rw [h1] at h4; cases h4
    have q1:=(iI o h2).2
    have q2:=(iI n q1).1
    refine ⟨b,s+o,(us.drop o).take n,rfl,by simp only [rn,rnR,q2],by rw [aL,rnL_len q1]; omega,fun j u hu=>?_⟩
    have hj:j<n:=by
      have:=(aC.1 hu).1
      simp at this; omega
    rw [cJ hj,dX] at hu;rw [dL]; exact h3 _ u hu
  · cases e0
theorem aIh {f:TypeId} {o:Nat} {n:Option Nat} {x x' v:Value} (e:aAx o n (some x)=some v) (hx:rn ρ x=some x')
    (hn:(∃ k,n=some k/\lP P f=some true/\szP P f=some k)\/(n=none/\lP P f=some false)):∃ cs u,x'=.agg cs/\rn ρ v=some u/\(part f cs o).run P w=.ok u w:=by
  unfold aAx at e
  split at e
  · rename_i cs hxx
    cases hxx
    obtain ⟨us,h1,rfl⟩:=rn_agg hx
    rcases hn with ⟨k,rfl,ha,hs⟩|⟨rfl,ha⟩
    · obtain ⟨r,e1,rfl⟩:=sE e
      obtain ⟨l,e2,e3⟩:=tU e1
      obtain ⟨rfl,k1⟩:=pE _ _ _ e2
      obtain ⟨rfl,k2⟩:=pD _ _ _ e3
      have q1:=(iI o h1).2
      have q2:=(iI k q1).1
      refine ⟨_,.agg ((us.drop o).take k).toArray,rfl,by simp only [rn,rnR,q2],?_⟩
      have:us.toArray.extract o (o+k)=((us.drop o).take k).toArray:=by simp
      simp [part,Eng.run_isAgg ha,Eng.run_sizeOf hs,this]
    · simp only [zR] at e
      obtain ⟨u,h5,h6⟩:=zP h1 e
      have h5':us.toArray[o]?=some u:=by simpa using h5
      exact ⟨_,u,rfl,h6,by simp [part,Eng.run_isAgg ha,h5']⟩
  · cases e
theorem iN {b o:Nat} {us:List Value} (hc:∀ j u,us[j]?=some u->w.cell? ⟨b,o+j,none⟩=some u):(loadCells ⟨b,o,none⟩ us.length).run P w=.ok us.toArray w:=
  run_loadCells_list (P:=P) (w:=w) ⟨b,o,none⟩ us (fun j v hv=>by rw [Addr.add_lit]; exact hc j v hv)
/-! cuts -/
theorem aD0 {t e:TypeId} {s n c l hi m:Nat} {a:Option Addr} {lo hi' mx:Option Value} (ht:P.underlying t=some (.slice e)) (hs:szP P e=some s)
    (h1:(lo=none/\l=0)\/∃ k,lo=some (.int k (l:Int))) (h2:(hi'=none/\hi=n)\/∃ k,hi'=some (.int k (hi:Int))) (h3:(mx=none/\m=c)\/(hi'≠none/\∃ k,mx=some (.int k (m:Int)))) (k1:l<=hi) (k2:hi<=m) (k3:m<=c) :
    (Instr.sliceAt t (.slice a n c) lo hi' mx).run P w=.ok (.slice (if m=l then a else a.map (·.add (l*s))) (hi-l) (m-l)) w:=by
  have b1:∀ (k:IntKind) (i y:Nat) (code:BoundsCode),i<=y->(Instr.sliceBound (.int k (i:Int)) y code).run P w=.ok i w:=fun k i y code h=>by
    have:((i:Nat):Int)<=(y:Int):=by omega
    simp [Instr.sliceBound,asIntOf,this]
  have hb:(Instr.sliceBounds true n c lo hi' mx).run P w=.ok (l,hi,m) w:=by
    rcases h3 with ⟨rfl,rfl⟩|⟨h0,k,rfl⟩
    · rcases h2 with ⟨rfl,rfl⟩|⟨k,rfl⟩ <;> rcases h1 with ⟨rfl,rfl⟩|⟨k',rfl⟩ <;> simp [Instr.sliceBounds,b1,k1,k2]
    · rcases h2 with ⟨rfl,rfl⟩|⟨k',rfl⟩
      · exact absurd rfl h0
      · rcases h1 with ⟨rfl,rfl⟩|⟨k2',rfl⟩ <;> simp [Instr.sliceBounds,b1,k1,k2,k3]
  simp only [Instr.sliceAt,Instr.slice]
  simp [run_underlying ht,hb,Eng.run_sizeOf hs]
theorem tV {b o l:Nat}:(⟨b,o,none⟩:Addr).add l=⟨b,o+l,none⟩:=by
  unfold Addr.add
  split
  · rename_i h; subst h; rfl
  · rfl
theorem aFk {x:Option (Option Value)} {d l:Nat} (h:(match x with|none=>some d|some x=>pC x)=some l):(x=none/\l=d)\/∃ k,x=some (some (.int k (l:Int))):=by
  cases x with
  | none=>cases h; exact .inl ⟨rfl,rfl⟩
  | some x=>obtain ⟨k,rfl⟩:=mK h; exact .inr ⟨k,rfl⟩
theorem nI {a b:Nat}:Nat.blt a b=true↔a<b:=by simp [Nat.blt,Nat.lt_iff_add_one_le]
theorem aD1 {a b:Nat}:Nat.blt a b=false↔b<=a:=by
  rw [← Bool.not_eq_true,nI]; omega
theorem aMr {c:Nat}:lt1 c=true↔c<big:=nI
theorem aIi {c:Nat}:lt1 c=false↔big<=c:=aD1
theorem aD2 {c:Nat}:lt2 c=true↔c<mX:=nI
theorem aRs {c:Nat}:lt2 c=false↔mX<=c:=aD1
theorem aA7 {c:Nat} (h:c<big):oR c=c:=by unfold oR; rw [aMr.2 h]; rfl
theorem aA8 {c:Nat} (h:big<=c) (h2:c<mX):oR c=nD c:=by unfold oR; rw [aIi.2 h,aD2.2 h2,cond_false,cond_true]
theorem aRt:big<=mX:=aT rfl
theorem aIj {c:Nat} (h2:mX<=c):oR c=0:=by
  have:big<=c:=cT aRt h2
  unfold oR; rw [aIi.2 this,aRs.2 h2,cond_false,cond_false]
theorem aUb (c:Nat):nD c<=c:=Nat.mod_le c big
theorem aUc {c:Nat} (h:big<=c) (h2:c<mX):c=big+nD c/\nD c<big:=by simp only [big,mX,nD] at *; omega
theorem aRu {c l:Nat} (h:big<=c) (h2:c<mX) (hl:l<=nD c):nD (c-l)=nD c-l/\big<=c-l/\c-l<mX:=by simp only [big,mX,nD] at *; omega
theorem aUd {d:Nat} (h:d<mX):aOf (mX+d)=d:=by simp only [mX,aOf] at *; omega
theorem aFl (c:Nat):oR c<=c:=by
  rcases dP c big with h|h
  · rw [aA7 h]; exact aK _
  · rcases dP c mX with h2|h2
    · rw [aA8 h h2]; exact aUb c
    · rw [aIj h2]; exact cA _
theorem lU {i o n c b s e:Nat} (h:ρ i=some (b,s,e)) (hc:c<big):rn ρ (.slice (some ⟨i,o,none⟩) n c)=some (.slice (some ⟨b,s+o,none⟩) n c):=by
  simp only [rn,rnS,h,if_pos hc]
theorem nY {i o n c:Nat}:rn ρ (.slice (some ⟨i,o,none⟩) n c)=rnS ρ i o n c:=by simp only [rn]
theorem pV {i o n c b s e:Nat} (h:ρ i=some (b,s,e)) (hc:big<=c) (hc2:c<mX):rn ρ (.slice (some ⟨i,o,none⟩) n c)=some (.slice (some ⟨b,s+o,none⟩) n (nD c+e)):=by
  rw [nY]; unfold rnS; rw [h]; dsimp only; rw [if_neg (dJ.2 hc),if_pos hc2]
theorem aFm {i o c b s e:Nat} (h:ρ i=some (b,s,e)) (hc2:mX<=c):rn ρ (.slice (some ⟨i,o,none⟩) 0 c)=if e=0 then some (.slice (some ⟨b,s+o,none⟩) 0 0) else some (.slice (some ⟨b,s+(o+(aOf c)),none⟩) 0 e):=by
  have:big<=c:=cT aRt hc2
  rw [nY]; unfold rnS; rw [h]; dsimp only; rw [if_neg (dJ.2 this),if_neg (dJ.2 hc2),if_pos rfl]
theorem aUe {t e:TypeId} {s:Nat} {v v' r:Value} {lo hi mx:Option (Option Value)} {lo' hi' mx':Option Value} (ht:P.underlying t=some (.slice e)) (hs:szP P e=some s) (h:aQy v lo hi mx s=some r) (hv:rn ρ v=some v')
    (hlo:∀ k (i:Int),lo=some (some (.int k i))->lo'=some (.int k i)) (hlo0:lo=none->lo'=none) (hhi:∀ k (i:Int),hi=some (some (.int k i))->hi'=some (.int k i)) (hhi0:hi=none->hi'=none) (hmx:∀ k (i:Int),mx=some (some (.int k i))->mx'=some (.int k i)) (hmx0:mx=none->mx'=none) :
    ∃ u,rn ρ r=some u/\(Instr.sliceAt t v' lo' hi' mx').run P w=.ok u w:=by
  unfold aQy at h
  split at h
  · rename_i a n c
    generalize hL:(match lo with|none=>some 0|some x=>pC x)=L at h
    generalize hH:(match hi with|none=>some n|some x=>pC x)=H at h
    generalize hM:(match mx with|none=>none|some x=>bif hi.isSome then some (pC x) else some none)=M at h
    unfold cutO at h
    split at h
    · rename_i l hh hL hH hM
      have q1:(lo'=none/\l=0)\/∃ k,lo'=some (.int k (l:Int)):=by
        rcases aFk hL with ⟨h1,h2⟩|⟨k,h1⟩
        · exact .inl ⟨hlo0 h1,h2⟩
        · exact .inr ⟨k,hlo k _ h1⟩
      have q2:(hi'=none/\hh=n)\/∃ k,hi'=some (.int k (hh:Int)):=by
        rcases aFk hH with ⟨h1,h2⟩|⟨k,h1⟩
        · exact .inl ⟨hhi0 h1,h2⟩
        · exact .inr ⟨k,hhi k _ h1⟩
      have q3:mx'=none:=by
        apply hmx0
        cases mx with
        | none=>rfl
        | some x=>cases hi <;> simp at hM
      have go:∀ (a':Option Addr) (C:Nat),l<=hh->hh<=C->(Instr.sliceAt t (.slice a' n C) lo' hi' mx').run P w=.ok (.slice (if C=l then a' else a'.map (·.add (l*s))) (hh-l) (C-l)) w:=fun a' C k1 k2 =>
        aD0 ht hs q1 q2 (.inl ⟨q3,rfl⟩) k1 k2 (aK _)
      unfold cut2 at h
      cases hb:(Nat.ble l hh && Nat.ble hh (oR c)) with
      | false=>rw [hb] at h; cases h
      | true =>
        rw [hb] at h;simp only [aJ,Nat.ble_eq,cond_true] at hb h
        obtain ⟨k1,k2⟩:=hb
        cases a with
        | none =>
          cases hv
          have hkc:oR c<=c:=aFl c
          cases hl:Nat.blt l (oR c) with
          | true =>
            rw [hl] at h
            cases h
            refine ⟨_,rfl,?_⟩
            rw [go none c k1 (by omega)]
            simp [at?]
          | false =>
            rw [hl] at h;simp only [cond_false,aQx] at h
            cases hc:lt1 c with
            | false=>rw [hc] at h; cases h
            | true =>
              rw [hc] at h
              cases h
              have e1:=aA7 (aMr.1 hc)
              have e2:=aD1.1 hl
              refine ⟨_,rfl,?_⟩
              rw [go none c k1 (by omega),show c-l=0 from by omega]
              simp
        | some ad =>
          obtain ⟨i,o,sp⟩:=ad
          cases sp with
          | some x=>simp [rn] at hv
          | none =>
            obtain ⟨b,sb,ex,hρ,_⟩:=nX hv
            by_cases c1:c<big
            · rw [lU hρ c1] at hv; cases hv
              rw [aA7 c1] at h k2
              cases hl:Nat.blt l c with
              | true =>
                rw [hl] at h; cases h
                have hl:=nI.1 hl
                refine ⟨_,lU hρ (by omega),?_⟩
                rw [go _ c k1 k2,if_neg (by omega)]
                simp [tV,dL]
              | false =>
                rw [hl] at h;simp only [cond_false,aQx,aMr.2 c1,cond_true] at h
                cases h
                have hl:=aD1.1 hl
                refine ⟨_,lU hρ (by simp [big]),?_⟩
                rw [go _ c k1 k2,if_pos (by omega),show c-l=0 from by omega]
            · by_cases c2:c<mX
              · rw [pV hρ (dJ.1 c1) c2] at hv; cases hv
                rw [aA8 (dJ.1 c1) c2] at h k2
                cases hl:Nat.blt l (nD c) with
                | true =>
                  rw [hl] at h; cases h
                  have hl:=nI.1 hl
                  obtain ⟨z1,z2,z3⟩:=aRu (dJ.1 c1) c2 (Nat.le_of_lt hl)
                  refine ⟨_,pV hρ z2 z3,?_⟩
                  rw [go _ (nD c+ex) k1 (by omega),if_neg (by omega),show nD c+ex-l=nD (c-l)+ex from by omega]
                  simp [tV,dL]
                | false =>
                  rw [hl] at h;simp only [cond_false,aQx,aIi.2 (dJ.1 c1),aD2.2 c2,cond_true] at h
                  have hls:l*s<mX:=by
                    cases q:lt2 (l*s) with
                    | true=>exact aD2.1 q
                    | false=>rw [q] at h; cases h
                  rw [aD2.2 hls] at h
                  cases h
                  have hl:=aD1.1 hl
                  rw [aFm hρ (Nat.le_add_right _ _),aUd hls]
                  by_cases he:ex=0
                  · rw [if_pos he]
                    refine ⟨_,rfl,?_⟩
                    rw [go _ (nD c+ex) k1 (by omega),if_pos (by omega),show nD c+ex-l=0 from by omega,show hh-l=0 from by omega]
                  · rw [if_neg he]
                    refine ⟨_,rfl,?_⟩
                    rw [go _ (nD c+ex) k1 (by omega),if_neg (by omega),show nD c+ex-l=ex from by omega,show hh-l=0 from by omega]
                    simp [tV,dL]
              · have c2:=dJ.1 c2
                rw [aIj c2] at h k2
                have:Nat.blt l 0=false:=aD1.2 (cA _)
                rw [this] at h;simp only [cond_false,aQx,aIi.2 (dJ.1 c1),aRs.2 c2] at h
                cases h
                have l0:l=0:=by omega
                have h0:hh=0:=by omega
                subst l0 h0
                have hn:n=0:=by
                  have hv2:=hv
                  simp only [rn,rnS,hρ,if_neg c1,if_neg (dJ.2 c2)] at hv2
                  split at hv2
                  · assumption
                  · cases hv2
                subst hn;refine ⟨v',hv,?_⟩;rw [aFm hρ c2] at hv
                by_cases he:ex=0
                · rw [if_pos he] at hv; cases hv
                  rw [go _ 0 k1 (by omega)]; simp
                · rw [if_neg he] at hv; cases hv
                  rw [go _ ex k1 (by omega)]
                  simp [tV]
    · rename_i l hh m hL hH hM
      cases hb0:(Nat.ble m (oR c) && lt2 c) with
      | false=>rw [hb0] at h; cases h
      | true =>
        rw [hb0] at h;simp only [aJ,Nat.ble_eq,cond_true] at hb0 h
        obtain ⟨k3,hc2⟩:=hb0
        have hc2:=aD2.1 hc2
        unfold cut3 at h
        cases hb:(Nat.ble l hh && Nat.ble hh m) with
        | false=>rw [hb] at h; cases h
        | true =>
          rw [hb] at h;simp only [aJ,Nat.ble_eq,cond_true,aD] at hb h
          obtain ⟨k1,k2⟩:=hb
          subst h
          have q1:(lo'=none/\l=0)\/∃ k,lo'=some (.int k (l:Int)):=by
            rcases aFk hL with ⟨h1,h2⟩|⟨k,h1⟩
            · exact .inl ⟨hlo0 h1,h2⟩
            · exact .inr ⟨k,hlo k _ h1⟩
          have q2:(hi'=none/\hh=n)\/∃ k,hi'=some (.int k (hh:Int)):=by
            rcases aFk hH with ⟨h1,h2⟩|⟨k,h1⟩
            · exact .inl ⟨hhi0 h1,h2⟩
            · exact .inr ⟨k,hhi k _ h1⟩
          have q3:hi'≠none/\∃ k,mx'=some (.int k (m:Int)):=by
            cases mx with
            | none=>cases hM
            | some x =>
              cases hi with
              | none=>cases hM
              | some y =>
                simp only [Option.isSome_some,cond_true,aD] at hM
                obtain ⟨k,rfl⟩:=mK hM
                refine ⟨?_,k,hmx k _ rfl⟩
                obtain ⟨k,rfl⟩:=mK (show pC y=some hh from hH)
                rw [hhi k _ rfl]; simp
          have go:∀ (a':Option Addr) (C:Nat),m<=C->(Instr.sliceAt t (.slice a' n C) lo' hi' mx').run P w=.ok (.slice (if m=l then a' else a'.map (·.add (l*s))) (hh-l) (m-l)) w:=fun a' C k4 =>
            aD0 ht hs q1 q2 (.inr q3) k1 k2 k4
          have hkc:oR c<=c:=aFl c
          have hml:∀ x y:Option Addr,(bif Nat.beq m l then x else y)=if m=l then x else y:=fun x y=>bq m l x y
          rw [hml]
          cases a with
          | none =>
            cases hv
            refine ⟨_,?_,go none c (by omega)⟩
            have e1:(if m=l then none else at? none (l*s))=none:=by split <;> rfl
            have e2:(if m=l then (none:Option Addr) else Option.map (fun a:Addr=>a.add (l*s)) none)=none:=by split <;> rfl
            rw [e1,e2]; rfl
          | some ad =>
            obtain ⟨i,o,sp⟩:=ad
            cases sp with
            | some x=>simp [rn] at hv
            | none =>
              obtain ⟨b,sb,ex,hρ,_⟩:=nX hv
              have hmb:m-l<big:=by
                by_cases c1:c<big
                · rw [aA7 c1] at k3; omega
                · rw [aA8 (dJ.1 c1) hc2] at k3
                  have:=(aUc (dJ.1 c1) hc2).2
                  omega
              have fin:∀ C,m<=C->∃ u,rn ρ (.slice (if m=l then some ⟨i,o,none⟩ else at? (some ⟨i,o,none⟩) (l*s)) (hh-l) (m-l))=some u/\(Instr.sliceAt t (.slice (some ⟨b,sb+o,none⟩) n C) lo' hi' mx').run P w=.ok u w:=fun C hC=>by
                rw [go _ C hC]
                by_cases e:m=l
                · rw [if_pos e,if_pos e]
                  exact ⟨_,lU hρ hmb,rfl⟩
                · rw [if_neg e,if_neg e]
                  refine ⟨_,lU hρ hmb,?_⟩
                  simp [tV,dL]
              by_cases c1:c<big
              · rw [lU hρ c1] at hv; cases hv
                exact fin c (by omega)
              · rw [pV hρ (dJ.1 c1) hc2] at hv; cases hv
                rw [aA8 (dJ.1 c1) hc2] at k3
                exact fin _ (by omega)
    · cases h
  · cases h
end
end Go.Ev
