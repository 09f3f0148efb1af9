/- Texts of this proof, one after the other; no conditions. -/
import Derived.Laws.BytesString
import Derived.Deep.Upon
import Derived.Laws.MakeOwn
import Derived.MapKept
import Derived.Test.YtekcielcagdcmaaGreatDoorWB6
set_option linter.all false
/- Runs of closed calls, reckoned: reads of memory, parts, cuts. No conditions. -/
namespace Go.Ev
open Go.Eng
section
variable {P:Program} {ρ:Rn} {fr:Fr} {ev:Operand→Value} {w:World} {h:AH} {η:PH}
theorem cells_at (hr:HR P ρ h η) (hw:η.le w) {i:Nat} {c:List Value} {t:TypeId} (hi:h.get i=some (.cells c t)):∃ b s e us,ρ i=some (b,s,e)∧rnL ρ c=some us∧∀ o u,us[o]?=some u→w.cell? ⟨b,s+o,none⟩=some u:=by
  obtain ⟨b,s,e,ob,h1,_,h3⟩:=hr.val i _ hi
  obtain ⟨pre,us,post,fz,k,_,k2,_⟩:=id h3
  exact ⟨b,s,e,us,h1,k2,fun o u hu=>hr.cell hw hi h1 k2 hu⟩
theorem takeO_some {n:Option (List Value)} {f:List Value→Option (List Value)} {r:List Value} (e:takeO n f=some r):∃ l,n=some l∧f l=some r:=by
  cases n with
  | none=>cases e
  | some l=>exact ⟨l,rfl,e⟩
theorem aggO_some {l:Option (List Value)} {v:Value} (e:aggO l=some v):∃ r,l=some r∧v=.agg ⟨r⟩:=by
  cases l with
  | none=>cases e
  | some r=>cases e; exact ⟨r,rfl,rfl⟩
theorem evLd_ptr {n:Option Nat} {x:Option Value} {v:Value} (e:evLd h n x=some v):∃ i o,x=some (.pointer (some ⟨i,o,none⟩))∧ldO o n (h.get i)=some v:=by
  unfold evLd at e
  split at e
  · exact ⟨_,_,rfl,e⟩
  · cases e
theorem evLd1 (hr:HR P ρ h η) (hw:η.le w) {p p' v:Value} (e:evLd h none (some p)=some v) (hp:rn ρ p=some p'):∃ b o u,p'=.pointer (some ⟨b,o,none⟩)∧rn ρ v=some u∧w.cell? ⟨b,o,none⟩=some u:=by
  obtain ⟨i,o,hx,e0⟩:=evLd_ptr e
  cases hx
  clear e;unfold ldO at e0
  split at e0
  · rename_i c t hi
    simp only [getC_eq] at e0
    obtain ⟨b,s,ex,us,h1,h2,h3⟩:=cells_at hr hw hi
    obtain ⟨b',s',e',h4,rfl⟩:=rn_ptr hp
    rw [h1] at h4; cases h4
    obtain ⟨u,h5,h6⟩:=rnL_get h2 e0
    exact ⟨b,s+o,u,rfl,h6,h3 o u h5⟩
  · cases e0
theorem evLdn (hr:HR P ρ h η) (hw:η.le w) {p p' v:Value} {n:Nat} (e:evLd h (some n) (some p)=some v) (hp:rn ρ p=some p'):∃ (b o:Nat) (us:List Value),p'=.pointer (some ⟨b,o,none⟩)∧rn ρ v=some (.agg us.toArray)∧us.length=n∧∀ j u,us[j]?=some u→w.cell? ⟨b,o+j,none⟩=some u:=by
  obtain ⟨i,o,hx,e0⟩:=evLd_ptr e
  cases hx
  clear e;unfold ldO at e0
  split at e0
  · rename_i c t hi
    obtain ⟨r,e1,rfl⟩:=aggO_some e0
    obtain ⟨l,e2,e3⟩:=takeO_some e1
    obtain ⟨rfl,k1⟩:=dropC_eq _ _ _ e2
    obtain ⟨rfl,k2⟩:=takeC_eq _ _ _ e3
    obtain ⟨b,s,ex,us,h1,h2,h3⟩:=cells_at hr hw hi
    obtain ⟨b',s',e',h4,rfl⟩:=rn_ptr hp
    rw [h1] at h4; cases h4
    have q1:=(rnL_split o h2).2
    have q2:=(rnL_split n q1).1
    refine ⟨b,s+o,(us.drop o).take n,rfl,by simp only [rn,rnR,q2],by rw [List.length_take,rnL_len q1]; omega,fun j u hu=>?_⟩
    have hj:j<n:=by
      have:=(List.getElem?_eq_some_iff.1 hu).1
      simp at this; omega
    rw [List.getElem?_take_of_lt hj,List.getElem?_drop] at hu;rw [Nat.add_assoc]; exact h3 _ u hu
  · cases e0
theorem part_run {f:TypeId} {o:Nat} {n:Option Nat} {x x' v:Value} (e:miPart o n (some x)=some v) (hx:rn ρ x=some x')
    (hn:(∃ k,n=some k∧aggP P f=some true∧szP P f=some k)∨(n=none∧aggP P f=some false)):∃ cs u,x'=.agg cs∧rn ρ v=some u∧(part f cs o).run P w=.ok u w:=by
  unfold miPart at e
  split at e
  · rename_i cs hxx
    cases hxx
    obtain ⟨us,h1,rfl⟩:=rn_agg hx
    rcases hn with ⟨k,rfl,ha,hs⟩|⟨rfl,ha⟩
    · obtain ⟨r,e1,rfl⟩:=aggO_some e
      obtain ⟨l,e2,e3⟩:=takeO_some e1
      obtain ⟨rfl,k1⟩:=dropC_eq _ _ _ e2
      obtain ⟨rfl,k2⟩:=takeC_eq _ _ _ e3
      have q1:=(rnL_split o h1).2
      have q2:=(rnL_split k q1).1
      refine ⟨_,.agg ((us.drop o).take k).toArray,rfl,by simp only [rn,rnR,q2],?_⟩
      have:us.toArray.extract o (o+k)=((us.drop o).take k).toArray:=by simp
      simp [part,Eng.run_isAgg ha,Eng.run_sizeOf hs,this]
    · simp only [getC_eq] at e
      obtain ⟨u,h5,h6⟩:=rnL_get h1 e
      have h5':us.toArray[o]?=some u:=by simpa using h5
      exact ⟨_,u,rfl,h6,by simp [part,Eng.run_isAgg ha,h5']⟩
  · cases e
theorem loadCells_run {b o:Nat} {us:List Value} (hc:∀ j u,us[j]?=some u→w.cell? ⟨b,o+j,none⟩=some u):(loadCells ⟨b,o,none⟩ us.length).run P w=.ok us.toArray w:=
  run_loadCells_list (P:=P) (w:=w) ⟨b,o,none⟩ us (fun j v hv=>by rw [Addr.add_lit]; exact hc j v hv)
/-! cuts -/
theorem slice_run {t e:TypeId} {s n c l hi m:Nat} {a:Option Addr} {lo hi' mx:Option Value} (ht:P.underlying t=some (.slice e)) (hs:szP P e=some s)
    (h1:(lo=none∧l=0)∨∃ k,lo=some (.int k (l:Int))) (h2:(hi'=none∧hi=n)∨∃ k,hi'=some (.int k (hi:Int))) (h3:(mx=none∧m=c)∨(hi'≠none∧∃ k,mx=some (.int k (m:Int)))) (k1:l≤hi) (k2:hi≤m) (k3:m≤c) :
    (Instr.sliceAt t (.slice a n c) lo hi' mx).run P w=.ok (.slice (if m=l then a else a.map (·.add (l*s))) (hi-l) (m-l)) w:=by
  have b1:∀ (k:IntKind) (i y:Nat) (code:BoundsCode),i≤y→(Instr.sliceBound (.int k (i:Int)) y code).run P w=.ok i w:=fun k i y code h=>by
    have:((i:Nat):Int)≤(y:Int):=by omega
    simp [Instr.sliceBound,asIntOf,this]
  have hb:(Instr.sliceBounds true n c lo hi' mx).run P w=.ok (l,hi,m) w:=by
    rcases h3 with ⟨rfl,rfl⟩|⟨h0,k,rfl⟩
    · rcases h2 with ⟨rfl,rfl⟩|⟨k,rfl⟩ <;> rcases h1 with ⟨rfl,rfl⟩|⟨k',rfl⟩ <;> simp [Instr.sliceBounds,b1,k1,k2]
    · rcases h2 with ⟨rfl,rfl⟩|⟨k',rfl⟩
      · exact absurd rfl h0
      · rcases h1 with ⟨rfl,rfl⟩|⟨k2',rfl⟩ <;> simp [Instr.sliceBounds,b1,k1,k2,k3]
  simp only [Instr.sliceAt,Instr.slice]
  simp [run_underlying ht,hb,Eng.run_sizeOf hs]
theorem add_at {b o l:Nat}:(⟨b,o,none⟩:Addr).add l=⟨b,o+l,none⟩:=by
  unfold Addr.add
  split
  · rename_i h; subst h; rfl
  · rfl
theorem natOpt {x:Option (Option Value)} {d l:Nat} (h:(match x with|none=>some d|some x=>natOf x)=some l):(x=none∧l=d)∨∃ k,x=some (some (.int k (l:Int))):=by
  cases x with
  | none=>cases h; exact .inl ⟨rfl,rfl⟩
  | some x=>obtain ⟨k,rfl⟩:=natOf_some h; exact .inr ⟨k,rfl⟩
theorem blt_t {a b:Nat}:Nat.blt a b=true↔a<b:=by simp [Nat.blt,Nat.lt_iff_add_one_le]
theorem blt_f {a b:Nat}:Nat.blt a b=false↔b≤a:=by
  rw [← Bool.not_eq_true,blt_t]; omega
theorem lt1_t {c:Nat}:lt1 c=true↔c<big:=blt_t
theorem lt1_f {c:Nat}:lt1 c=false↔big≤c:=blt_f
theorem lt2_t {c:Nat}:lt2 c=true↔c<big2:=blt_t
theorem lt2_f {c:Nat}:lt2 c=false↔big2≤c:=blt_f
theorem kcap1 {c:Nat} (h:c<big):kcap c=c:=by unfold kcap; rw [lt1_t.2 h]; rfl
theorem kcap2 {c:Nat} (h:big≤c) (h2:c<big2):kcap c=sub1 c:=by unfold kcap; rw [lt1_f.2 h,lt2_t.2 h2,cond_false,cond_true]
theorem big_le:big≤big2:=Nat.le_of_ble_eq_true rfl
theorem kcap3 {c:Nat} (h2:big2≤c):kcap c=0:=by
  have:big≤c:=Nat.le_trans big_le h2
  unfold kcap; rw [lt1_f.2 this,lt2_f.2 h2,cond_false,cond_false]
theorem sub1_le (c:Nat):sub1 c≤c:=Nat.mod_le c big
theorem sub1_eq {c:Nat} (h:big≤c) (h2:c<big2):c=big+sub1 c∧sub1 c<big:=by simp only [big,big2,sub1] at *; omega
theorem sub1_sub {c l:Nat} (h:big≤c) (h2:c<big2) (hl:l≤sub1 c):sub1 (c-l)=sub1 c-l∧big≤c-l∧c-l<big2:=by simp only [big,big2,sub1] at *; omega
theorem sub2_eq {d:Nat} (h:d<big2):sub2 (big2+d)=d:=by simp only [big2,sub2] at *; omega
theorem kcap_le (c:Nat):kcap c≤c:=by
  rcases Nat.lt_or_ge c big with h|h
  · rw [kcap1 h]; exact Nat.le_refl _
  · rcases Nat.lt_or_ge c big2 with h2|h2
    · rw [kcap2 h h2]; exact sub1_le c
    · rw [kcap3 h2]; exact Nat.zero_le _
theorem rn_sl1 {i o n c b s e:Nat} (h:ρ i=some (b,s,e)) (hc:c<big):rn ρ (.slice (some ⟨i,o,none⟩) n c)=some (.slice (some ⟨b,s+o,none⟩) n c):=by
  simp only [rn,rnS,h,if_pos hc]
theorem rn_eq {i o n c:Nat}:rn ρ (.slice (some ⟨i,o,none⟩) n c)=rnS ρ i o n c:=by simp only [rn]
theorem rn_sl2 {i o n c b s e:Nat} (h:ρ i=some (b,s,e)) (hc:big≤c) (hc2:c<big2):rn ρ (.slice (some ⟨i,o,none⟩) n c)=some (.slice (some ⟨b,s+o,none⟩) n (sub1 c+e)):=by
  rw [rn_eq]; unfold rnS; rw [h]; dsimp only; rw [if_neg (Nat.not_lt.2 hc),if_pos hc2]
theorem rn_sl3 {i o c b s e:Nat} (h:ρ i=some (b,s,e)) (hc2:big2≤c):rn ρ (.slice (some ⟨i,o,none⟩) 0 c)=if e=0 then some (.slice (some ⟨b,s+o,none⟩) 0 0) else some (.slice (some ⟨b,s+(o+(sub2 c)),none⟩) 0 e):=by
  have:big≤c:=Nat.le_trans big_le hc2
  rw [rn_eq]; unfold rnS; rw [h]; dsimp only; rw [if_neg (Nat.not_lt.2 this),if_neg (Nat.not_lt.2 hc2),if_pos rfl]
theorem cut_run {t e:TypeId} {s:Nat} {v v' r:Value} {lo hi mx:Option (Option Value)} {lo' hi' mx':Option Value} (ht:P.underlying t=some (.slice e)) (hs:szP P e=some s) (h:evCut v lo hi mx s=some r) (hv:rn ρ v=some v')
    (hlo:∀ k (i:Int),lo=some (some (.int k i))→lo'=some (.int k i)) (hlo0:lo=none→lo'=none) (hhi:∀ k (i:Int),hi=some (some (.int k i))→hi'=some (.int k i)) (hhi0:hi=none→hi'=none) (hmx:∀ k (i:Int),mx=some (some (.int k i))→mx'=some (.int k i)) (hmx0:mx=none→mx'=none) :
    ∃ u,rn ρ r=some u∧(Instr.sliceAt t v' lo' hi' mx').run P w=.ok u w:=by
  unfold evCut at h
  split at h
  · rename_i a n c
    generalize hL:(match lo with|none=>some 0|some x=>natOf x)=L at h
    generalize hH:(match hi with|none=>some n|some x=>natOf x)=H at h
    generalize hM:(match mx with|none=>none|some x=>bif hi.isSome then some (natOf x) else some none)=M at h
    unfold cutO at h
    split at h
    · rename_i l hh hL hH hM
      have q1:(lo'=none∧l=0)∨∃ k,lo'=some (.int k (l:Int)):=by
        rcases natOpt hL with ⟨h1,h2⟩|⟨k,h1⟩
        · exact .inl ⟨hlo0 h1,h2⟩
        · exact .inr ⟨k,hlo k _ h1⟩
      have q2:(hi'=none∧hh=n)∨∃ k,hi'=some (.int k (hh:Int)):=by
        rcases natOpt hH with ⟨h1,h2⟩|⟨k,h1⟩
        · exact .inl ⟨hhi0 h1,h2⟩
        · exact .inr ⟨k,hhi k _ h1⟩
      have q3:mx'=none:=by
        apply hmx0
        cases mx with
        | none=>rfl
        | some x=>cases hi <;> simp at hM
      have go:∀ (a':Option Addr) (C:Nat),l≤hh→hh≤C→(Instr.sliceAt t (.slice a' n C) lo' hi' mx').run P w=.ok (.slice (if C=l then a' else a'.map (·.add (l*s))) (hh-l) (C-l)) w:=fun a' C k1 k2 =>
        slice_run ht hs q1 q2 (.inl ⟨q3,rfl⟩) k1 k2 (Nat.le_refl _)
      unfold cut2 at h
      cases hb:(Nat.ble l hh && Nat.ble hh (kcap c)) with
      | false=>rw [hb] at h; cases h
      | true =>
        rw [hb] at h;simp only [Bool.and_eq_true,Nat.ble_eq,cond_true] at hb h
        obtain ⟨k1,k2⟩:=hb
        cases a with
        | none =>
          cases hv
          have hkc:kcap c≤c:=kcap_le c
          cases hl:Nat.blt l (kcap c) with
          | true =>
            rw [hl] at h
            cases h
            refine ⟨_,rfl,?_⟩
            rw [go none c k1 (by omega)]
            simp [at?]
          | false =>
            rw [hl] at h;simp only [cond_false,cutE] at h
            cases hc:lt1 c with
            | false=>rw [hc] at h; cases h
            | true =>
              rw [hc] at h
              cases h
              have e1:=kcap1 (lt1_t.1 hc)
              have e2:=blt_f.1 hl
              refine ⟨_,rfl,?_⟩
              rw [go none c k1 (by omega),show c-l=0 from by omega]
              simp
        | some ad =>
          obtain ⟨i,o,sp⟩:=ad
          cases sp with
          | some x=>simp [rn] at hv
          | none =>
            obtain ⟨b,sb,ex,hρ,_⟩:=rn_slice hv
            by_cases c1:c<big
            · rw [rn_sl1 hρ c1] at hv; cases hv
              rw [kcap1 c1] at h k2
              cases hl:Nat.blt l c with
              | true =>
                rw [hl] at h; cases h
                have hl:=blt_t.1 hl
                refine ⟨_,rn_sl1 hρ (by omega),?_⟩
                rw [go _ c k1 k2,if_neg (by omega)]
                simp [add_at,Nat.add_assoc]
              | false =>
                rw [hl] at h;simp only [cond_false,cutE,lt1_t.2 c1,cond_true] at h
                cases h
                have hl:=blt_f.1 hl
                refine ⟨_,rn_sl1 hρ (by simp [big]),?_⟩
                rw [go _ c k1 k2,if_pos (by omega),show c-l=0 from by omega]
            · by_cases c2:c<big2
              · rw [rn_sl2 hρ (Nat.not_lt.1 c1) c2] at hv; cases hv
                rw [kcap2 (Nat.not_lt.1 c1) c2] at h k2
                cases hl:Nat.blt l (sub1 c) with
                | true =>
                  rw [hl] at h; cases h
                  have hl:=blt_t.1 hl
                  obtain ⟨z1,z2,z3⟩:=sub1_sub (Nat.not_lt.1 c1) c2 (Nat.le_of_lt hl)
                  refine ⟨_,rn_sl2 hρ z2 z3,?_⟩
                  rw [go _ (sub1 c+ex) k1 (by omega),if_neg (by omega),show sub1 c+ex-l=sub1 (c-l)+ex from by omega]
                  simp [add_at,Nat.add_assoc]
                | false =>
                  rw [hl] at h;simp only [cond_false,cutE,lt1_f.2 (Nat.not_lt.1 c1),lt2_t.2 c2,cond_true] at h
                  have hls:l*s<big2:=by
                    cases q:lt2 (l*s) with
                    | true=>exact lt2_t.1 q
                    | false=>rw [q] at h; cases h
                  rw [lt2_t.2 hls] at h
                  cases h
                  have hl:=blt_f.1 hl
                  rw [rn_sl3 hρ (Nat.le_add_right _ _),sub2_eq hls]
                  by_cases he:ex=0
                  · rw [if_pos he]
                    refine ⟨_,rfl,?_⟩
                    rw [go _ (sub1 c+ex) k1 (by omega),if_pos (by omega),show sub1 c+ex-l=0 from by omega,show hh-l=0 from by omega]
                  · rw [if_neg he]
                    refine ⟨_,rfl,?_⟩
                    rw [go _ (sub1 c+ex) k1 (by omega),if_neg (by omega),show sub1 c+ex-l=ex from by omega,show hh-l=0 from by omega]
                    simp [add_at,Nat.add_assoc]
              · have c2:=Nat.not_lt.1 c2
                rw [kcap3 c2] at h k2
                have:Nat.blt l 0=false:=blt_f.2 (Nat.zero_le _)
                rw [this] at h;simp only [cond_false,cutE,lt1_f.2 (Nat.not_lt.1 c1),lt2_f.2 c2] at h
                cases h
                have l0:l=0:=by omega
                have h0:hh=0:=by omega
                subst l0 h0
                have hn:n=0:=by
                  have hv2:=hv
                  simp only [rn,rnS,hρ,if_neg c1,if_neg (Nat.not_lt.2 c2)] at hv2
                  split at hv2
                  · assumption
                  · cases hv2
                subst hn;refine ⟨v',hv,?_⟩;rw [rn_sl3 hρ c2] at hv
                by_cases he:ex=0
                · rw [if_pos he] at hv; cases hv
                  rw [go _ 0 k1 (by omega)]; simp
                · rw [if_neg he] at hv; cases hv
                  rw [go _ ex k1 (by omega)]
                  simp [add_at]
    · rename_i l hh m hL hH hM
      cases hb0:(Nat.ble m (kcap c) && lt2 c) with
      | false=>rw [hb0] at h; cases h
      | true =>
        rw [hb0] at h;simp only [Bool.and_eq_true,Nat.ble_eq,cond_true] at hb0 h
        obtain ⟨k3,hc2⟩:=hb0
        have hc2:=lt2_t.1 hc2
        unfold cut3 at h
        cases hb:(Nat.ble l hh && Nat.ble hh m) with
        | false=>rw [hb] at h; cases h
        | true =>
          rw [hb] at h;simp only [Bool.and_eq_true,Nat.ble_eq,cond_true,Option.some.injEq] at hb h
          obtain ⟨k1,k2⟩:=hb
          subst h
          have q1:(lo'=none∧l=0)∨∃ k,lo'=some (.int k (l:Int)):=by
            rcases natOpt hL with ⟨h1,h2⟩|⟨k,h1⟩
            · exact .inl ⟨hlo0 h1,h2⟩
            · exact .inr ⟨k,hlo k _ h1⟩
          have q2:(hi'=none∧hh=n)∨∃ k,hi'=some (.int k (hh:Int)):=by
            rcases natOpt hH with ⟨h1,h2⟩|⟨k,h1⟩
            · exact .inl ⟨hhi0 h1,h2⟩
            · exact .inr ⟨k,hhi k _ h1⟩
          have q3:hi'≠none∧∃ k,mx'=some (.int k (m:Int)):=by
            cases mx with
            | none=>cases hM
            | some x =>
              cases hi with
              | none=>cases hM
              | some y =>
                simp only [Option.isSome_some,cond_true,Option.some.injEq] at hM
                obtain ⟨k,rfl⟩:=natOf_some hM
                refine ⟨?_,k,hmx k _ rfl⟩
                obtain ⟨k,rfl⟩:=natOf_some (show natOf y=some hh from hH)
                rw [hhi k _ rfl]; simp
          have go:∀ (a':Option Addr) (C:Nat),m≤C→(Instr.sliceAt t (.slice a' n C) lo' hi' mx').run P w=.ok (.slice (if m=l then a' else a'.map (·.add (l*s))) (hh-l) (m-l)) w:=fun a' C k4 =>
            slice_run ht hs q1 q2 (.inr q3) k1 k2 k4
          have hkc:kcap c≤c:=kcap_le c
          have hml:∀ x y:Option Addr,(bif Nat.beq m l then x else y)=if m=l then x else y:=fun x y=>bq m l x y
          rw [hml]
          cases a with
          | none =>
            cases hv
            refine ⟨_,?_,go none c (by omega)⟩
            have e1:(if m=l then none else at? none (l*s))=none:=by split <;> rfl
            have e2:(if m=l then (none:Option Addr) else Option.map (fun a:Addr=>a.add (l*s)) none)=none:=by split <;> rfl
            rw [e1,e2]; rfl
          | some ad =>
            obtain ⟨i,o,sp⟩:=ad
            cases sp with
            | some x=>simp [rn] at hv
            | none =>
              obtain ⟨b,sb,ex,hρ,_⟩:=rn_slice hv
              have hmb:m-l<big:=by
                by_cases c1:c<big
                · rw [kcap1 c1] at k3; omega
                · rw [kcap2 (Nat.not_lt.1 c1) hc2] at k3
                  have:=(sub1_eq (Nat.not_lt.1 c1) hc2).2
                  omega
              have fin:∀ C,m≤C→∃ u,rn ρ (.slice (if m=l then some ⟨i,o,none⟩ else at? (some ⟨i,o,none⟩) (l*s)) (hh-l) (m-l))=some u∧(Instr.sliceAt t (.slice (some ⟨b,sb+o,none⟩) n C) lo' hi' mx').run P w=.ok u w:=fun C hC=>by
                rw [go _ C hC]
                by_cases e:m=l
                · rw [if_pos e,if_pos e]
                  exact ⟨_,rn_sl1 hρ hmb,rfl⟩
                · rw [if_neg e,if_neg e]
                  refine ⟨_,rn_sl1 hρ hmb,?_⟩
                  simp [add_at,Nat.add_assoc]
              by_cases c1:c<big
              · rw [rn_sl1 hρ c1] at hv; cases hv
                exact fin c (by omega)
              · rw [rn_sl2 hρ (Nat.not_lt.1 c1) hc2] at hv; cases hv
                rw [kcap2 (Nat.not_lt.1 c1) hc2] at k3
                exact fin _ (by omega)
    · cases h
  · cases h
end
end Go.Ev
namespace Go.Ev
open Go.Eng
section
variable {P:Program} {ρ:Rn} {fr:Fr} {ev:Operand→Value} {w:World} {h:AH} {η:PH}
theorem rnS_one {i o n c:Nat} {u:Value} (e:rnS ρ i o n c=some u):u.cells = #[u]:=by
  obtain ⟨_,_,_,rfl⟩:=rnS_any e; rfl
theorem rn_cl {v u:Value} (e:rn ρ v=some u):rnL ρ (cl v)=some u.cells.toList:=by
  cases v with
  | agg c =>
    obtain ⟨l⟩:=c
    obtain ⟨us,h1,rfl⟩:=rn_agg e
    simpa [cl,Value.cells] using h1
  | tuple c =>
    obtain ⟨l⟩:=c
    obtain ⟨us,h1,rfl⟩:=rn_tuple e
    simp [cl,rnL,e,Value.cells]
  | slice a n c =>
    rcases a with _|⟨i,o,_|s⟩
    · cases e; rfl
    · have:u.cells = #[u]:=rnS_one (by rw [← rn_eq]; exact e)
      simp [cl,rnL,e,this]
    · simp [rn] at e
  | bool b=>cases e; rfl
  | int k n=>cases e; rfl
  | string s=>cases e; rfl
  | float k b=>simp [rn] at e
  | complex k a b=>simp [rn] at e
  | chan r=>simp [rn] at e
  | iface t v=>simp [rn] at e
  | nilFunc=>cases e; rfl
  | nilIface=>cases e; rfl
  | pointer a =>
    have:u.cells = #[u]:=by
      have e2:=e
      simp only [rn] at e2
      split at e2
      · cases e2; rfl
      · cases e2
    simp [cl,rnL,e,this]
  | map r =>
    have:u.cells = #[u]:=by
      cases r with
      | none=>cases e; rfl
      | some i =>
        have e2:=e
        simp only [rn] at e2
        split at e2
        · cases e2; rfl
        · cases e2
    simp [cl,rnL,e,this]
  | func f xs cs =>
    have:u.cells = #[u]:=by
      have e2:=e
      simp only [rn] at e2
      split at e2
      · cases e2; rfl
      · cases e2
    simp [cl,rnL,e,this]
def PlcOK (place:Nat→Option (Nat × Nat)):List (Nat × Operand)→List (Nat × Nat × Od)→Prop
  | [],[]=>True
  | p::ps,q::qs=>(place p.1=some (q.1,q.2.1)∧odOf p.2=some q.2.2)∧PlcOK place ps qs
  | _,_=>False
theorem plcA_ok {s:Nat}:∀ {ps:List (Nat × Operand)} {qs:List (Nat × Nat × Od)},plcA s ps=some qs→PlcOK (fun i=>some (i*s,s)) ps qs
  | [],qs,e=>by cases e; trivial
  | (i,x)::r,qs,e=>by
    simp only [plcA] at e
    cases h1:odOf x with
    | none=>simp [h1] at e
    | some v=>cases h2:plcA s r with
      | none=>simp [h1,h2] at e
      | some l=>simp only [h1,h2,Option.some.injEq] at e; subst e; exact ⟨⟨rfl,h1⟩,plcA_ok h2⟩
def placeS (P:Program) (fs:List Field) (i:Nat):Option (Nat × Nat):=(fs.map fun f=>(f.offset,(szP P f.type).getD 0))[i]?
theorem plcS_ok {fs:List Field}:∀ {ps:List (Nat × Operand)} {qs:List (Nat × Nat × Od)},plcS P fs ps=some qs→PlcOK (placeS P fs) ps qs
  | [],qs,e=>by cases e; trivial
  | (i,x)::r,qs,e=>by
    simp only [plcS] at e
    cases h0:fs[i]? with
    | none=>simp [h0] at e
    | some f=>cases h1:odOf x with
      | none=>simp [h0,h1] at e
      | some v=>cases h2:plcS P fs r with
        | none=>simp [h0,h1,h2] at e
        | some l =>
          simp only [h0,h1,h2] at e
          cases h3:szP P f.type with
          | none=>simp [h3] at e
          | some s =>
            simp only [h3,Option.some.injEq] at e; subst e
            exact ⟨⟨by simp [placeS,h0,h3],h1⟩,plcS_ok h2⟩
theorem mapM_pl:∀ (fs:List Field),fs.all (fun f=>(szP P f.type).isSome)=true→(fs.mapM (fun f=>Prod.mk f.offset <$> sizeOf f.type:Field→Sem (Nat × Nat))).run P w=.ok (fs.map fun f=>(f.offset,(szP P f.type).getD 0)) w
  | [],_=>by simp
  | f::fs,e=>by
    simp only [List.all_cons,Bool.and_eq_true] at e
    obtain ⟨n,hn⟩:=Option.isSome_iff_exists.1 e.1
    simp [List.mapM_cons,Eng.run_sizeOf hn,mapM_pl fs e.2,hn]
theorem splice_arr {v:Value} {off:Nat} {cells:Array Value} (h:off+v.cells.size≤cells.size) :
    v.cells.zipIdx.foldl (fun (cs:Array Value) (x:Value × Nat)=>cs.setIfInBounds (off+x.2) x.1) cells=(cells.toList.take off ++ v.cells.toList ++ cells.toList.drop (off+v.cells.toList.length)).toArray:=by
  apply Array.ext'
  have:=splice_fold v.cells.toList 0 off cells (by simpa using h)
  simp only [Nat.add_zero] at this;rw [← Array.foldl_toList,Array.toList_zipIdx,this]
theorem fill_ev {place:Nat→Option (Nat × Nat)} {xs:Array Operand} (hf:FR ρ fr) (hk:EK ρ fr ev xs):∀ {ps:List (Nat × Operand)} {qs:List (Nat × Nat × Od)} {l:List (Nat × Nat × Value)} {zs zs' r:List Value},
    PlcOK place ps qs→(∀ x∈ps.map (·.2),x∈xs)→evPs fr qs=some l→fillC zs l=some r→rnL ρ zs=some zs'→∃ r',rnL ρ r=some r'∧Instr.fill place zs'.toArray (ps.map fun (x:Nat × Operand)=>(x.1,ev x.2))=some r'.toArray
  | [],[],l,zs,zs',r,_,_,e1,e2,e3=>by
    cases e1; cases e2
    exact ⟨zs',e3,rfl⟩
  | [],_::_,_,_,_,_,h,_,_,_,_=>h.elim
  | _::_,[],_,_,_,_,h,_,_,_,_=>h.elim
  | (i,x)::ps,(o,s,d)::qs,l,zs,zs',r,h,hx,e1,e2,e3=>by
    obtain ⟨⟨h1,h2⟩,h3⟩:=h
    simp only [evPs] at e1
    cases k1:evO fr d with
    | none=>simp [k1] at e1
    | some v=>cases k2:evPs fr qs with
      | none=>simp [k1,k2] at e1
      | some l' =>
        simp only [k1,k2,Option.some.injEq] at e1;subst e1;simp only [fillC] at e2
        cases k3:Nat.beq (cl v).length s with
        | false=>rw [k3] at e2; cases e2
        | true =>
          rw [k3] at e2
          have hs:=Nat.eq_of_beq_eq_true k3
          simp only [cond_true] at e2
          cases k4:setC o (cl v) zs with
          | none=>rw [k4] at e2; cases e2
          | some zs1 =>
            rw [k4] at e2
            obtain ⟨rfl,k5,_⟩:=setC_eq _ _ _ _ k4
            obtain ⟨u,k6,k7⟩:=od_ev hf hk (hx x (by simp)) h2 k1
            have k8:=rn_cl k6
            have k9:=rnL_len k8
            have q1:=(rnL_split o e3).1
            have q2:=(rnL_split (o+(cl v).length) e3).2
            have q3:=rnL_append.2 ⟨_,_,rnL_append.2 ⟨_,_,q1,k8,rfl⟩,q2,rfl⟩
            obtain ⟨r',m1,m2⟩:=fill_ev hf hk (ps:=ps) h3 (fun y hy=>hx y (by simp at hy ⊢; exact .inr hy)) k2 e2 q3
            refine ⟨r',m1,?_⟩
            have hl3:=rnL_len e3
            have hsz:u.cells.size=s:=by rw [← Array.length_toList,k9,hs]
            simp only [List.map_cons];unfold Instr.fill;simp only at h1;rw [h1];simp only [k7]
            rw [if_neg (by simp only [hsz,ne_eq,not_true_eq_false,decide_false,Bool.false_or,decide_eq_true_eq,List.size_toArray]; omega)]
            rw [splice_arr (by simp; omega),k9]
            exact m2
end
end Go.Ev
namespace Go.Ev
open Go.Eng
section
variable {P:Program} {ρ:Rn} {fr:Fr} {ev:Operand→Value} {w:World} {h:AH} {η:PH} {dst:Option Tmp} {ty:TypeId} {pos:String} {aft:Array Edge} {g:Option (Nat × Bool)}
theorem run_value {s:Sem Value} {v:Value} {w':World} (h:s.run P w=.ok v w'):(do pure (Next.value (← s)):Sem Next).run P w=.ok (.value v) w':=by simp [h]
def QOK (P:Program) (ρ:Rn) (ev:Operand→Value) (w:World) (o:Oper) (v:Value):Prop:=∃ u,rn ρ v=some u∧(execOp ev o).run P w=.ok (.value u) w
theorem genQ {o:Oper} {v:Value} (h1:genK o.op=true) (h2:genF P o fr=some v) (h3:EK ρ fr ev o.op.operands):QOK P ρ ev w o v:=
  let ⟨h4,h5⟩:=gen_run h1 h2 h3 w; ⟨v,h4,h5⟩
theorem q_bin {op:BinOp} {t yt:TypeId} {x y:Operand} {i:In} {v:Value} (hi:inOf P ⟨dst,.binOp op t x y yt,ty,pos,aft,g⟩=some i) (hv:evQ fr h i=some v) (hf:FR ρ fr) (hk:EK ρ fr ev #[x,y]):QOK P ρ ev w ⟨dst,.binOp op t x y yt,ty,pos,aft,g⟩ v:=by
  simp only [inOf] at hi
  split at hi
  · rename_i d d' hd hd'
    have plain:evQ fr h (.bin op d d')=some v→QOK P ρ ev w ⟨dst,.binOp op t x y yt,ty,pos,aft,g⟩ v:=fun hv=>by
      have hv:binO op (evO fr d) (evO fr d')=some v:=hv
      unfold binO at hv
      split at hv
      · rename_i a b ha hb
        obtain ⟨h1,h2,h3,h4⟩:=evBin_run (P:=P) (w:=w) hv t x y
        obtain ⟨u,k1,k2⟩:=od_ev hf hk (by simp) hd ha
        obtain ⟨u',k3,k4⟩:=od_ev hf hk (by simp) hd' hb
        rw [rn_flat h3] at k1; cases k1;rw [rn_flat h4] at k3; cases k3;refine ⟨v,rn_flat h2,?_⟩;simp only [execOp,k2,k4];exact run_value h1
      · cases hv
    unfold inBin at hi
    cases hb:binK op with
    | false=>rw [hb] at hi; cases hi; exact plain hv
    | true =>
      rw [hb] at hi;simp only [cond_true] at hi
      split at hi
      · cases hi; exact genQ rfl hv hk
      · cases hi; exact plain hv
      · rename_i k k0 k4
        cases hi
        have hv:miNil (nilK P t) _ (evO fr d) (evO fr d')=some v:=hv
        unfold miNil at hv
        split at hv
        · rename_i a b ha hb'
          unfold neB at hv
          split at hv
          · rename_i r hr
            obtain ⟨u,e1,e2⟩:=od_ev hf hk (by simp) hd ha
            obtain ⟨u',e3,e4⟩:=od_ev hf hk (by simp) hd' hb'
            obtain ⟨n1,n2⟩:=evNil_run (P:=P) (w:=w) hr rfl e1 e3 x y
            have fin:∀ (r':Bool),((do eqGuard op t x y u u'; binOp op t u u':Sem Value).run P w)=.ok (.bool r') w→(execOp ev ⟨dst,.binOp op t x y yt,ty,pos,aft,g⟩).run P w=.ok (.value (.bool r')) w:=fun r' e=>by
              simp only [execOp,e2,e4];exact run_value e
            cases op <;> first|(cases hb; done)|skip
            · cases hv; exact ⟨_,rfl,fin r n1⟩
            · cases hv; exact ⟨_,rfl,fin (!r) n2⟩
          · cases hv
        · cases hv
  · cases hi
theorem q_ld {t:TypeId} {x:Operand} {i:In} {v:Value} (hi:inOf P ⟨dst,.load t x,ty,pos,aft,g⟩=some i) (hv:evQ fr h i=some v) (hr:HR P ρ h η) (hw:η.le w) (hf:FR ρ fr) (hk:EK ρ fr ev #[x]):QOK P ρ ev w ⟨dst,.load t x,ty,pos,aft,g⟩ v:=by
  simp only [inOf] at hi
  split at hi
  · rename_i d hd ha hs
    cases hi
    have hv:evLd h none (evO fr d)=some v:=hv
    obtain ⟨i,o,e1,_⟩:=evLd_ptr hv
    rw [e1] at hv
    obtain ⟨u,e2,e3⟩:=od_ev hf hk (by simp) hd e1
    obtain ⟨b,o',u',rfl,e4,e5⟩:=evLd1 hr hw hv e2
    exact ⟨u',e4,by simp [execOp,e3,Instr.loadAt,Instr.sureAddr,loadVar,Eng.run_isAgg ha,e5]⟩
  · rename_i d n hd ha hs
    cases hi
    have hv:evLd h (some n) (evO fr d)=some v:=hv
    obtain ⟨i,o,e1,_⟩:=evLd_ptr hv
    rw [e1] at hv
    obtain ⟨u,e2,e3⟩:=od_ev hf hk (by simp) hd e1
    obtain ⟨b,o',us,rfl,e4,rfl,e5⟩:=evLdn hr hw hv e2
    exact ⟨_,e4,by simp [execOp,e3,Instr.loadAt,Instr.sureAddr,loadVar,Eng.run_isAgg ha,Eng.run_sizeOf hs,loadCells_run e5]⟩
  · cases hi
theorem q_fa {t:TypeId} {x:Operand} {f:Nat} {i:In} {v:Value} (hi:inOf P ⟨dst,.fieldAddr t x f,ty,pos,aft,g⟩=some i) (hv:evQ fr h i=some v) (hf:FR ρ fr) (hk:EK ρ fr ev #[x]):QOK P ρ ev w ⟨dst,.fieldAddr t x f,ty,pos,aft,g⟩ v:=by
  simp only [inOf] at hi
  split at hi
  · rename_i d k hd hfl
    cases hi
    have hv:evFld k (evO fr d)=some v:=hv
    unfold evFld at hv
    split at hv
    · rename_i i o ha
      cases hv
      obtain ⟨u,e2,e3⟩:=od_ev hf hk (by simp) hd ha
      obtain ⟨b,s,e,h1,rfl⟩:=rn_ptr e2
      exact ⟨.pointer (some ⟨b,s+(o+k),none⟩),by simp [rn,rnA,h1],by simp [execOp,e3,run_fieldAt hfl,Nat.add_assoc]⟩
    · cases hv
  · cases hi
theorem q_ia {t:TypeId} {x y:Operand} {i:In} {v:Value} (hi:inOf P ⟨dst,.indexAddr t x y,ty,pos,aft,g⟩=some i) (hv:evQ fr h i=some v) (hf:FR ρ fr) (hk:EK ρ fr ev #[x,y]):QOK P ρ ev w ⟨dst,.indexAddr t x y,ty,pos,aft,g⟩ v:=by
  simp only [inOf] at hi
  split at hi
  · rename_i d d' e hd hd' ht
    split at hi
    · rename_i s hs
      cases hi
      have hv:evIdx none s (evO fr d) (evO fr d')=some v:=hv
      unfold evIdx at hv
      split at hv
      · rename_i i o n c j heq ha hj
        cases hlt:Nat.blt j n with
        | false=>rw [hlt] at hv; cases hv
        | true =>
          rw [hlt] at hv; cases hv
          have hlt:=blt_t.1 hlt
          obtain ⟨k,hj⟩:=natOf_some hj
          obtain ⟨u,e2,e3⟩:=od_ev hf hk (by simp) hd ha
          obtain ⟨u',e4,e5⟩:=od_ev hf hk (by simp) hd' hj
          cases e4
          obtain ⟨_,_,_,_,e2⟩:=rn_slice e2
          obtain ⟨b,sb,e',c',h1,rfl⟩:=rnS_pos e2 (by omega)
          refine ⟨.pointer (some ⟨b,sb+(o+j*s),none⟩),by simp [rn,rnA,h1],?_⟩
          simp [execOp,e3,e5,Instr.indexAt,asIntOf,run_underlying ht,hlt,Eng.run_sizeOf hs,add_at,Nat.add_assoc]
      · rename_i heq _ _; cases heq
      · cases hv
    · cases hi
  · rename_i d d' n e hd hd' ht
    split at hi
    · rename_i s hs
      cases hi
      have hv:evIdx (some n) s (evO fr d) (evO fr d')=some v:=hv
      unfold evIdx at hv
      split at hv
      · rename_i heq _ _; cases heq
      · rename_i n' i o j heq ha hj
        cases heq
        cases hlt:Nat.blt j n with
        | false=>rw [hlt] at hv; cases hv
        | true =>
          rw [hlt] at hv; cases hv
          have hlt:=blt_t.1 hlt
          obtain ⟨k,hj⟩:=natOf_some hj
          obtain ⟨u,e2,e3⟩:=od_ev hf hk (by simp) hd ha
          obtain ⟨u',e4,e5⟩:=od_ev hf hk (by simp) hd' hj
          cases e4
          obtain ⟨b,sb,e',h1,rfl⟩:=rn_ptr e2
          refine ⟨.pointer (some ⟨b,sb+(o+j*s),none⟩),by simp [rn,rnA,h1],?_⟩
          simp [execOp,e3,e5,Instr.indexAt,asIntOf,run_underlying ht,hlt,Eng.run_sizeOf hs,add_at,Nat.add_assoc,Instr.sureAddr]
      · cases hv
    · cases hi
  · cases hi
end
end Go.Ev
namespace Go.Ev
open Go.Eng
section
variable {P:Program} {ρ:Rn} {fr:Fr} {ev:Operand→Value} {w:World} {h:AH} {η:PH} {dst:Option Tmp} {ty:TypeId} {pos:String} {aft:Array Edge} {g:Option (Nat × Bool)}
theorem q_un {op:UnOp} {t:TypeId} {x:Operand} {i:In} {v:Value} (hi:inOf P ⟨dst,.unOp op t x,ty,pos,aft,g⟩=some i) (hv:evQ fr h i=some v) (hf:FR ρ fr) (hk:EK ρ fr ev #[x]):QOK P ρ ev w ⟨dst,.unOp op t x,ty,pos,aft,g⟩ v:=by
  simp only [inOf] at hi
  split at hi
  · rename_i d hd
    cases hi
    have hv:miNot (evO fr d)=some v:=hv
    unfold miNot at hv
    split at hv
    · rename_i b ha
      cases hv
      obtain ⟨u,e2,e3⟩:=od_ev hf hk (by simp) hd ha
      cases e2
      exact ⟨_,rfl,by simp [execOp,e3,Op.unary]⟩
    · cases hv
  · cases hi; exact genQ rfl hv hk
  · cases hi
theorem q_pk {c x y:Operand} {i:In} {v:Value} (hi:inOf P ⟨dst,.pick c x y,ty,pos,aft,g⟩=some i) (hv:evQ fr h i=some v) (hf:FR ρ fr) (hk:EK ρ fr ev #[c,x,y]):QOK P ρ ev w ⟨dst,.pick c x y,ty,pos,aft,g⟩ v:=by
  simp only [inOf] at hi
  split at hi
  · rename_i d d1 d2 hd h1 h2
    cases hi
    have hv:miPick fr d1 d2 (evO fr d)=some v:=hv
    unfold miPick at hv
    split at hv
    · rename_i ha
      obtain ⟨u,e2,e3⟩:=od_ev hf hk (by simp) hd ha
      cases e2
      obtain ⟨u',e4,e5⟩:=od_ev hf hk (by simp) h1 hv
      exact ⟨_,e4,by simp [execOp,e3,e5,asBool]⟩
    · rename_i ha
      obtain ⟨u,e2,e3⟩:=od_ev hf hk (by simp) hd ha
      cases e2
      obtain ⟨u',e4,e5⟩:=od_ev hf hk (by simp) h2 hv
      exact ⟨_,e4,by simp [execOp,e3,e5,asBool]⟩
    · cases hv
  · cases hi
theorem q_ex {x:Operand} {n:Nat} {i:In} {v:Value} (hi:inOf P ⟨dst,.extract x n,ty,pos,aft,g⟩=some i) (hv:evQ fr h i=some v) (hf:FR ρ fr) (hk:EK ρ fr ev #[x]):QOK P ρ ev w ⟨dst,.extract x n,ty,pos,aft,g⟩ v:=by
  simp only [inOf,Option.map_eq_some_iff] at hi
  obtain ⟨d,hd,rfl⟩:=hi
  have hv:miExt n (evO fr d)=some v:=hv
  unfold miExt at hv
  split at hv
  · rename_i vs ha
    obtain ⟨u,e2,e3⟩:=od_ev hf hk (by simp) hd ha
    obtain ⟨us,h1,rfl⟩:=rn_tuple e2
    rw [getC_eq] at hv
    obtain ⟨u,h2,h3⟩:=rnL_get h1 hv
    have h2':us.toArray[n]?=some u:=by simpa using h2
    exact ⟨u,h3,by simp [execOp,e3,Instr.extract,h2']⟩
  · cases hv
theorem q_nc {x:Operand} {i:In} {v:Value} (hi:inOf P ⟨dst,.nilCheck x,ty,pos,aft,g⟩=some i) (hv:evQ fr h i=some v) (hf:FR ρ fr) (hk:EK ρ fr ev #[x]):QOK P ρ ev w ⟨dst,.nilCheck x,ty,pos,aft,g⟩ v:=by
  simp only [inOf,Option.map_eq_some_iff] at hi
  obtain ⟨d,hd,rfl⟩:=hi
  have hv:miNck (evO fr d)=some v:=hv
  unfold miNck at hv
  split at hv
  · rename_i a ha
    cases hv
    obtain ⟨u,e2,e3⟩:=od_ev hf hk (by simp) hd ha
    refine ⟨u,e2,?_⟩
    obtain ⟨i,o,sp⟩:=a
    cases sp with
    | some s=>simp [rn,rnA] at e2
    | none =>
      obtain ⟨b,s,e,h1,rfl⟩:=rn_ptr e2
      simp [execOp,e3]
  · rename_i f xs cs ha
    cases hv
    obtain ⟨u,e2,e3⟩:=od_ev hf hk (by simp) hd ha
    refine ⟨u,e2,?_⟩;simp only [rn,rnF] at e2
    split at e2
    · rename_i f' xs' cs' q1 q2 q3
      cases q1; cases e2
      simp [execOp,e3]
    · cases e2
  · rename_i f xs cs ha
    cases hv
    obtain ⟨u,e2,e3⟩:=od_ev hf hk (by simp) hd ha
    refine ⟨u,e2,?_⟩
    have e4:=e2
    simp only [rn] at e2
    split at e2
    · rename_i f' xs' cs' q1 q2 q3
      cases e2
      simp only [rnF] at q1
      split at q1
      · cases q1; simp [execOp,e3]
      · cases q1
    · cases e2
  · cases hv
theorem q_mf {fn:Fn} {xs cs:Array Operand} {i:In} {v:Value} (hi:inOf P ⟨dst,.makeFunc fn xs cs,ty,pos,aft,g⟩=some i) (hv:evQ fr h i=some v) (hf:FR ρ fr) (hk:EK ρ fr ev (xs ++ cs)):QOK P ρ ev w ⟨dst,.makeFunc fn xs cs,ty,pos,aft,g⟩ v:=by
  cases fn with
  | func f =>
    simp only [inOf] at hi
    split at hi
    · rename_i ds ds' h1 h2
      cases hi
      have hv:miMkf f (evOs fr ds) (evOs fr ds')=some v:=hv
      unfold miMkf at hv
      split at hv
      · rename_i vs us ha hb
        cases hv
        obtain ⟨vs',k1,k2⟩:=ods_ev hf hk (l:=xs.toList) (by intro x hx; simp at hx ⊢; exact .inl hx) h1 ha
        obtain ⟨us',k3,k4⟩:=ods_ev hf hk (l:=cs.toList) (by intro x hx; simp at hx ⊢; exact .inr hx) h2 hb
        refine ⟨.func (.func f) vs'.toArray us'.toArray,by simp [rn,rnF,rnR,k1,k3],?_⟩
        have f1:xs.map ev=vs'.toArray:=by rw [← k2,← Array.toList_map]
        have f2:cs.map ev=us'.toArray:=by rw [← k4,← Array.toList_map]
        simp [execOp,Instr.makeFunc,f1,f2]
      · cases hv
    · cases hi
  | method n=>simp [inOf] at hi
  | methodOf t n=>simp [inOf] at hi
  | via t p f q=>simp [inOf] at hi
  | yield l=>simp [inOf] at hi
theorem q_fd {t:TypeId} {x:Operand} {f:Nat} {i:In} {v:Value} (hi:inOf P ⟨dst,.field t x f,ty,pos,aft,g⟩=some i) (hv:evQ fr h i=some v) (hf:FR ρ fr) (hk:EK ρ fr ev #[x]):QOK P ρ ev w ⟨dst,.field t x f,ty,pos,aft,g⟩ v:=by
  simp only [inOf] at hi
  split at hi
  · rename_i d fs hd ht
    split at hi
    · rename_i fd hfd
      have fin:∀ n,miPart fd.offset n (evO fr d)=some v→((∃ k,n=some k∧aggP P fd.type=some true∧szP P fd.type=some k)∨(n=none∧aggP P fd.type=some false))→QOK P ρ ev w ⟨dst,.field t x f,ty,pos,aft,g⟩ v:=fun n hv hn=>by
        cases ha:evO fr d with
        | none=>rw [ha] at hv; cases hv
        | some a =>
          rw [ha] at hv
          obtain ⟨u,e2,e3⟩:=od_ev hf hk (by simp) hd ha
          obtain ⟨cs,u',rfl,e4,e5⟩:=part_run (w:=w) hv e2 hn
          exact ⟨u',e4,by simp [execOp,e3,Instr.field,run_underlying ht,hfd,asAgg,e5]⟩
      split at hi
      · rename_i n ha hs
        cases hi; exact fin (some n) hv (.inl ⟨n,rfl,ha,hs⟩)
      · rename_i ha hs
        cases hi; exact fin none hv (.inr ⟨rfl,ha⟩)
      · cases hi
    · cases hi
  · cases hi
theorem q_ix {t:TypeId} {x y:Operand} {i:In} {v:Value} (hi:inOf P ⟨dst,.index t x y,ty,pos,aft,g⟩=some i) (hv:evQ fr h i=some v) (hf:FR ρ fr) (hk:EK ρ fr ev #[x,y]):QOK P ρ ev w ⟨dst,.index t x y,ty,pos,aft,g⟩ v:=by
  simp only [inOf] at hi
  split at hi
  · rename_i d d' n e hd hd' ht
    split at hi
    · rename_i a s ha hs
      cases hi
      have hv:miIxa n s a (evO fr d) (natOf (evO fr d'))=some v:=hv
      unfold miIxa at hv
      split at hv
      · rename_i j hj
        cases hlt:Nat.blt j n with
        | false=>rw [hlt] at hv; cases hv
        | true =>
          rw [hlt] at hv;simp only [cond_true] at hv
          have hlt:=blt_t.1 hlt
          obtain ⟨k,hj⟩:=natOf_some hj
          obtain ⟨u',e4,e5⟩:=od_ev hf hk (by simp) hd' hj
          cases e4
          cases hx:evO fr d with
          | none=>rw [hx] at hv; cases hv
          | some b =>
            rw [hx] at hv
            obtain ⟨u,e2,e3⟩:=od_ev hf hk (by simp) hd hx
            obtain ⟨cs,u',rfl,e6,e7⟩:=part_run (w:=w) (f:=e) hv e2 (by
              cases a with
              | true=>exact .inl ⟨s,rfl,ha,hs⟩
              | false=>exact .inr ⟨rfl,ha⟩)
            exact ⟨u',e6,by simp [execOp,e3,e5,Instr.index,asIntOf,run_underlying ht,hlt,Eng.run_sizeOf hs,e7]⟩
      · cases hv
    · cases hi
  · cases hi; exact genQ rfl hv hk
  · cases hi
end
end Go.Ev
namespace Go.Ev
open Go.Eng
section
variable {P:Program} {ρ:Rn} {fr:Fr} {ev:Operand→Value} {w:World} {h:AH} {η:PH} {dst:Option Tmp} {ty:TypeId} {pos:String} {aft:Array Edge} {g:Option (Nat × Bool)}
theorem odO_some {x:Option Operand} {d:Option Od} (e:odO x=some d):(x=none∧d=none)∨∃ y z,x=some y∧d=some z∧odOf y=some z:=by
  cases x with
  | none=>cases e; exact .inl ⟨rfl,rfl⟩
  | some y =>
    simp only [odO] at e
    cases h:odOf y with
    | none=>simp [h] at e
    | some z=>simp only [h,Option.some.injEq] at e; exact .inr ⟨y,z,rfl,e.symm,h⟩
theorem odO_none {x y z:Option Operand} (h1:odO x=some none) (h2:odO y=some none) (h3:odO z=some none):x=none∧y=none∧z=none:=by
  have g:∀ {x:Option Operand},odO x=some none→x=none:=fun {x} h=>by
    rcases odO_some h with ⟨h,_⟩|⟨_,_,_,h,_⟩
    · exact h
    · cases h
  exact ⟨g h1,g h2,g h3⟩
theorem q_sl {t:TypeId} {x:Operand} {lo hi mx:Option Operand} {i:In} {v:Value} (hi':inOf P ⟨dst,.slice t x lo hi mx,ty,pos,aft,g⟩=some i) (hv:evQ fr h i=some v) (hf:FR ρ fr) (hk:EK ρ fr ev (Op.slice t x lo hi mx).operands):QOK P ρ ev w ⟨dst,.slice t x lo hi mx,ty,pos,aft,g⟩ v:=by
  simp only [inOf] at hi'
  split at hi'
  · rename_i d dl dh dm hd h1 h2 h3
    split at hi'
    · rename_i e ht
      split at hi'
      · rename_i s hs
        cases hi'
        have hv:miCut (dl.map (evO fr)) (dh.map (evO fr)) (dm.map (evO fr)) s (evO fr d)=some v:=hv
        unfold miCut at hv
        split at hv
        · rename_i a ha
          obtain ⟨u,e2,e3⟩:=od_ev hf hk (by simp [Op.operands]) hd ha
          have opt:∀ {y:Option Operand} {z:Option Od},odO y=some z→(∀ q∈y,q∈(Op.slice t x lo hi mx).operands)→(∀ k (n:Int),z.map (evO fr)=some (some (.int k n))→y.map ev=some (.int k n))∧(z.map (evO fr)=none→y.map ev=none):=fun {y z} hy hm=>by
            rcases odO_some hy with ⟨rfl,rfl⟩|⟨y',z',rfl,rfl,hz⟩
            · exact ⟨fun k n e=>by simp at e,fun _=>rfl⟩
            · refine ⟨fun k n e=>?_,fun e=>by simp at e⟩
              simp only [Option.map_some,Option.some.injEq] at e ⊢
              obtain ⟨u',k1,k2⟩:=od_ev hf hk (hm y' rfl) hz e
              cases k1; exact k2
          obtain ⟨l1,l2⟩:=opt h1 (fun q hq=>by simp [Op.operands]; rw [hq]; simp)
          obtain ⟨l3,l4⟩:=opt h2 (fun q hq=>by simp [Op.operands]; rw [hq]; simp)
          obtain ⟨l5,l6⟩:=opt h3 (fun q hq=>by simp [Op.operands]; rw [hq]; simp)
          obtain ⟨r,k1,k2⟩:=cut_run (P:=P) (w:=w) ht hs hv e2 l1 l2 l3 l4 l5 l6
          exact ⟨r,k1,by simp only [execOp,e3]; exact run_value k2⟩
        · cases hv
      · cases hi'
    · rename_i n e ht
      split at hi'
      · rename_i s hs
        cases hi'
        have hv:miAcu n (evO fr d)=some v:=hv
        unfold miAcu at hv
        split at hv
        · rename_i a b ha
          cases hb:Nat.blt n big with
          | false=>rw [hb] at hv; cases hv
          | true =>
            rw [hb,cond_true] at hv
            cases hv
            obtain ⟨u,e2,e3⟩:=od_ev hf hk (by simp [Op.operands]) hd ha
            obtain ⟨c,s',x',hρ,rfl⟩:=rn_ptr e2
            have hlt:n<big:=blt_t.1 hb
            obtain ⟨q1,q2⟩:=odO_none h1 h2 h3
            have hn:P.arrayLen t=n:=by simp [Program.arrayLen,ht]
            have he:P.elem t=e:=by simp [Program.elem,ht]
            refine ⟨.slice (some ⟨c,s'+b,none⟩) n n,by simp only [rn,rnS,hρ,if_pos hlt],?_⟩
            subst q1
            obtain ⟨rfl,rfl⟩:=q2
            simp only [execOp,e3,Option.map_none];refine run_value ?_
            rw [run_sliceAt_array_all w t _ (by rw [hn,he]; exact ht),he,Eng.run_sizeOf hs,hn]
            simp [slicedAt,Addr.add_lit]
        · cases hv
      · cases hi'
    · split at hi'
      · cases hi'; exact genQ rfl hv hk
      · cases hi'
    · cases hi'
  · cases hi'
theorem zsP_some {t:TypeId} {zs:List Value} (e:zsP P t=some zs):∃ z,zeroP P t=some z∧z.cells.toList=zs∧rnL ρ zs=some zs:=by
  unfold zsP at e
  split at e
  · rename_i z hz
    cases hf:flat z with
    | false=>rw [hf] at e; cases e
    | true =>
      rw [hf] at e; cases e;refine ⟨z,hz,rfl,?_⟩
      have:=rn_cl (ρ:=ρ) (rn_flat hf)
      rwa [← cl_eq] at this
  · cases e
theorem q_bd {t:TypeId} {ps:Array (Nat × Operand)} {i:In} {v:Value} (hi:inOf P ⟨dst,.build t ps,ty,pos,aft,g⟩=some i) (hv:evQ fr h i=some v) (hf:FR ρ fr) (hk:EK ρ fr ev (Op.build t ps).operands):QOK P ρ ev w ⟨dst,.build t ps,ty,pos,aft,g⟩ v:=by
  have hx:∀ x∈ps.toList.map (·.2),x∈(Op.build t ps).operands:=fun x hx=>by simpa [Op.operands] using hx
  have hps:ps.map (fun (x:Nat × Operand)=>(x.1,ev x.2))=(ps.toList.map fun (x:Nat × Operand)=>(x.1,ev x.2)).toArray:=by
    rw [← Array.toList_map]
  simp only [inOf] at hi
  split at hi
  · rename_i fs zs ht hz
    cases hall:fs.toList.all (fun f=>(szP P f.type).isSome) with
    | false=>rw [hall] at hi; cases hi
    | true =>
      rw [hall] at hi;simp only [cond_true,Option.map_eq_some_iff] at hi
      obtain ⟨qs,hq,rfl⟩:=hi
      have hv:miBld zs (evPs fr qs)=some v:=hv
      unfold miBld at hv
      split at hv
      · rename_i l hl
        obtain ⟨r,e1,rfl⟩:=aggO_some hv
        obtain ⟨z,z1,z2,z3⟩:=zsP_some (ρ:=ρ) hz
        obtain ⟨r',e2,e3⟩:=fill_ev hf hk (plcS_ok hq) hx hl e1 z3
        refine ⟨.agg r'.toArray,by simp only [rn,rnR,e2],?_⟩
        have hm:=mapM_pl (P:=P) (w:=w) fs.toList hall
        have hmm:(fs.mapM (fun f=>Prod.mk f.offset <$> sizeOf f.type:Field→Sem (Nat × Nat))).run P w=.ok (fs.toList.map fun f=>(f.offset,(szP P f.type).getD 0)).toArray w:=by
          rw [Array.mapM_eq_mapM_toList]
          simp [hm]
        have hfill:Instr.fill (fun x=>Option.map (fun f=>(f.offset,(szP P f.type).getD 0)) fs[x]?) z.cells (List.map (fun (x:Nat × Operand)=>(x.1,ev x.2)) ps.toList)=some r'.toArray:=by
          have hz2:z.cells=zs.toArray:=by rw [← z2]
          rw [hz2,← e3]
          congr 1
          funext i
          simp [placeS]
        simp only [execOp,Instr.build]
        simp [run_zeroValue z1,run_underlying ht,hmm]
        rw [hfill]; simp
      · cases hv
  · rename_i n e zs ht hz
    split at hi
    · rename_i s hs
      simp only [Option.map_eq_some_iff] at hi
      obtain ⟨qs,hq,rfl⟩:=hi
      have hv:miBld zs (evPs fr qs)=some v:=hv
      unfold miBld at hv
      split at hv
      · rename_i l hl
        obtain ⟨r,e1,rfl⟩:=aggO_some hv
        obtain ⟨z,z1,z2,z3⟩:=zsP_some (ρ:=ρ) hz
        obtain ⟨r',e2,e3⟩:=fill_ev hf hk (plcA_ok hq) hx hl e1 z3
        refine ⟨.agg r'.toArray,by simp only [rn,rnR,e2],?_⟩
        have hz2:z.cells=zs.toArray:=by rw [← z2]
        simp only [execOp,Instr.build]
        simp [run_zeroValue z1,run_underlying ht,Eng.run_sizeOf hs,hz2,hps,e3]
      · cases hv
    · cases hi
  · cases hi
theorem bytes_of {l:List Value} {bs:List UInt8} (e:bytesOf l=some bs):∃ ns:List Int,l=ns.map (Value.int .u8)∧∀ r:ByteArray,ns.foldl (fun r n=>r.push (UInt8.ofNat n.toNat)) r=⟨⟨r.data.toList ++ bs⟩⟩:=by
  induction l generalizing bs with
  | nil=>cases e; exact ⟨[],rfl,fun r=>by simp⟩
  | cons v l ih =>
    unfold bytesOf at e
    split at e
    · rename_i heq; cases heq
    · rename_i b l' heq
      cases heq
      split at e
      · rename_i bs' hb
        cases e
        obtain ⟨ns,rfl,h2⟩:=ih hb
        refine ⟨(b:Int)::ns,rfl,fun r=>?_⟩
        rw [List.foldl_cons,h2]
        simp [ByteArray.push]
      · cases e
    · cases e
theorem rnL_ints:∀ (ns:List Int),rnL ρ (ns.map (Value.int .u8))=some (ns.map (Value.int .u8))
  | []=>rfl
  | n::ns=>by simp only [List.map_cons]; exact rnL_cons.2 ⟨_,_,rfl,rnL_ints ns,rfl⟩
theorem q_cv {s d:TypeId} {x:Operand} {i:In} {v:Value} (hi:inOf P ⟨dst,.convert s d x,ty,pos,aft,g⟩=some i) (hv:evQ fr h i=some v) (hr:HR P ρ h η) (hw:η.le w) (hf:FR ρ fr) (hk:EK ρ fr ev #[x]):QOK P ρ ev w ⟨dst,.convert s d x,ty,pos,aft,g⟩ v:=by
  simp only [inOf] at hi
  split at hi
  · rename_i o ho
    unfold inConv at hi
    split at hi
    · rename_i k' k hs hd
      cases hi
      have hv:miCnv k (evO fr o)=some v:=hv
      unfold miCnv at hv
      split at hv
      · rename_i k2 n ha
        cases hv
        obtain ⟨u,e2,e3⟩:=od_ev hf hk (by simp) ho ha
        cases e2
        exact ⟨_,rfl,by simp [execOp,e3,convert,run_underlying hs,run_underlying hd,Conv.intToInt,wr_eq]⟩
      · cases hv
    · rename_i hs hd
      cases hi
      exact genQ rfl hv hk
    · rename_i e hs hd
      split at hi
      · cases hi; cases hv
      · cases hi
    · rename_i e hs hd
      split at hi
      · rename_i he
        cases hi
        have hv:miB2s h (evO fr o)=some v:=hv
        unfold miB2s at hv
        split at hv
        · rename_i i o' n c ha
          obtain ⟨u,e2,e3⟩:=od_ev hf hk (by simp) ho ha
          cases hl:loadN h i o' n with
          | none=>rw [hl] at hv; cases hv
          | some l =>
            rw [hl] at hv;simp only [bytesO] at hv
            cases hb:bytesOf l with
            | none=>rw [hb] at hv; cases hv
            | some bs =>
              rw [hb] at hv
              cases hv
              obtain ⟨ns,rfl,h2⟩:=bytes_of hb
              obtain ⟨b,s',ex,hρ,e2⟩:=rn_slice e2
              obtain ⟨us,k1,k2,k3⟩:=hr.row hw hl hρ
              rw [rnL_ints] at k1; cases k1;refine ⟨_,rfl,?_⟩
              have hlen:ns.length=n:=by simpa using k2
              have hld:∀ b' o2 C,u=.slice (some ⟨b',o2,none⟩) n C→(b'=b∧o2=s'+o')∨n=0:=fun b' o2 C hu=>by
                by_cases hn:n=0
                · exact .inr hn
                · obtain ⟨b2,s2,e2',c2,h3,h4⟩:=rnS_pos e2 (by omega)
                  rw [hρ] at h3; cases h3;rw [hu] at h4; cases h4;exact .inl ⟨rfl,rfl⟩
              obtain ⟨b',o2,C,rfl⟩:=rnS_any e2
              have hcells:(loadCells ⟨b',o2,none⟩ n).run P w=.ok (ns.map (Value.int .u8)).toArray w:=by
                rcases hld b' o2 C rfl with ⟨rfl,rfl⟩|hn
                · have:=loadCells_run (P:=P) k3
                  rwa [show (ns.map (Value.int IntKind.u8)).length=n from by simpa using hlen] at this
                · subst hn
                  have:ns=[]:=List.eq_nil_of_length_eq_zero hlen
                  subst this
                  simp [loadCells,loadCellsFrom]
              have hb:=run_bytesToString (P:=P) w ⟨b',o2,none⟩ n C ns hcells
              rw [h2] at hb;simp only [execOp,e3];refine run_value ?_;rw [run_convert_bytes_string w s d e _ n C hs he hd,hb]
              simp
        · rename_i n c ha
          cases hv
          obtain ⟨u,e2,e3⟩:=od_ev hf hk (by simp) ho ha
          cases e2
          refine ⟨_,rfl,?_⟩;simp only [execOp,e3];refine run_value ?_;rw [run_convert_bytes_string w s d e _ n c hs he hd]
          simp [Conv.bytesToString]
          rfl
        · cases hv
      · cases hi
    · cases hi
  · cases hi
theorem q_ln {i:In} {v:Value} {c:Call} {b:Builtin} (hc:c.callee=.builtin b) (hi:inOf P ⟨dst,.call c,ty,pos,aft,g⟩=some i) (hq:(∃ m,i=.mi m)) (hv:evQ fr h i=some v) (hf:FR ρ fr) (hk:EK ρ fr ev (Op.call c).operands):QOK P ρ ev w ⟨dst,.call c,ty,pos,aft,g⟩ v:=by
  obtain ⟨cal,args,ts⟩:=c
  simp only at hc;subst hc
  obtain ⟨m,rfl⟩:=hq
  simp only [inOf] at hi;unfold inCall at hi;simp only at hi;unfold inCallB at hi
  split at hi
  · rename_i x t h1 h2
    unfold inLen at hi
    split at hi
    · rename_i e ht
      cases hi
      have hv:miLen (evO fr x)=some v:=hv
      unfold miLen at hv
      split at hv
      · rename_i a n c ha
        cases hv
        obtain ⟨y,hy⟩:∃ y,args = #[y]∧odOf y=some x:=by
          obtain ⟨l⟩:=args
          cases l with
          | nil=>cases h1
          | cons y l =>
            simp only [odsOf] at h1
            cases k1:odOf y with
            | none=>simp [k1] at h1
            | some d=>cases k2:odsOf l with
              | none=>simp [k1,k2] at h1
              | some r =>
                simp only [k1,k2,Option.some.injEq,List.cons.injEq] at h1
                obtain ⟨rfl,rfl⟩:=h1
                cases l with
                | nil=>exact ⟨y,rfl,k1⟩
                | cons z l =>
                  simp only [odsOf] at k2
                  split at k2
                  · cases k2
                  · cases k2
        obtain ⟨rfl,hy⟩:=hy
        obtain ⟨u,e2,e3⟩:=od_ev hf hk (by simp [Op.operands,Call.operands]) hy ha
        have hts:ts = #[t]:=by obtain ⟨l⟩:=ts; simp at h2; subst h2; rfl
        subst hts
        obtain ⟨a',C,rfl⟩:∃ a' C,u=.slice a' n C:=by
          rcases a with _|⟨i,o,_|s⟩
          · cases e2; exact ⟨_,_,rfl⟩
          · obtain ⟨_,_,_,_,e2⟩:=rn_slice e2
            obtain ⟨_,_,_,rfl⟩:=rnS_any e2
            exact ⟨_,_,rfl⟩
          · simp [rn] at e2
        refine ⟨_,rfl,?_⟩
        simp [execOp,resolve,e3,invoke,builtin,Builtin.len_,run_underlying ht,goInt]
      · cases hv
    · cases hi; exact genQ rfl hv hk
    · cases hi
  · cases hi; exact genQ rfl hv hk
  · cases hi; exact genQ rfl hv hk
  · repeat' split at hi
    all_goals first|(cases hi; done)|(rename_i zs _ _ _; cases hz:zs.length.beq _ <;> rw [hz] at hi <;> cases hi)
  · repeat' split at hi
    all_goals cases hi
  · repeat' split at hi
    all_goals first|(cases hi; done)|(rename_i zs _ _; cases hz:zs.length.beq _ <;> rw [hz] at hi <;> cases hi)
  · cases hi
theorem findK_run {kk:IntKind} {kn:Int} {kd:IntKind}:∀ {es es':List MapEntry} {j:Nat} {r:Option (Nat × Value)},findK kk kn es j=some r→rnE ρ es=some es' →
    match r with
    | none=>Instr.findNow (.int kd) (.int kk kn) es' j=some none
    | some (n,v)=>∃ v',rn ρ v=some v'∧Instr.findNow (.int kd) (.int kk kn) es' j=some (some (n,v'))∧j≤n∧(es[n-j]?).map (·.val)=some v∧(es'[n-j]?).map (·.key)=some (.int kk kn)
  | [],es',j,r,e,h=>by cases e; cases h; rfl
  | m::l,es',j,r,e,h=>by
    simp only [rnE] at h
    cases h1:rn ρ m.key with
    | none=>simp [h1] at h
    | some k'=>cases h2:rn ρ m.val with
      | none=>simp [h1,h2] at h
      | some v'=>cases h3:rnE ρ l with
        | none=>simp [h1,h2,h3] at h
        | some l' =>
          simp only [h1,h2,h3,Option.some.injEq] at h;subst h;simp only [findK] at e
          split at e
          · rename_i k n hkey
            rw [hkey] at h1; cases h1
            cases hk:kB kk k with
            | false=>rw [hk] at e; cases e
            | true =>
              rw [hk] at e
              have:=kB_eq hk; subst this
              simp only [cond_true,beI_eq] at e
              by_cases hn:kn=n
              · subst hn
                simp only [BEq.rfl,cond_true,Option.some.injEq] at e;subst e
                exact ⟨v',h2,by simp [Instr.findNow,Instr.sameNow],Nat.le_refl _,by simp,by simp⟩
              · have hb:(kn == n)=false:=by simpa using hn
                rw [hb] at e;simp only [cond_false] at e
                have ih:=findK_run (kd:=kd) e h3
                have hs:∀ q,Instr.findNow (.int kd) (.int kk kn) (⟨.int kk n,v',m.born⟩::l') j=q↔Instr.findNow (.int kd) (.int kk kn) l' (j+1)=q:=fun q=>by
                  simp [Instr.findNow,Instr.sameNow,hb]
                cases r with
                | none=>exact (hs _).2 ih
                | some p =>
                  obtain ⟨n',v2⟩:=p
                  obtain ⟨v3,q1,q2,q3,q4,q5⟩:=ih
                  refine ⟨v3,q1,(hs _).2 q2,by omega,?_,?_⟩
                  · rw [show n'-j=(n'-(j+1))+1 from by omega]; simpa using q4
                  · rw [show n'-j=(n'-(j+1))+1 from by omega]; simpa using q5
          · cases e
theorem map_at (hr:HR P ρ h η) (hw:η.le w) {r cl:Nat} {es:List MapEntry} (hg:h.get r=some (.map es cl)):∃ b s e es',ρ r=some (b,s,e)∧rnE ρ es=some es'∧w.heap[b]?=some (.map es'.toArray cl)∧η b=some (.map es'.toArray cl):=by
  obtain ⟨b,s,e,o,h1,h2,h3⟩:=hr.val r _ hg
  obtain ⟨es',rfl,h4⟩:=h3
  exact ⟨b,s,e,es',h1,h4,hw b _ h2,h2⟩
theorem ck_run {kt:TypeId} {kd kk:IntKind} {kn:Int} (e:Bool) (n:Nat) (hkt:P.underlying kt=some (.int kd)):(Instr.checkKey e (n+1) kt (.int kk kn)).run P w=.ok () w:=by
  simp [Instr.checkKey,run_underlying hkt]
theorem keyN_int {kt:TypeId} (h:keyN P kt=some 0):∃ kd,P.underlying kt=some (.int kd):=by
  unfold keyN at h
  split at h
  · rename_i kd hu; exact ⟨kd,hu⟩
  · split at h
    · cases h
    · split at h <;> cases h
  · cases h
theorem keyN_str {kt:TypeId} {n:Nat} (h:keyN P kt=some (n+1)):KeyS P kt (n+1):=by
  unfold keyN at h
  split at h
  · cases h
  · split at h
    · cases h
    · split at h
      · rename_i hb
        cases h
        rw [Bool.and_eq_true,Bool.not_eq_true'] at hb;exact ⟨hb.1,hb.2⟩
      · cases h
  · cases h
theorem intsV_map:∀ {a:List Value} {b:List Int},intsV a=some b→a=b.map int
  | [],b,h=>by cases h; rfl
  | v::l,b,h=>by
    simp only [intsV] at h
    split at h
    · rename_i n r h1 h2
      cases h
      have e:=intsV_map h2
      unfold intV at h1
      split at h1
      · cases h1; rw [e]; rfl
      · cases h1
    · cases h
theorem eqI_iff:∀ {a b:List Int},eqI a b=true↔a=b
  | [],[]=>by simp [eqI]
  | [],_::_=>by simp [eqI]
  | _::_,[]=>by simp [eqI]
  | x::a,y::b=>by simp [eqI,beI_eq,eqI_iff (a:=a) (b:=b)]
theorem flatL_ints:∀ (b:List Int),flatL (b.map int)=true
  | []=>rfl
  | x::b=>by
    have:=flatL_ints b
    simp [flatL,flat,this]
theorem flat_aggI (b:List Int):flat (aggI b)=true:=flatL_ints b
theorem findS_run {kt:TypeId} {b:List Int} {n:Nat} (hk:KeyS P kt n) (hn:b.length=n):∀ {es es':List MapEntry} {j:Nat} {r:Option (Nat × Value)},findS b n es j=some r→rnE ρ es=some es' →
    match r with
    | none=>(Instr.findAsking kt (aggI b) es' j).run P w=.ok none w
    | some (i,v)=>∃ v',rn ρ v=some v'∧(Instr.findAsking kt (aggI b) es' j).run P w=.ok (some (i,v')) w∧j≤i∧(es[i-j]?).map (·.val)=some v∧(es'[i-j]?).map (·.key)=some (aggI b)
  | [],es',j,r,e,h=>by cases e; cases h; simp [Instr.findAsking]
  | m::l,es',j,r,e,h=>by
    simp only [rnE] at h
    cases h1:rn ρ m.key with
    | none=>simp [h1] at h
    | some k'=>cases h2:rn ρ m.val with
      | none=>simp [h1,h2] at h
      | some v'=>cases h3:rnE ρ l with
        | none=>simp [h1,h2,h3] at h
        | some l' =>
          simp only [h1,h2,h3,Option.some.injEq] at h;subst h;simp only [findS] at e
          split at e
          · rename_i a hkey
            split at e
            · rename_i c hc
              have ea:=intsV_map hc
              subst ea
              have hkf:m.key=aggI c:=hkey
              rw [hkf,rn_flat (flat_aggI c)] at h1
              cases h1
              cases hlb:c.length.beq n with
              | false=>rw [hlb] at e; cases e
              | true =>
                have hcl:=Nat.eq_of_beq_eq_true hlb
                rw [hlb,cond_true] at e
                have he:=run_eqInts (P:=P) w hk.i hk.s hn hcl
                by_cases hbc:b=c
                · subst hbc
                  rw [eqI_iff.2 rfl,cond_true] at e
                  cases e
                  refine ⟨v',h2,?_,Nat.le_refl _,by simp,by simp⟩
                  simp only [Instr.findAsking,Op.equal,Op.maxDepth,Sem.run_bind,he,Result.andThen_ok]
                  simp
                · have hf:eqI b c=false:=by cases hx:eqI b c with
                    | false=>rfl
                    | true=>exact absurd (eqI_iff.1 hx) hbc
                  rw [hf,cond_false] at e
                  have ih:=findS_run hk hn e h3
                  have hs:∀ q,(Instr.findAsking kt (aggI b) (⟨aggI c,v',m.born⟩::l') j).run P w=q↔(Instr.findAsking kt (aggI b) l' (j+1)).run P w=q:=fun q=>by
                    simp only [Instr.findAsking,Op.equal,Op.maxDepth,Sem.run_bind,he,Result.andThen_ok,hbc,decide_false,Bool.false_eq_true,if_false]
                  cases r with
                  | none=>exact (hs _).2 ih
                  | some p =>
                    obtain ⟨n',v2⟩:=p
                    obtain ⟨v3,q1,q2,q3,q4,q5⟩:=ih
                    refine ⟨v3,q1,(hs _).2 q2,by omega,?_,?_⟩
                    · rw [show n'-j=(n'-(j+1))+1 from by omega]; simpa using q4
                    · rw [show n'-j=(n'-(j+1))+1 from by omega]; simpa using q5
            · cases e
          · cases e
theorem findA_run {kt:TypeId} {n:Nat} {k k':Value} {es es':List MapEntry} {r:Option (Nat × Value)} (hkt:keyN P kt=some n):findA n k es=some r→rnE ρ es=some es'→rn ρ k=some k' →
    k'=k∧(∀ em,(Instr.checkKey em 10000 kt k).run P w=.ok () w)∧Instr.sameBits 10000 k k=true ∧
    match r with
    | none=>(Instr.findKey kt k es').run P w=.ok none w
    | some (i,v)=>∃ v',rn ρ v=some v'∧(Instr.findKey kt k es').run P w=.ok (some (i,v')) w∧(es[i]?).map (·.val)=some v∧(es'[i]?).map (·.key)=some k:=by
  intro e h hk
  cases n with
  | zero =>
    cases k with
    | int kk kn =>
      have e:findK kk kn es 0=some r:=e
      obtain ⟨kd,hu⟩:=keyN_int hkt
      cases hk
      have hc:=fun em=>ck_run (P:=P) (w:=w) (kk:=kk) (kn:=kn) em 9999 hu
      simp only [Nat.reduceAdd] at hc
      refine ⟨rfl,hc,by unfold Instr.sameBits; cases kk <;> simp,?_⟩
      have q:=findK_run (kd:=kd) e h
      cases r with
      | none=>simp only at q; simp [Instr.findKey,run_underlying hu,q]
      | some p =>
        obtain ⟨i,v⟩:=p
        obtain ⟨v',q1,q2,_,q4,q5⟩:=q
        exact ⟨v',q1,by simp [Instr.findKey,run_underlying hu,q2],by simpa using q4,by simpa using q5⟩
    | _=>cases e
  | succ m =>
    cases k with
    | agg a =>
      obtain ⟨a⟩:=a
      have e2:(match intsV a with
        | some b=>bif b.length.beq (m+1) then findS b (m+1) es 0 else none
        | none=>none)=some r:=e
      clear e
      cases hb:intsV a with
      | none=>rw [hb] at e2; cases e2
      | some b =>
        rw [hb] at e2;simp only at e2
        have ea:=intsV_map hb
        subst ea
        cases hlb:b.length.beq (m+1) with
        | false=>rw [hlb] at e2; cases e2
        | true =>
          have hbl:=Nat.eq_of_beq_eq_true hlb
          rw [hlb,cond_true] at e2
          have hS:=keyN_str hkt
          have hkk:rn ρ (aggI b)=some k':=hk
          rw [rn_flat (flat_aggI b)] at hkk
          cases hkk
          obtain ⟨fs,hu,_,_⟩:=intsP_of hS.i
          refine ⟨rfl,fun em=>run_checkS hS hbl em,sameBits_agg b,?_⟩
          have q:=findS_run (w:=w) hS hbl e2 h
          have hfk:(Instr.findKey kt (aggI b) es').run P w=(Instr.findAsking kt (aggI b) es' 0).run P w:=by rw [run_findKey_eq w (by rw [hu])]
          cases r with
          | none=>exact hfk.trans q
          | some p =>
            obtain ⟨i,v⟩:=p
            obtain ⟨v',q1,q2,_,q4,q5⟩:=q
            exact ⟨v',q1,hfk.trans q2,by simpa using q4,by simpa using q5⟩
    | _=>cases e
theorem q_lk {t:TypeId} {x y:Operand} {ok:Bool} {i:In} {v:Value} (hi:inOf P ⟨dst,.lookup t x y ok,ty,pos,aft,g⟩=some i) (hv:evQ fr h i=some v) (hr:HR P ρ h η) (hw:η.le w) (hf:FR ρ fr) (hk:EK ρ fr ev #[x,y]):QOK P ρ ev w ⟨dst,.lookup t x y ok,ty,pos,aft,g⟩ v:=by
  simp only [inOf] at hi
  split at hi
  · rename_i d d' kt e hd hd' ht
    split at hi
    · rename_i n z hkt hz
      cases hfz:flat z with
      | false=>rw [hfz] at hi; cases hi
      | true =>
        rw [hfz] at hi
        cases hi
        have hv:miLkp h z ok n (evO fr d) (evO fr d')=some v:=hv
        unfold miLkp at hv
        split at hv
        · rename_i r k ha hb
          split at hv
          · rename_i es cl hg
            obtain ⟨u,e2,e3⟩:=od_ev hf hk (by simp) hd ha
            obtain ⟨u',e4,e5⟩:=od_ev hf hk (by simp) hd' hb
            obtain ⟨b,s,ex,es',h1,h2,h3,_⟩:=map_at hr hw hg
            simp only [rn,h1,Option.some.injEq] at e2;subst e2;unfold lkpR at hv
            split at hv
            · rename_i n' v' hfk
              obtain ⟨rfl,hc,_,v2,q1,hfk2,_,_⟩:=findA_run (w:=w) hkt hfk h2 e4
              cases ok with
              | true =>
                cases hv
                refine ⟨.tuple #[v2,.bool true],?_,?_⟩
                · have:=rnL_cons.2 ⟨v2,[.bool true],q1,(rfl:rnL ρ [.bool true]=some [.bool true]),rfl⟩
                  show rn ρ (.tuple ⟨[v',.bool true]⟩)=_
                  simp only [rn,rnR,this]
                · simp [execOp,e3,e5,Instr.lookup,run_underlying ht,getObj,Sem.run,h3,hc,hfk2]
              | false =>
                cases hv
                exact ⟨v2,q1,by simp [execOp,e3,e5,Instr.lookup,run_underlying ht,getObj,Sem.run,h3,hc,hfk2]⟩
            · rename_i hfk
              obtain ⟨rfl,hc,_,hfk2⟩:=findA_run (w:=w) hkt hfk h2 e4
              have q1:=rn_flat (ρ:=ρ) hfz
              cases ok with
              | true =>
                cases hv
                refine ⟨.tuple #[z,.bool false],?_,?_⟩
                · have:=rnL_cons.2 ⟨z,[.bool false],q1,(rfl:rnL ρ [.bool false]=some [.bool false]),rfl⟩
                  show rn ρ (.tuple ⟨[z,.bool false]⟩)=_
                  simp only [rn,rnR,this]
                · simp [execOp,e3,e5,Instr.lookup,run_underlying ht,getObj,Sem.run,h3,hc,hfk2,run_zeroValue hz]
              | false =>
                cases hv
                exact ⟨z,q1,by simp [execOp,e3,e5,Instr.lookup,run_underlying ht,getObj,Sem.run,h3,hc,hfk2,run_zeroValue hz]⟩
            · cases hv
          · cases hv
        · cases hv
    · cases hi
  · cases hi
end
end Go.Ev
namespace Go.Ev
open Go.Eng
section
variable {P:Program} {ρ:Rn} {fr:Fr} {ev:Operand→Value} {w:World} {h:AH} {η:PH} {dst:Option Tmp} {ty:TypeId} {pos:String} {aft:Array Edge} {g:Option (Nat × Bool)}
theorem map_wr {α:Type} {x:Option α} {f:α→Wr} {i:In} {v:Value} (hi:(x.map fun a=>In.wr (f a))=some i) (hv:evQ fr h i=some v):False:=by
  cases x with
  | none=>cases hi
  | some a=>cases hi; cases hv
theorem evQ_run {o:Oper} {i:In} {v:Value} (hi:inOf P o=some i) (hv:evQ fr h i=some v) (hr:HR P ρ h η) (hw:η.le w) (hf:FR ρ fr) (hk:EK ρ fr ev o.op.operands):QOK P ρ ev w o v:=by
  obtain ⟨dst,op,ty,pos,aft,g⟩:=o
  cases op with
  | move x =>
    simp only [inOf,Option.map_eq_some_iff] at hi
    obtain ⟨d,hd,rfl⟩:=hi
    obtain ⟨u,h1,h2⟩:=od_ev hf hk (by simp [Op.operands]) hd hv
    exact ⟨u,h1,by simp [execOp,h2]⟩
  | assign x =>
    simp only [inOf,Option.map_eq_some_iff] at hi
    obtain ⟨d,hd,rfl⟩:=hi
    obtain ⟨u,h1,h2⟩:=od_ev hf hk (by simp [Op.operands]) hd hv
    exact ⟨u,h1,by simp [execOp,h2]⟩
  | binOp op t x y yt=>exact q_bin hi hv hf hk
  | load t x=>exact q_ld hi hv hr hw hf hk
  | fieldAddr t x f=>exact q_fa hi hv hf hk
  | indexAddr t x y=>exact q_ia hi hv hf hk
  | unOp op t x=>exact q_un hi hv hf hk
  | pick c x y=>exact q_pk hi hv hf hk
  | extract x n=>exact q_ex hi hv hf hk
  | nilCheck x=>exact q_nc hi hv hf hk
  | makeFunc fn xs cs=>exact q_mf hi hv hf hk
  | field t x f=>exact q_fd hi hv hf hk
  | index t x y=>exact q_ix hi hv hf hk
  | slice t x lo hi' mx=>exact q_sl hi hv hf hk
  | build t ps=>exact q_bd hi hv hf hk
  | convert s d x=>exact q_cv hi hv hr hw hf hk
  | lookup t x y ok=>exact q_lk hi hv hr hw hf hk
  | call c =>
    cases hc:c.callee with
    | builtin b =>
      have hm:(∃ m,i=.mi m)∨∃ m,i=.wr m:=by
        simp only [inOf,inCall,hc] at hi;unfold inCallB at hi
        split at hi
        · unfold inLen at hi
          repeat' split at hi
          all_goals first|(cases hi; done)|(cases hi; exact .inl ⟨_,rfl⟩)
        · cases hi; exact .inl ⟨_,rfl⟩
        · cases hi; exact .inl ⟨_,rfl⟩
        · repeat' split at hi
          all_goals first|(cases hi; done)|(rename_i zs _ _ _; cases hz:zs.length.beq _ <;> rw [hz] at hi <;> cases hi; exact .inr ⟨_,rfl⟩)
        · repeat' split at hi
          all_goals first|(cases hi; done)|(cases hi; exact .inr ⟨_,rfl⟩)
        · repeat' split at hi
          all_goals first|(cases hi; done)|(rename_i zs _ _; cases hz:zs.length.beq _ <;> rw [hz] at hi <;> cases hi; exact .inr ⟨_,rfl⟩)
        · cases hi
      rcases hm with ⟨m,rfl⟩|⟨m,rfl⟩
      · exact q_ln hc hi ⟨m,rfl⟩ hv hf hk
      · cases hv
    | value f =>
      simp only [inOf,inCall,hc] at hi;unfold inCallV at hi
      split at hi
      · cases hi; cases hv
      · cases hi
    | invoke r n =>
      simp only [inOf,inCall,hc] at hi
      cases hi
  | store t x y =>
    simp only [inOf] at hi
    repeat' split at hi
    all_goals first|(cases hi; done)|(cases hi; cases hv)
  | alloc t=>simp only [inOf] at hi; exact (map_wr hi hv).elim
  | box t x=>simp only [inOf] at hi; exact (map_wr hi hv).elim
  | buildSlice t n ps =>
    simp only [inOf] at hi
    repeat' split at hi
    all_goals first|(cases hi; done)|(rename_i zs _ _; cases hz:zs.length.beq _ <;> rw [hz] at hi <;> first|(cases hi; done)|exact (map_wr hi hv).elim)
  | makeSlice t l c =>
    simp only [inOf] at hi
    repeat' split at hi
    all_goals first|(cases hi; done)|(rename_i zs _ _ _; cases hz:zs.length.beq _ <;> rw [hz] at hi <;> first|(cases hi; done)|(cases hi; cases hv))
  | makeMap t r =>
    cases r with
    | none=>cases hi; cases hv
    | some x=>cases hi
  | mapUpdate t m k v' =>
    simp only [inOf] at hi
    repeat' split at hi
    all_goals first|(cases hi; done)|(cases hi; cases hv)
  | insert t m k v' =>
    simp only [inOf] at hi
    repeat' split at hi
    all_goals first|(cases hi; done)|(cases hi; cases hv)
  | _=>cases hi
/-! what acts -/
def Ext (ρ ρ':Rn) (lo hi:Nat):Prop:=ρ.le ρ'∧∀ i,ρ' i≠none→ρ i≠none∨(lo≤i∧i<hi)
theorem Ext.refl {lo hi:Nat}:Ext ρ ρ lo hi:=⟨fun _ _ h=>h,fun _ h=>.inl h⟩
theorem Ext.trans {ρ1 ρ2 ρ3:Rn} {a b c:Nat} (h1:Ext ρ1 ρ2 a b) (h2:Ext ρ2 ρ3 b c) (hab:a≤b) (hbc:b≤c):Ext ρ1 ρ3 a c:=
  ⟨fun i x h=>h2.1 i x (h1.1 i x h),fun i h=>by
    rcases h2.2 i h with h|h
    · rcases h1.2 i h with h|h
      · exact .inl h
      · exact .inr ⟨h.1,by omega⟩
    · exact .inr ⟨by omega,h.2⟩⟩
def Fresh (ρ:Rn) (lo hi:Nat):Prop:=∀ i,lo≤i→i<hi→ρ i=none
theorem Fresh.after {ρ ρ':Rn} {a b c:Nat} (h:Fresh ρ a c) (e:Ext ρ ρ' a b) (hab:a≤b):Fresh ρ' b c:=fun i h1 h2=>by
  cases hi:ρ' i with
  | none=>rfl
  | some x =>
    rcases e.2 i (by rw [hi]; simp) with h3|h3
    · exact absurd (h i (by omega) h2) h3
    · omega
theorem Upd.one {η η':PH} {w w':World} (h1:w.heap.size≤w'.heap.size∧w'.os=w.os∧w'.output=w.output∧w'.tape=w.tape∧w.drawn≤w'.drawn) (h2:∀ b,b<w.heap.size→η b=none→w'.heap[b]?=w.heap[b]?)
    (h3:η'.le w') (h4:∀ b,η' b≠none→η b≠none∨w.heap.size≤b):Upd [η] [η'] w w':=
  ⟨h1,fun b hb hn=>h2 b hb (hn η (by simp)),fun ρ hρ=>by simp at hρ; subst hρ; exact h3,by simp,fun ρ hρ b hb=>by
    simp at hρ; subst hρ
    rcases h4 b hb with h|h
    · exact .inl ⟨η,by simp,h⟩
    · exact .inr h⟩
def LOK (P:Program) (ρ:Rn) (η:PH) (ev:Operand→Value) (w:World) (h:AH) (o:Oper) (v:Value) (h':AH):Prop:=
  h.next≤h'.next∧(Fresh ρ h.next h'.next→∃ u ρ' η' w',(((execOp ev o).run P w=.ok (.value u) w')∨((execOp ev o).run P w=.ok .skip w'∧u=undef))∧rn ρ' v=some u∧HR P ρ' h' η'∧Upd [η] [η'] w w'∧Ext ρ ρ' h.next h'.next)
theorem le_none (hw:η.le w):η w.heap.size=none:=by
  cases e:η w.heap.size with
  | none=>rfl
  | some o=>have:=hw.lt (b:=w.heap.size) (by rw [e]; simp); omega
theorem upd_alloc (hw:η.le w) (o:Obj):Upd [η] [setP η w.heap.size (some o)] w (w.alloc o):=by
  have hn:=le_none hw
  refine Upd.one ⟨by simp,rfl,rfl,rfl,Nat.le_refl _⟩ (fun b hb _=>?_) (fun b ob hb=>?_) (fun b hb=>?_)
  · exact heap_alloc_old w o hb
  · unfold setP at hb
    split at hb
    · rename_i e; cases hb; subst e; exact heap_alloc_new w _
    · rename_i e
      have h1:=hw b ob hb
      have h2:=hw.lt (b:=b) (by rw [hb]; simp)
      rw [heap_alloc_old w o h2]; exact h1
  · unfold setP at hb
    split at hb
    · rename_i e; exact .inr (by omega)
    · exact .inl hb
theorem newC_some {e:TypeId} {l:List Value} {i:Nat} {h':AH} (hn:newC h e l=some (i,h')):i=h.next∧h.new (.cells l e)=some h':=by
  unfold newC at hn;rw [fL1_eq] at hn;simp only at hn
  cases hh:h.new (.cells l e) with
  | none=>rw [hh] at hn; cases hn
  | some h2=>rw [hh] at hn; cases hn; exact ⟨rfl,rfl⟩
theorem noFz0 (n:Nat):NoFz (0,0) n:=fun o _ h=>by omega
theorem new_cells (hr:HR P ρ h η) (hw:η.le w) {e:TypeId} {l us:List Value} {h':AH} (hn:h.new (.cells l e)=some h') (hl:rnL ρ l=some us) (hf:Fresh ρ h.next h'.next) :
    HR P (setR ρ h.next (w.heap.size,0,0)) h' (setP η w.heap.size (some (.cells us.toArray e (0,0))))∧Upd [η] [setP η w.heap.size (some (.cells us.toArray e (0,0)))] w (w.alloc (.cells us.toArray e (0,0)))∧Ext ρ (setR ρ h.next (w.heap.size,0,0)) h.next h'.next:=by
  have hnx:=(AH.get_new hn).2
  have hn0:ρ h.next=none:=hf _ (Nat.le_refl _) (by omega)
  refine ⟨hr.new hn hn0 (le_none hw) ⟨[],us,[],(0,0),0,by simp,rnL_mono (setR_le hn0) hl,rfl,rfl,.inl rfl,noFz0 _⟩,upd_alloc hw _,setR_le hn0,fun i hi=>?_⟩
  unfold setR at hi
  split at hi
  · rename_i e; exact .inr ⟨by omega,by omega⟩
  · exact .inl hi
theorem new_next {x:AO} {h':AH} (hn:h.new x=some h'):h.next≤h'.next:=by rw [(AH.get_new hn).2]; omega
theorem put_next {i:Nat} {x:Option AO} {h':AH} (hn:h.put i x=some h'):h'.next=h.next:=(AH.get_put hn).2
theorem ptrN_some {x:Option (Nat × AH)} {v:Value} {h':AH} (e:ptrN x=some (v,h')):∃ i,x=some (i,h')∧v=.pointer (some ⟨i,0,none⟩):=by
  unfold ptrN at e
  split at e
  · cases e; exact ⟨_,rfl,rfl⟩
  · cases e
theorem slcN_some {x:Option (Nat × AH)} {n c:Nat} {v:Value} {h':AH} (e:slcN n c x=some (v,h')):∃ i,x=some (i,h')∧v=.slice (some ⟨i,0,none⟩) n c:=by
  unfold slcN at e
  split at e
  · cases e; exact ⟨_,rfl,rfl⟩
  · cases e
theorem rn_new {i:Nat} {x:Nat × Nat × Nat}:setR ρ i x i=some x:=by simp [setR]
theorem w_alloc {t:TypeId} {wr:Wr} {v:Value} {h':AH} (hi:inOf P ⟨dst,.alloc t,ty,pos,aft,g⟩=some (.wr wr)) (hv:evWr fr h wr=some (v,h')) (hr:HR P ρ h η) (hw:η.le w):LOK P ρ η ev w h ⟨dst,.alloc t,ty,pos,aft,g⟩ v h':=by
  simp only [inOf,Option.map_eq_some_iff] at hi
  obtain ⟨zs,hz,e⟩:=hi
  cases e
  obtain ⟨i,e1,rfl⟩:=ptrN_some (show ptrN (newC h t zs)=some (v,h') from hv)
  obtain ⟨rfl,e2⟩:=newC_some e1
  refine ⟨new_next e2,fun hf=>?_⟩
  obtain ⟨z,z1,z2,z3⟩:=zsP_some (ρ:=ρ) hz
  obtain ⟨k1,k2,k3⟩:=new_cells hr hw e2 z3 hf
  refine ⟨.pointer (some ⟨w.heap.size,0,none⟩),_,_,_,.inl ?_,by simp [rn,rnA,rn_new],k1,k2,k3⟩
  have hz2:zs.toArray=z.cells:=by rw [← z2]
  rw [hz2]
  simp [execOp,Instr.alloc,run_zeroValue z1,newVar,newRow,newObj]
  rfl
theorem w_box {t:TypeId} {x:Operand} {wr:Wr} {v:Value} {h':AH} (hi:inOf P ⟨dst,.box t x,ty,pos,aft,g⟩=some (.wr wr)) (hv:evWr fr h wr=some (v,h')) (hr:HR P ρ h η) (hw:η.le w) (hf:FR ρ fr) (hk:EK ρ fr ev #[x]):LOK P ρ η ev w h ⟨dst,.box t x,ty,pos,aft,g⟩ v h':=by
  simp only [inOf,Option.map_eq_some_iff] at hi
  obtain ⟨d,hd,e⟩:=hi
  cases e
  have hv:wrBox h t (evO fr d)=some (v,h'):=hv
  unfold wrBox at hv
  split at hv
  · rename_i a ha
    obtain ⟨i,e1,rfl⟩:=ptrN_some hv
    obtain ⟨rfl,e2⟩:=newC_some e1
    obtain ⟨u,q1,q2⟩:=od_ev hf hk (by simp) hd ha
    refine ⟨new_next e2,fun hf=>?_⟩
    obtain ⟨k1,k2,k3⟩:=new_cells hr hw e2 (rn_cl q1) hf
    refine ⟨.pointer (some ⟨w.heap.size,0,none⟩),_,_,_,.inl ?_,by simp [rn,rnA,rn_new],k1,k2,k3⟩
    simp [execOp,Instr.box,q2,newVar,newRow,newObj]
    rfl
  · cases hv
end
end Go.Ev
namespace Go.Ev
open Go.Eng
section
variable {P:Program} {ρ:Rn} {fr:Fr} {ev:Operand→Value} {w:World} {h:AH} {η:PH} {dst:Option Tmp} {ty:TypeId} {pos:String} {aft:Array Edge} {g:Option (Nat × Bool)}
theorem heap_setCells {b:Nat} {t:TypeId} {fz:Nat × Nat}:∀ (vs:List Value) (o:Nat) (w:World) (l:List Value),w.heap[b]?=some (.cells l.toArray t fz)→o+vs.length≤l.length→(w.setCells b o vs).heap[b]?=some (.cells (l.take o ++ vs ++ l.drop (o+vs.length)).toArray t fz)
  | [],o,w,l,h,_=>by simpa [World.setCells] using h
  | v::r,o,w,l,h,hl=>by
    simp only [List.length_cons] at hl
    have hs:(w.setCell ⟨b,o,none⟩ v).heap[b]?=some (.cells (l.set o v).toArray t fz):=by
      have hb:=(Array.getElem?_eq_some_iff.1 h).1
      simp [World.setCell,Array.getElem?_modify,h]
    have:=heap_setCells r (o+1) _ (l.set o v) hs (by simp; omega)
    rw [World.setCells,this]
    congr 2
    apply Array.ext'
    simp only
    have h1:(l.set o v).take (o+1)=l.take o ++ [v]:=by
      rw [List.set_eq_take_append_cons_drop,if_pos (by omega)]
      rw [List.take_append,List.take_take,Nat.min_eq_right (by omega)]
      simp [List.length_take,Nat.min_eq_left (show o≤l.length by omega)]
    rw [h1,List.drop_set_of_lt (by omega)]
    simp [Nat.add_comm,Nat.add_left_comm]
theorem size_setCells (b:Nat):∀ (vs:List Value) (o:Nat) (w:World),(w.setCells b o vs).heap.size=w.heap.size
  | [],_,_=>rfl
  | v::r,o,w=>by rw [World.setCells,size_setCells b r]; simp [World.setCell]
theorem setCells_tape (b:Nat):∀ (vs:List Value) (o:Nat) (w:World),(w.setCells b o vs).tape=w.tape∧(w.setCells b o vs).drawn=w.drawn
  | [],_,_=>⟨rfl,rfl⟩
  | v::r,o,w=>by rw [World.setCells]; exact setCells_tape b r _ _
theorem rn_isAgg {v u:Value} (e:rn ρ v=some u) (h:v.oneCell'=true):u.oneCell'=true:=by
  cases v with
  | agg c=>simp [Value.oneCell'] at h
  | tuple c=>simp [Value.oneCell'] at h
  | slice a n c =>
    rcases a with _|⟨i,o,_|s⟩
    · cases e; rfl
    · obtain ⟨_,_,_,rfl⟩:=rnS_any (by rw [← rn_eq]; exact e); rfl
    · simp [rn] at e
  | map r =>
    cases r with
    | none=>cases e; rfl
    | some i =>
      simp only [rn] at e
      split at e
      · cases e; rfl
      · cases e
  | pointer a =>
    simp only [rn] at e
    split at e
    · cases e; rfl
    · cases e
  | func f xs cs =>
    simp only [rn] at e
    split at e
    · cases e; rfl
    · cases e
  | float k b=>simp [rn] at e
  | complex k a b=>simp [rn] at e
  | chan r=>simp [rn] at e
  | iface t v=>simp [rn] at e
  | _=>cases e; rfl
theorem rnL_one:∀ {vs us:List Value},rnL ρ vs=some us→(∀ v∈vs,v.oneCell'=true)→∀ u∈us,u.oneCell'=true
  | [],us,e,_=>by cases e; simp
  | v::l,us,e,h=>by
    obtain ⟨u,us',h1,h2,rfl⟩:=rnL_cons.1 e
    intro x hx
    simp at hx
    rcases hx with rfl|hx
    · exact rn_isAgg h1 (h v (by simp))
    · exact rnL_one h2 (fun y hy=>h y (by simp [hy])) x hx
theorem setCells_nil {b o:Nat}:w.setCells b o []=w:=rfl
theorem storeN_run (hr:HR P ρ h η) (hw:η.le w) {i o:Nat} {vs us:List Value} {h':AH} (e:storeN h i o vs=some h') {b s ex:Nat} (hρ:ρ i=some (b,s,ex)) (hv:rnL ρ vs=some us) :
    (storeCells ⟨b,s+o,none⟩ us).run P w=.ok () (w.setCells b (s+o) us)∧h'.next=h.next∧(∀ j,j<us.length→(w.cell? ⟨b,s+o+j,none⟩).isSome=true)∧(∀ j,j<us.length→w.frozen? ⟨b,s+o+j,none⟩=false)∧(∀ u∈us,u.oneCell'=true) ∧
      ∃ η',HR P ρ h' η'∧Upd [η] [η'] w (w.setCells b (s+o) us):=by
  unfold storeN at e
  split at e
  · rename_i c t hi
    split at e
    · rename_i c' hc
      obtain ⟨rfl,k1,k2⟩:=setC_eq _ _ _ _ hc
      obtain ⟨b',s',e',ob,h1,h2,h3⟩:=hr.val i _ hi
      rw [hρ] at h1; cases h1
      obtain ⟨pre,us0,post,fz,k,rfl,q1,rfl,q3,q4,q5⟩:=h3
      have hb:=hw b _ h2
      have hl0:=rnL_len q1
      have hl1:=rnL_len hv
      have hone:=rnL_one hv k2
      have hcell:∀ j,j<us.length→(w.cell? ⟨b,pre.length+o+j,none⟩).isSome=true:=fun j hj=>by
        have:pre.length+o+j<(pre ++ us0 ++ post).length:=by simp; omega
        simp [World.cell?,hb]
        simp at this; omega
      have hfz:∀ j,j<us.length→w.frozen? ⟨b,pre.length+o+j,none⟩=false:=fun j hj=>by
        have:=q5 (pre.length+o+j) (by simp; omega)
        simp only [World.frozen?,hb];simp only [Bool.and_eq_false_iff,decide_eq_false_iff_not]
        rcases Nat.lt_or_ge (pre.length+o+j) fz.1 with h|h
        · left; simp; omega
        · right; simp only [Nat.not_lt]; exact Nat.not_lt.1 fun hh=>this ⟨h,hh⟩
      have hrun:=run_storeCells_cells (P:=P) b (pre.length+o) us 0 w (by simpa using hcell) (by simpa using hfz) hone
      simp only [Nat.add_zero] at hrun
      have hh:=heap_setCells (b:=b) (t:=t) (fz:=fz) us (pre.length+o) w _ hb (by simp; omega)
      have hrow:(pre ++ us0 ++ post).take (pre.length+o) ++ us ++ (pre ++ us0 ++ post).drop (pre.length+o+us.length)=pre ++ (us0.take o ++ us ++ us0.drop (o+us.length)) ++ post:=by
        have t1:(pre ++ us0 ++ post).take (pre.length+o)=pre ++ us0.take o:=by
          rw [List.append_assoc,List.take_length_add_append,List.take_append_of_le_length (by omega)]
        have t2:(pre ++ us0 ++ post).drop (pre.length+o+us.length)=us0.drop (o+us.length) ++ post:=by
          rw [List.append_assoc,Nat.add_assoc,List.drop_length_add_append,List.drop_append_of_le_length (by omega)]
        rw [t1,t2]; simp
      rw [hrow] at hh
      have hmid:rnL ρ (c.take o ++ vs ++ c.drop (o+vs.length))=some (us0.take o ++ us ++ us0.drop (o+us.length)):=by
        have r1:=(rnL_split o q1).1
        have r2:=(rnL_split (o+vs.length) q1).2
        rw [← hl1] at r2
        rw [show o+vs.length=o+us.length by omega]
        exact rnL_append.2 ⟨_,_,rnL_append.2 ⟨_,_,r1,hv,rfl⟩,r2,rfl⟩
      refine ⟨hrun,put_next e,hcell,hfz,hone,_,hr.put hi e hρ (o:=.cells (pre ++ (us0.take o ++ us ++ us0.drop (o+us.length)) ++ post).toArray t fz) ⟨pre,_,post,fz,k,rfl,hmid,rfl,q3,q4,?_⟩,?_⟩
      · have:(pre ++ (us0.take o ++ us ++ us0.drop (o+us.length)) ++ post).length=(pre ++ us0 ++ post).length:=by simp; omega
        rw [this]; exact q5
      · have hlt:=hw.lt (b:=b) (by rw [h2]; simp)
        have hsz:=size_setCells b us (pre.length+o) w
        refine Upd.one ⟨by rw [hsz]; exact Nat.le_refl _,World.os_setCells ..,World.output_setCells ..,?_,?_⟩ (fun b' hb' hn=>?_) (fun b' ob' hb'=>?_) (fun b' hb'=>?_)
        · exact (setCells_tape ..).1
        · exact Nat.le_of_eq (setCells_tape ..).2.symm
        · exact World.heap_setCells_other w b _ _ hb' (fun e=>by subst e; rw [h2] at hn; cases hn)
        · unfold setP at hb'
          split at hb'
          · rename_i e1; cases hb'; subst e1; exact hh
          · rename_i e1
            have l2:=hw.lt (b:=b') (by rw [hb']; simp)
            rw [World.heap_setCells_other w b _ _ l2 e1];exact hw b' ob' hb'
        · unfold setP at hb'
          split at hb'
          · rename_i e1; subst e1; left; rw [h2]; simp
          · exact .inl hb'
    · cases e
  · cases e
end
end Go.Ev
namespace Go.Ev
open Go.Eng
section
variable {P:Program} {ρ:Rn} {fr:Fr} {ev:Operand→Value} {w:World} {h:AH} {η:PH} {dst:Option Tmp} {ty:TypeId} {pos:String} {aft:Array Edge} {g:Option (Nat × Bool)}
theorem w_st {t:TypeId} {x y:Operand} {i:In} {v:Value} {h':AH} {a b:Od} {n:Nat} (hi:inOf P ⟨dst,.store t x y,ty,pos,aft,g⟩=some i) (he:i=.st a b n) (hv:evSt h n (evO fr a) (evO fr b)=some (v,h')) (hr:HR P ρ h η) (hw:η.le w) (hf:FR ρ fr) (hk:EK ρ fr ev #[x,y]) :
    LOK P ρ η ev w h ⟨dst,.store t x y,ty,pos,aft,g⟩ v h':=by
  subst he;simp only [inOf] at hi
  split at hi
  · rename_i x' y' n' h1 h2 hs
    cases hi
    unfold evSt at hv
    split at hv
    · rename_i r o u hx hy
      cases hb:Nat.beq (cl u).length n with
      | false=>rw [hb] at hv; cases hv
      | true =>
        rw [hb] at hv;simp only [cond_true] at hv
        split at hv
        · rename_i h2' hst
          cases hv
          obtain ⟨p,p1,p2⟩:=od_ev hf hk (by simp) h1 hx
          obtain ⟨q,q1,q2⟩:=od_ev hf hk (by simp) h2 hy
          obtain ⟨b,s,e,hρ,rfl⟩:=rn_ptr p1
          have k1:=rn_cl q1
          obtain ⟨r1,r2,_,_,_,η',r3,r4⟩:=storeN_run (P:=P) hr hw hst hρ k1
          have hl:=rnL_len k1
          have hn:=Nat.eq_of_beq_eq_true hb
          refine ⟨by omega,fun _=>⟨undef,ρ,η',_,.inr ⟨?_,rfl⟩,rfl,r3,r4,Ext.refl⟩⟩
          have hsz:q.cells.size=n:=by rw [← Array.length_toList,hl,hn]
          simp [execOp,p2,q2,Instr.storeAt,Instr.sureAddr,storeVar,Eng.run_sizeOf hs,hsz,r1]
        · cases hv
    · cases hv
  · cases hi
theorem rep_get {l:List Value}:∀ (n i:Nat),i<n*l.length→(rep l n)[i]?=l[i % l.length]?
  | 0,i,h=>by simp at h
  | n+1,i,h=>by
    rw [Nat.add_mul] at h;unfold rep
    rcases Nat.lt_or_ge i l.length with h1|h1
    · rw [List.getElem?_append_left h1,Nat.mod_eq_of_lt h1]
    · rw [List.getElem?_append_right h1,rep_get n (i-l.length) (by omega)]
      rw [Nat.mod_eq_sub_mod h1]
theorem rep_len {l:List Value}:∀ (n:Nat),(rep l n).length=n*l.length
  | 0=>by simp [rep]
  | n+1=>by rw [rep,List.length_append,rep_len n,Nat.add_mul]; omega
theorem made_rep {z:Array Value} {n s:Nat} (hs:z.size=s):madeCells z (n*s)=(rep z.toList n).toArray:=by
  subst hs
  apply Array.ext'
  apply List.ext_getElem?
  intro i
  rcases Nat.lt_or_ge i (n*z.size) with h1|h1
  · rw [show (rep z.toList n).toArray.toList=rep z.toList n from rfl,rep_get n i (by simpa using h1)]
    have h0:0<z.size:=by
      rcases Nat.eq_zero_or_pos z.size with h0|h0
      · rw [h0] at h1; omega
      · exact h0
    have hm:i % z.size<z.size:=Nat.mod_lt _ h0
    simp [madeCells,h1,hm]
  · rw [List.getElem?_eq_none (by simp [madeCells]; exact h1),List.getElem?_eq_none (by simp [rep_len]; exact h1)]
theorem rnL_rep {l us:List Value} (h:rnL ρ l=some us):∀ (n:Nat),rnL ρ (rep l n)=some (rep us n)
  | 0=>rfl
  | n+1=>rnL_append.2 ⟨_,_,h,rnL_rep h n,rfl⟩
theorem zeroCells_rep {z:Array Value} {n:Nat}:Builtin.zeroCells z n=(rep z.toList n).toArray:=made_rep (n:=n) (z:=z) rfl
theorem w_bsl {t:TypeId} {n0:Nat} {ps:Array (Nat × Operand)} {wr:Wr} {v:Value} {h':AH} (hi:inOf P ⟨dst,.buildSlice t n0 ps,ty,pos,aft,g⟩=some (.wr wr)) (hv:evWr fr h wr=some (v,h')) (hr:HR P ρ h η) (hw:η.le w) (hf:FR ρ fr) (hk:EK ρ fr ev (Op.buildSlice t n0 ps).operands) :
    LOK P ρ η ev w h ⟨dst,.buildSlice t n0 ps,ty,pos,aft,g⟩ v h':=by
  have hx:∀ x∈ps.toList.map (·.2),x∈(Op.buildSlice t n0 ps).operands:=fun x hx=>by simpa [Op.operands] using hx
  have hps:ps.map (fun (x:Nat × Operand)=>(x.1,ev x.2))=(ps.toList.map fun (x:Nat × Operand)=>(x.1,ev x.2)).toArray:=by
    rw [← Array.toList_map]
  simp only [inOf] at hi
  split at hi
  · rename_i e ht
    split at hi
    · rename_i s zs hs hz
      cases hb:zs.length.beq s with
      | false=>rw [hb] at hi; cases hi
      | true =>
        rw [hb] at hi;simp only [cond_true,Option.map_eq_some_iff] at hi
        obtain ⟨qs,hq,e1⟩:=hi
        cases e1
        have hv:wrBsl h e n0 s (fillO (rep zs n0) (evPs fr qs))=some (v,h'):=hv
        unfold wrBsl at hv
        split at hv
        · rename_i cs hcs
          cases hle0:(Nat.ble (n0*s) 16777216 && Nat.blt n0 big) with
          | false=>rw [hle0] at hv; cases hv
          | true =>
            rw [hle0] at hv;simp only [cond_true] at hv
            obtain ⟨hle,hlt⟩:=Bool.and_eq_true_iff.1 hle0
            obtain ⟨i,e1,rfl⟩:=slcN_some hv
            obtain ⟨rfl,e2⟩:=newC_some e1
            unfold fillO at hcs
            split at hcs
            · rename_i l hl
              obtain ⟨z,z1,z2,z3⟩:=zsP_some (ρ:=ρ) hz
              have hzl:=Nat.eq_of_beq_eq_true hb
              obtain ⟨r',f1,f2⟩:=fill_ev hf hk (plcA_ok hq) hx hl hcs (rnL_rep z3 n0)
              refine ⟨new_next e2,fun hfr=>?_⟩
              obtain ⟨k1,k2,k3⟩:=new_cells hr hw e2 f1 hfr
              have hbig:n0<big:=blt_t.1 hlt
              refine ⟨.slice (some ⟨w.heap.size,0,none⟩) n0 n0,_,_,_,.inl ?_,by rw [rn_sl1 rn_new hbig],k1,k2,k3⟩
              have hzs:z.cells.size=s:=by rw [← Array.length_toList,z2,hzl]
              have hmade:=made_rep (n:=n0) hzs
              rw [z2] at hmade;rw [← hmade] at f2
              by_cases h0:n0*s=0
              · have hz0:madeCells z.cells (n0*s) = #[]:=by rw [h0]; simp [madeCells]
                rw [hz0] at f2;simp only [execOp,Instr.buildSlice]
                have hz1:(Array.range 0:Array Nat) = #[]:=rfl
                simp [run_underlying ht,Eng.run_sizeOf hs,h0,newRow,hz1,f2]
              · simp only [execOp,Instr.buildSlice]
                simp only [madeCells] at f2
                simp [run_underlying ht,Eng.run_sizeOf hs,run_zeroValue z1,h0,Nat.not_lt.2 (Nat.le_of_ble_eq_true hle),newRow,f2]
            · cases hcs
        · cases hv
    · cases hi
  · cases hi
theorem natI_some {x:Option Value} {n:Nat} (e:natI x=some n):x=some (.int .i64 (n:Int)):=by
  unfold natI at e
  split at e
  · cases e; rfl
  · cases e
theorem w_mks {t:TypeId} {x y:Operand} {wr:Wr} {v:Value} {h':AH} (hi:inOf P ⟨dst,.makeSlice t x y,ty,pos,aft,g⟩=some (.wr wr)) (hv:evWr fr h wr=some (v,h')) (hr:HR P ρ h η) (hw:η.le w) (hf:FR ρ fr) (hk:EK ρ fr ev #[x,y]) :
    LOK P ρ η ev w h ⟨dst,.makeSlice t x y,ty,pos,aft,g⟩ v h':=by
  simp only [inOf] at hi
  split at hi
  · rename_i e lo co ht h1 h2
    split at hi
    · rename_i s by_ zs hs hby hz
      cases hb:zs.length.beq s with
      | false=>rw [hb] at hi; cases hi
      | true =>
        rw [hb] at hi
        cases hi
        have hv:wrMks h e by_ zs (natI (evO fr lo)) (natI (evO fr co))=some (v,h'):=hv
        unfold wrMks at hv
        split at hv
        · rename_i l c hl hc
          cases hle0:(Nat.ble l c && Nat.ble (by_*c) 281474976710656 && Nat.ble c 70368744177664) with
          | false=>rw [hle0] at hv; cases hv
          | true =>
            rw [hle0] at hv;simp only [cond_true] at hv
            obtain ⟨hle1,hc3⟩:=Bool.and_eq_true_iff.1 hle0
            obtain ⟨hc1,hc2⟩:=Bool.and_eq_true_iff.1 hle1
            have hc1:=Nat.le_of_ble_eq_true hc1
            have hc2:=Nat.le_of_ble_eq_true hc2
            have hc3:=Nat.le_of_ble_eq_true hc3
            obtain ⟨i,e1,rfl⟩:=slcN_some hv
            obtain ⟨rfl,e2⟩:=newC_some e1
            obtain ⟨z,z1,z2,z3⟩:=zsP_some (ρ:=ρ) hz
            have hzl:=Nat.eq_of_beq_eq_true hb
            have hzs:z.cells.size=s:=by rw [← Array.length_toList,z2,hzl]
            refine ⟨new_next e2,fun hfr=>?_⟩
            obtain ⟨k1,k2,k3⟩:=new_cells hr hw e2 (rnL_rep z3 c) hfr
            have hbig:c<big:=by simp only [big]; omega
            refine ⟨.slice (some ⟨w.heap.size,0,none⟩) l c,_,_,_,.inl ?_,by rw [rn_sl1 rn_new hbig],k1,k2,k3⟩
            obtain ⟨p,p1,p2⟩:=od_ev hf hk (x:=x) (by simp) h1 (natI_some hl)
            obtain ⟨q,q1,q2⟩:=od_ev hf hk (x:=y) (by simp) h2 (natI_some hc)
            cases p1; cases q1
            obtain ⟨inf,i1,rfl,i2,rfl⟩:=info_of hs z1 hby
            have hrun:=run_make (P:=P) w t e inf z ht i1 i2 .i64 .i64 l c (by omega) (by omega) (by rw [← Int.natCast_mul]; omega) (by omega)
            simp only [Int.toNat_natCast] at hrun;rw [made_rep hzs,z2] at hrun
            simp [execOp,p2,q2,hrun]
        · cases hv
    · cases hi
  · cases hi
theorem w_mkm {t:TypeId} {wr:Wr} {v:Value} {h':AH} (hi:inOf P ⟨dst,.makeMap t none,ty,pos,aft,g⟩=some (.wr wr)) (hv:evWr fr h wr=some (v,h')) (hr:HR P ρ h η) (hw:η.le w):LOK P ρ η ev w h ⟨dst,.makeMap t none,ty,pos,aft,g⟩ v h':=by
  cases hi
  have hv:wrMkm h (h.new (.map [] 0))=some (v,h'):=hv
  unfold wrMkm at hv
  split at hv
  · rename_i h2 hn
    cases hv
    have hnx:=(AH.get_new hn).2
    refine ⟨new_next hn,fun hfr=>?_⟩
    have hn0:ρ h.next=none:=hfr _ (Nat.le_refl _) (by omega)
    refine ⟨.map (some w.heap.size),_,_,_,.inl ?_,?_,hr.new hn hn0 (le_none hw) (s:=0) (ex:=0) (o:=.map #[] 0) ⟨[],rfl,rfl⟩,upd_alloc hw _,setR_le hn0,fun i hi=>?_⟩
    · simp [execOp,Instr.makeMap,newObj]
      rfl
    · simp only [rn,rn_new]
    · unfold setR at hi
      split at hi
      · rename_i e; exact .inr ⟨by omega,by omega⟩
      · exact .inl hi
  · cases hv
end
end Go.Ev
namespace Go.Ev
open Go.Eng
section
variable {P:Program} {ρ:Rn} {fr:Fr} {ev:Operand→Value} {w:World} {h:AH} {η:PH} {dst:Option Tmp} {ty:TypeId} {pos:String} {aft:Array Edge} {g:Option (Nat × Bool)}
theorem ods1 {l:List Operand} {x:Od} (e:odsOf l=some [x]):∃ a,l=[a]∧odOf a=some x:=by
  cases l with
  | nil=>cases e
  | cons a r =>
    simp only [odsOf] at e
    cases k1:odOf a with
    | none=>simp [k1] at e
    | some d=>cases k2:odsOf r with
      | none=>simp [k1,k2] at e
      | some r' =>
        simp only [k1,k2,Option.some.injEq,List.cons.injEq] at e
        obtain ⟨rfl,rfl⟩:=e
        cases r with
        | nil=>exact ⟨a,rfl,k1⟩
        | cons b r =>
          simp only [odsOf] at k2
          split at k2 <;> cases k2
theorem ods2 {l:List Operand} {x y:Od} (e:odsOf l=some [x,y]):∃ a b,l=[a,b]∧odOf a=some x∧odOf b=some y:=by
  cases l with
  | nil=>cases e
  | cons a r =>
    simp only [odsOf] at e
    cases k1:odOf a with
    | none=>simp [k1] at e
    | some d=>cases k2:odsOf r with
      | none=>simp [k1,k2] at e
      | some r' =>
        simp only [k1,k2,Option.some.injEq,List.cons.injEq] at e
        obtain ⟨rfl,rfl⟩:=e
        obtain ⟨b,rfl,k3⟩:=ods1 k2
        exact ⟨a,b,rfl,k1,k3⟩
theorem arr1 {α:Type} {xs:Array α} {a:α} (e:xs.toList=[a]):xs = #[a]:=by obtain ⟨l⟩:=xs; simp at e; subst e; rfl
theorem arr2 {α:Type} {xs:Array α} {a b:α} (e:xs.toList=[a,b]):xs = #[a,b]:=by obtain ⟨l⟩:=xs; simp at e; subst e; rfl
theorem upd_put (hw:η.le w) {b:Nat} {o0 o:Obj} (hb:η b=some o0):Upd [η] [setP η b (some o)] w { w with heap:=w.heap.setIfInBounds b o }:=by
  have h0:=hw b _ hb
  have hlt:=hw.lt (b:=b) (by rw [hb]; simp)
  refine Upd.one ⟨by simp,rfl,rfl,rfl,Nat.le_refl _⟩ (fun b' hb' hn=>?_) (fun b' ob' hb'=>?_) (fun b' hb'=>?_)
  · have:b≠b':=fun e=>by subst e; rw [hb] at hn; cases hn
    simp [Array.getElem?_setIfInBounds,this]
  · unfold setP at hb'
    split at hb'
    · rename_i e1; cases hb'; subst e1; simp [Array.getElem?_setIfInBounds,hlt]
    · rename_i e1
      have:=hw b' ob' hb'
      simp [Array.getElem?_setIfInBounds,Ne.symm e1,this]
  · unfold setP at hb'
    split at hb'
    · rename_i e1; subst e1; left; rw [hb]; simp
    · exact .inl hb'
theorem setN_ok {v k:Value} {v' k':Value} (hv:rn ρ v=some v') (hk:rn ρ k=some k'):∀ {j:Nat} {es es' r:List MapEntry},rnE ρ es=some es'→setN v k j es=some r→rnE ρ r=some (es'.modify j fun e=>{ e with key:=k',val:=v' })
  | _,[],es',r,_,e=>by simp [setN] at e
  | 0,m::l,es',r,h,e=>by
    simp only [setN,Option.some.injEq] at e;subst e;simp only [rnE] at h ⊢
    cases h1:rn ρ m.key with
    | none=>simp [h1] at h
    | some k2=>cases h2:rn ρ m.val with
      | none=>simp [h1,h2] at h
      | some v2=>cases h3:rnE ρ l with
        | none=>simp [h1,h2,h3] at h
        | some l' =>
          simp only [h1,h2,h3,Option.some.injEq] at h;subst h;simp only [hv,hk]
          rfl
  | n+1,m::l,es',r,h,e=>by
    simp only [setN] at e
    cases h0:setN v k n l with
    | none=>simp [h0] at e
    | some r' =>
      simp only [h0,Option.some.injEq] at e;subst e;simp only [rnE] at h ⊢
      cases h1:rn ρ m.key with
      | none=>simp [h1] at h
      | some k2=>cases h2:rn ρ m.val with
        | none=>simp [h1,h2] at h
        | some v2=>cases h3:rnE ρ l with
          | none=>simp [h1,h2,h3] at h
          | some l' =>
            simp only [h1,h2,h3,Option.some.injEq] at h;subst h;simp only [setN_ok hv hk h3 h0]
            rfl
theorem rnE_snoc {m:MapEntry} {k' v':Value} (hk:rn ρ m.key=some k') (hv:rn ρ m.val=some v'):∀ {es es':List MapEntry},rnE ρ es=some es'→rnE ρ (es ++ [m])=some (es' ++ [⟨k',v',m.born⟩])
  | [],es',h=>by cases h; simp [rnE,hk,hv]
  | x::l,es',h=>by
    simp only [rnE,List.cons_append] at h ⊢
    cases h1:rn ρ x.key with
    | none=>simp [h1] at h
    | some k2=>cases h2:rn ρ x.val with
      | none=>simp [h1,h2] at h
      | some v2=>cases h3:rnE ρ l with
        | none=>simp [h1,h2,h3] at h
        | some l' =>
          simp only [h1,h2,h3,Option.some.injEq] at h;subst h;simp only [rnE_snoc hk hv h3]
          rfl
theorem mup_ok {mt kt et:TypeId} {n:Nat} {m v:Value} {r:Nat} {k k' av v':Value} {h':AH} (hr:HR P ρ h η) (hw:η.le w) (ht:P.underlying mt=some (.map kt et)) (hkt:keyN P kt=some n)
    (e:wrMup h n (some (.map (some r))) (some k) (some av)=some (v,h')) (hm:rn ρ (.map (some r))=some m) (hkk:rn ρ k=some k') (hv:rn ρ av=some v') :
    v=undef∧h'.next=h.next∧∃ η' w',(Instr.mapUpdate mt m k' v').run P w=.ok () w'∧HR P ρ h' η'∧Upd [η] [η'] w w':=by
  simp only [wrMup] at e
  split at e
  · rename_i es cl hg
    obtain ⟨b,s,ex,es',h1,h2,h3,h4⟩:=map_at hr hw hg
    simp only [rn,h1,Option.some.injEq] at hm;subst hm
    have hgo:(getObj b).run P w=.ok (.map es'.toArray cl) w:=by simp [getObj,Sem.run,h3]
    have hso:∀ o,(setObj b o).run P w=.ok () { w with heap:=w.heap.setIfInBounds b o }:=fun o=>by simp [setObj,Sem.run,h3]
    unfold mupO at e
    split at e
    · rename_i es2 cl2 hms
      split at e
      · rename_i hp hput
        cases e
        unfold mapSet at hms
        split at hms
        · rename_i j v0 hfk
          split at hms
          · rename_i r' hset
            cases hms
            obtain ⟨rfl,hc,hsb,v2,q1,hfk2,_,q6⟩:=findA_run (w:=w) hkt hfk h2 hkk
            have hst:(Instr.keyThatStays k' k').run P w=.ok k' w:=by
              unfold Instr.keyThatStays;rw [if_pos hsb]; rfl
            have hor:OR P ρ s ex (.map es2 cl) (.map (es'.modify j fun e=>{ e with key:=k',val:=v' }).toArray cl):=⟨_,rfl,setN_ok hv hkk h2 hset⟩
            refine ⟨rfl,put_next hput,_,_,?_,hr.put hg hput h1 hor,upd_put hw h4⟩
            have hs:(((es'.toArray[j]?).map (·.key)).getD k')=k':=by
              have:es'.toArray[j]?=es'[j]?:=by simp
              rw [this,q6]; rfl
            have hmod:es'.toArray.modify j (fun e=>{ e with key:=k',val:=v' })=(es'.modify j fun e=>{ e with key:=k',val:=v' }).toArray:=by simp
            rw [← hmod];simp only [Instr.mapUpdate]
            simp [run_underlying ht,hgo,hc,hfk2]
            simp only [List.getElem?_toArray] at hs;rw [hs]
            simp [hst,hso]
          · cases hms
        · rename_i hfk
          cases hms
          obtain ⟨rfl,hc,_,hfk2⟩:=findA_run (w:=w) hkt hfk h2 hkk
          have hor:OR P ρ s ex (.map (es ++ [(⟨k',av,cl⟩:MapEntry)]) (cl+1)) (.map (es' ++ [(⟨k',v',cl⟩:MapEntry)]).toArray (cl+1)):=⟨es' ++ [(⟨k',v',cl⟩:MapEntry)],rfl,rnE_snoc (m:=⟨k',av,cl⟩) hkk hv h2⟩
          refine ⟨rfl,put_next hput,_,_,?_,hr.put hg hput h1 hor,upd_put hw h4⟩
          simp [Instr.mapUpdate,run_underlying ht,hgo,hc,hfk2,hso]
        · cases hms
      · cases e
    · cases e
  · cases e
end
end Go.Ev
