/- Texts of this proof, one after the other; no conditions. -/
import Derived.Test.YtnijkofdlepfjaaGreatWA
import Derived.Deep.AppendSrc
import Derived.LoopNIn
import Derived.Test.YtnijkofdlepfjaaGreatWB15
import Derived.Test.YtnijkofdlepfjaaGreatWB1
set_option linter.all false
namespace Go.Ev
open Go.Eng
section
section
variable {P:Program} {ρ:Rn} {fr:Fr} {ev:Operand->Value} {w:World} {h:AH} {η:PH} {dst:Option Tmp} {ty:TypeId} {pos:String} {aft:Array Edge} {g:Option (Nat × Bool)}
theorem aD7:∀ {l:List Value},wV l=true->∀ v∈l,v.oneCell'=true
  | [],_,v,hv=>by cases hv
  | x::l,e,v,hv=>by
    have e:(Bool.rec (wV l) false (rB x):Bool)=true:=e
    cases hx:rB x with
    | true=>rw [hx] at e; cases e
    | false =>
      rw [hx] at e
      simp at hv
      rcases hv with rfl|hv
      · exact aId hx
      · exact aD7 (l:=l) e v hv
theorem vF {n:Nat} {e:TypeId} {l:Option (List Value)} {v:Value} {h':AH} (q:mkS n e h l=some (v,h')):∃ l',l=some l'/\h.new (.cells l' e)=some h'/\v=.slice (some ⟨h.next,0,none⟩) n (big+n):=by
  unfold mkS at q
  split at q
  · split at q
    · rename_i hn; cases q; exact ⟨_,rfl,hn,rfl⟩
    · cases q
  · cases q
theorem aD8 {b l:List Value} {a:Option (List Value)} (q:catO b a=some l):∃ a',a=some a'/\l=a' ++ b:=by
  cases a with
  | none=>cases q
  | some a =>
    have q:catC a b=some l:=q
    rw [aMp] at q; cases q; exact ⟨a,rfl,rfl⟩
theorem aK7 {i n b s ex:Nat} (hρ:ρ i=some (b,s,ex)) (hn:n<big):rn ρ (.slice (some ⟨i,0,none⟩) n (big+n))=some (.slice (some ⟨b,s,none⟩) n (n+ex)):=by
  have h1:big<=big+n:=Nat.le_add_right _ _
  have h2:big+n<mX:=by simp only [big,mX] at *; omega
  have h3:nD (big+n)=n:=by simp only [nD,big] at *; omega
  rw [pV hρ h1 h2,h3]; rfl
theorem aFs {h0:AH} {η0:PH} {t tx e:TypeId} {s by_:Nat} {z:Value} {n m C:Nat} {base:Option Addr} {q:Value} {ol news olds us:List Value} {h':AH} (hr:HR P ρ h0 η0) (hw:η0.le w) (hsub:∀ b,η b=none->η0 b=none) (ht:P.underlying t=some (.slice e)) (hs:szP P e=some s) (hb:nC P e=some by_)
    (hz:kD P e=some z) (hzs:z.cells.size=s) (hsrc:Src P s tx q m us w) (hold:(Builtin.firstCells s n (.slice base n C)).run P w.drew=.ok olds.toArray w.drew) (hC:C<n+m) (h1:(n+m)*by_<=70368744177664) (h2:n+m<=70368744177664)
    (ho:rnL ρ ol=some olds) (hnw:rnL ρ news=some us) (hn:h0.new (.cells (ol ++ news) e)=some h') (hf:Fresh ρ h0.next h'.next) :
    ∃ u ρ' η' w',(Builtin.append_ #[t,tx] ty #[.slice base n C,q]).run P w=.ok u w'/\rn ρ' (.slice (some ⟨h0.next,0,none⟩) (n+m) (big+(n+m)))=some u/\HR P ρ' h' η'/\Upd [η] [η'] w w'/\Ext ρ ρ' h0.next h'.next:=by
  obtain ⟨i,hi,rfl,hiz,rfl⟩:=nK hs hz hb
  have hrun:=run_append_grow_src (P:=P) w t tx ty e i z ht hi hiz base n C olds hold q m us hsrc hC (by omega) (growslice_fits hC (by omega))
  have hge:=grownCap_ge w (n+m) C e
  have hnx:=(AH.get_new hn).2
  have hn0:ρ h0.next=none:=hf _ (aK _) (by omega)
  have hbn:=pX hw
  have hrow:(olds ++ us).toArray ++ Builtin.zeroCells z.cells (grownCap w (n+m) C e-(n+m))=([] ++ (olds ++ us) ++ rep z.cells.toList (grownCap w (n+m) C e-(n+m))).toArray:=by
    rw [tH]; simp
  rw [hrow] at hrun
  have hor:OR P (jL ρ h0.next (w.heap.size,0,grownCap w (n+m) C e-(n+m))) 0 (grownCap w (n+m) C e-(n+m)) (.cells (ol ++ news) e) (.cells ([] ++ (olds ++ us) ++ rep z.cells.toList (grownCap w (n+m) C e-(n+m))).toArray e (0,0)):=
    ⟨[],olds ++ us,_,(0,0),i.size,rfl,lR (kM hn0) (iJ.2 ⟨_,_,ho,hnw,rfl⟩),rfl,by rw [aFr,cI,hzs],.inr hs,aR0 _⟩
  have hbig:n+m<big:=by simp only [big]; omega
  refine ⟨_,_,_,_,hrun,?_,hr.new hn hn0 hbn hor,?_,kM hn0,fun j hj=>?_⟩
  · rw [aK7 kI hbig]
    congr 2
    omega
  · have hsz:w.drew.heap=w.heap:=rfl
    refine Upd.one ⟨by simp [hsz],rfl,rfl,rfl,by show w.drawn<=w.drawn+1; omega⟩ (fun b hb _=>?_) (fun b ob hb=>?_) (fun b hb=>?_)
    · exact heap_alloc_old w.drew _ hb
    · unfold iT at hb
      split at hb
      · rename_i e; cases hb; subst e; exact heap_alloc_new w.drew _
      · rename_i e
        have l1:=hw b ob hb
        have l2:=hw.lt (b:=b) (by rw [hb]; simp)
        rw [heap_alloc_old w.drew _ l2]; exact l1
    · unfold iT at hb
      split at hb
      · rename_i e; exact .inr (by omega)
      · refine .inl fun e=>hb (hsub b e)
  · unfold jL at hj
    split at hj
    · rename_i e; exact .inr ⟨by omega,by omega⟩
    · exact .inl hj
theorem aFt {t tx e:TypeId} {s by_:Nat} {z:Value} {n m X i o1 b s0 ex:Nat} {cs:List Value} {q:Value} {news us:List Value} {h1 h':AH} (hr:HR P ρ h η) (hw:η.le w) (ht:P.underlying t=some (.slice e)) (hs:szP P e=some s) (hb:nC P e=some by_)
    (hz:kD P e=some z) (hzs:z.cells.size=s) (hsrc:Src P s tx q m us w) (hm:0<m) (l1:(n+m)*by_<=70368744177664) (l2:n+m<=70368744177664) (hnw:rnL ρ news=some us)
    (hi:h.get i=some (.cells cs e)) (hρ:ρ i=some (b,s0,ex)) (hcs:o1+n*s=cs.length) (hX:ex≠0\/n≠0->X=s0+o1) (hp:h.put i none=some h1) (hn:h1.new (.cells (cs.drop o1 ++ news) e)=some h') (hf:Fresh ρ h.next h'.next) :
    ∃ u ρ' η' w',(Builtin.append_ #[t,tx] ty #[.slice (some ⟨b,X,none⟩) n (n+ex),q]).run P w=.ok u w'/\rn ρ' (.slice (some ⟨h1.next,0,none⟩) (n+m) (big+(n+m)))=some u/\HR P ρ' h' η'/\Upd [η] [η'] w w'/\Ext ρ ρ' h.next h'.next:=by
  have hp0:=iZ hp
  have hnx:=(AH.get_new hn).2
  obtain ⟨b',s',e',ob,k1,k2,k3⟩:=hr.val i _ hi
  rw [hρ] at k1; cases k1
  obtain ⟨pre,us0,post,fz,k,rfl,q1,rfl,q3,q4,q5⟩:=k3
  have hbk:=hw b _ k2
  have hr1:=hr.drop hi hp hρ
  have hl0:=rnL_len q1
  have hlt:=hw.lt (b:=b) (by rw [k2]; simp)
  have hbig:n+m<big:=by simp only [big]; omega
  have hod:=(iI o1 q1).2
  have hus:=rnL_len hnw
  have hul:=hsrc.newsLen
  by_cases hroom:m<=ex
  · have hk:k=s:=by
      rcases q4 with q4|q4
      · omega
      · rw [hs] at q4; cases q4; rfl
    subst hk
    have hX:=hX (.inl (by omega))
    subst hX
    obtain ⟨inf,hin,rfl,hiz,rfl⟩:=nK hs hz hb
    have hpos:pre.length+o1+n*inf.size=(pre ++ us0).length:=by simp; omega
    have hms:m*inf.size<=ex*inf.size:=dG _ hroom
    have hrun:=run_append_room_src (P:=P) w t tx ty e inf ht hin b (pre.length+o1) n (n+ex) q m us hsrc (by omega) (fun j hj=>by
        rw [hpos]
        have:(pre ++ us0).length+j<(pre ++ us0 ++ post).length:=by simp; omega
        simp only [World.cell?,hbk]
        simp at this ⊢
        omega) (fun j hj=>by
        rw [hpos]
        have:=q5 ((pre ++ us0).length+j) (by simp; omega)
        simp only [World.frozen?,hbk];simp only [Bool.and_eq_false_iff,decide_eq_false_iff_not]
        rcases dP ((pre ++ us0).length+j) fz.1 with h|h
        · left; omega
        · right; exact fun hh=>this ⟨h,hh⟩)
    rw [hpos] at hrun
    have hh:=oT (b:=b) (t:=e) (fz:=fz) us (pre ++ us0).length w _ hbk (by simp; omega)
    have hrow:(pre ++ us0 ++ post).take (pre ++ us0).length ++ us ++ (pre ++ us0 ++ post).drop ((pre ++ us0).length+us.length)=(pre ++ us0.take o1) ++ (us0.drop o1 ++ us) ++ post.drop us.length:=by
      rw [List.take_left,List.drop_length_add_append];simp only [aR];rw [← aR (us0.take o1) (us0.drop o1),bH]
    rw [hrow] at hh
    have hn0:ρ h1.next=none:=hf _ (by omega) (by omega)
    have hor:OR P (jL ρ h1.next (b,pre.length+o1,ex-m)) (pre.length+o1) (ex-m) (.cells (cs.drop o1 ++ news) e) (.cells ((pre ++ us0.take o1) ++ (us0.drop o1 ++ us) ++ post.drop us.length).toArray e fz):=by
      refine ⟨pre ++ us0.take o1,us0.drop o1 ++ us,post.drop us.length,fz,inf.size,rfl,lR (kM hn0) (iJ.2 ⟨_,_,hod,hnw,rfl⟩),?_,?_,.inr hs,?_⟩
      · simp; omega
      · rw [cB,q3,hul,Nat.sub_mul]
      · have:((pre ++ us0.take o1) ++ (us0.drop o1 ++ us) ++ post.drop us.length).length=(pre ++ us0 ++ post).length:=by
          rw [← hrow]; simp; omega
        rw [this]; exact q5
    refine ⟨_,_,_,_,hrun,?_,hr1.new hn hn0 (by simp [iT]) hor,?_,⟨kM hn0,fun j hj=>?_⟩⟩
    · rw [aK7 kI hbig]
      congr 2
      omega
    · have hsz:=oU b us (pre ++ us0).length w
      refine Upd.one ⟨by rw [hsz]; exact aK _,World.os_setCells ..,World.output_setCells ..,(kV ..).1,fI (kV ..).2.symm⟩ (fun b' hb' hn=>?_) (fun b' ob' hb'=>?_) (fun b' hb'=>?_)
      · exact World.heap_setCells_other w b _ _ hb' (fun e=>by subst e; rw [k2] at hn; cases hn)
      · unfold iT at hb'
        split at hb'
        · rename_i e1; cases hb'; subst e1; exact hh
        · rename_i e1
          have l2:=hw.lt (b:=b') (by rw [hb']; simp)
          rw [World.heap_setCells_other w b _ _ l2 e1];exact hw b' ob' hb'
      · unfold iT at hb'
        split at hb'
        · rename_i e1; subst e1; left; rw [k2]; simp
        · rename_i e1
          exact .inl hb'
    · unfold jL at hj
      split at hj
      · rename_i e; exact .inr ⟨by omega,by omega⟩
      · exact .inl hj
  · have hle1:(iT η b none).le w:=fun b' ob' hb'=>by
      unfold iT at hb'
      split at hb'
      · cases hb'
      · exact hw b' ob' hb'
    have hold:(Builtin.firstCells s n (.slice (some ⟨b,X,none⟩) n (n+ex))).run P w.drew=.ok (us0.drop o1).toArray w.drew:=by
      have hlen:(us0.drop o1).length=n*s:=by rw [cB]; omega
      rcases dC n with rfl|hn
      · have h0:us0.drop o1=[]:=bW.1 (by rw [hlen]; omega)
        rw [h0]
        have:=iN (P:=P) (w:=w.drew) (b:=b) (o:=X) (us:=[]) (fun _ _ h=>by cases h)
        simpa [Builtin.firstCells] using this
      · have:=hX (.inr (by omega))
        subst this
        have:=iN (P:=P) (w:=w.drew) (b:=b) (o:=pre.length+o1) (us:=us0.drop o1) (fun j u hu=>by
          rw [dX] at hu
          have:=hr.cell (w:=w.drew) hw hi hρ q1 hu
          rw [dL]; exact this)
        rw [hlen] at this
        simpa [Builtin.firstCells] using this
    have:=aFs (ty:=ty) (η:=η) hr1 hle1 (fun b' hb'=>by unfold iT; split <;> first|rfl|exact hb') ht hs hb hz hzs hsrc hold (by omega) l1 l2 hod hnw hn (by rw [hp0]; exact hf)
    rw [hp0] at this ⊢;exact this
end
end
section
section
variable {P:Program} {ρ:Rn} {fr:Fr} {ev:Operand->Value} {w:World} {h:AH} {η:PH} {dst:Option Tmp} {ty:TypeId} {pos:String} {aft:Array Edge} {g:Option (Nat × Bool)}
theorem lX (hw:η.le w):Upd [η] [η] w w:=Upd.one ⟨aK _,rfl,rfl,rfl,aK _⟩ (fun _ _ _=>rfl) hw (fun _ h=>.inl h)
theorem aK8 {s m:Nat} {t:TypeId} {y q:Value} {news:List Value} (hr:HR P ρ h η) (hw:η.le w) (hk:(∃ e',P.underlying t=some (.slice e'))\/P.underlying t=some .string) (hb:wU h s y=some (m,news)) (h1:wV news=true) (hy:rn ρ y=some q):∃ us,rnL ρ news=some us/\Src P s t q m us w:=by
  obtain ⟨us,b1,b2,b3,b4⟩:=xC (P:=P) hr hb hy
  have ht:us.take (m*s)=us:=bV (by omega)
  have c1:=b4 m w (aK _) hw
  have c2:=b4 m w.drew (aK _) hw
  rw [ht] at c1 c2;exact ⟨us,b1,hk,b3,c1,c2,b2,aFp b1 (aD7 h1)⟩
theorem aUh {i o n c m:Nat} {p:Value} (hp:rn ρ (.slice (some ⟨i,o,none⟩) n c)=some p) (hk:n+m<=oR c):∃ b s0 ex X C,ρ i=some (b,s0,ex)/\p=.slice (some ⟨b,X,none⟩) n C/\n+m<=C/\rn ρ (.slice (some ⟨i,o,none⟩) (n+m) c)=some (.slice (some ⟨b,X,none⟩) (n+m) C)/\(X=s0+o\/n+m=0):=by
  rcases dC n with rfl|hn
  · cases hi:ρ i with
    | none=>rw [nY] at hp; unfold rnS at hp; rw [hi] at hp; cases hp
    | some x =>
      obtain ⟨b,s0,ex⟩:=x
      rcases dP c big with h1|h1
      · rw [lU hi h1] at hp; cases hp
        rw [aA7 h1] at hk;exact ⟨_,_,_,_,_,rfl,rfl,hk,lU hi h1,.inl rfl⟩
      · rcases dP c mX with h2|h2
        · rw [pV hi h1 h2] at hp; cases hp
          rw [aA8 h1 h2] at hk
          exact ⟨_,_,_,_,_,rfl,rfl,by omega,pV hi h1 h2,.inl rfl⟩
        · rw [aIj h2] at hk
          have hm:m=0:=by omega
          subst hm
          obtain ⟨b',X,C,e⟩:=mR (by rw [← nY]; exact hp)
          have hp2:=hp
          rw [aFm hi h2] at hp2
          split at hp2
          · cases hp2; exact ⟨_,_,_,_,_,rfl,rfl,by omega,hp,.inr rfl⟩
          · cases hp2; exact ⟨_,_,_,_,_,rfl,rfl,by omega,hp,.inr rfl⟩
  · obtain ⟨b,s0,ex,c',hi,rfl⟩:=sD (by rw [← nY]; exact hp) hn
    rcases dP c big with h1|h1
    · rw [lU hi h1] at hp; cases hp
      rw [aA7 h1] at hk;exact ⟨_,_,_,_,_,hi,rfl,hk,lU hi h1,.inl rfl⟩
    · rcases dP c mX with h2|h2
      · rw [pV hi h1 h2] at hp; cases hp
        rw [aA8 h1 h2] at hk
        exact ⟨_,_,_,_,_,hi,rfl,by omega,pV hi h1 h2,.inl rfl⟩
      · rw [aIj h2] at hk; omega
theorem aIp {e:TypeId} {a:Option Addr} {k n m:Nat} {news:List Value} {v:Value} {h':AH} (q:aOi h e a k n m news=some (v,h')) :
    ∃ i o cs h1,a=some ⟨i,o,none⟩/\h.get i=some (.cells cs e)/\o+k=cs.length/\h.put i none=some h1/\h1.new (.cells (cs.drop o ++ news) e)=some h'/\v=.slice (some ⟨h1.next,0,none⟩) (n+m) (big+(n+m)):=by
  unfold aOi at q
  split at q
  · rename_i i o
    split at q
    · rename_i cs t hi
      cases hb:(Nat.beq t e && Nat.beq (o+k) cs.length) with
      | false=>rw [hb] at q; cases q
      | true =>
        rw [hb,cond_true] at q
        obtain ⟨b1,b2⟩:=eF.1 hb
        have b1:=aO b1
        have b2:=aO b2
        subst b1
        split at q
        · rename_i h1 hp
          obtain ⟨l,e1,e2,rfl⟩:=vF q
          obtain ⟨a',e3,rfl⟩:=aD8 e1
          obtain ⟨rfl,_⟩:=pE _ _ _ e3
          exact ⟨i,o,cs,h1,rfl,hi,b2,hp,e2,rfl⟩
        · cases q
    · cases q
  · cases q
theorem aWr {t tx e:TypeId} {s by_:Nat} {z:Value} {m:Nat} {a v p q:Value} {news us:List Value} {h':AH} (hr:HR P ρ h η) (hw:η.le w) (ht:P.underlying t=some (.slice e)) (hs:szP P e=some s) (hb:nC P e=some by_)
    (hz:kD P e=some z) (hzs:z.cells.size=s) (hsrc:Src P s tx q m us w) (hnw:rnL ρ news=some us) (hp:rn ρ a=some p) (he:aH5 h e s by_ a m news=some (v,h')) :
    h.next<=h'.next/\(Fresh ρ h.next h'.next->∃ u ρ' η' w',(Builtin.append_ #[t,tx] ty #[p,q]).run P w=.ok u w'/\rn ρ' v=some u/\HR P ρ' h' η'/\Upd [η] [η'] w w'/\Ext ρ ρ' h.next h'.next):=by
  unfold aH5 at he
  split at he
  · rename_i a n c
    cases hl:(!(Nat.ble ((n+m)*by_) 70368744177664 && Nat.ble (n+m) 70368744177664)) with
    | true=>rw [hl] at he; cases he
    | false =>
      rw [hl,cond_false] at he;simp only [Bool.not_eq_false',aJ] at hl
      have l1:=aT hl.1
      have l2:=aT hl.2
      cases hk:Nat.ble (n+m) (oR c) with
      | true =>
        rw [hk,cond_true] at he
        have hk:=aT hk
        unfold appI at he
        split at he
        · rename_i i o
          split at he
          · rename_i h2 hst
            cases he
            obtain ⟨b,s0,ex,X,C,hρ,rfl,hC,hv,hX⟩:=aUh hp hk
            obtain ⟨r1,r2,r5,r6,_,η',r3,r4⟩:=nZ (P:=P) hr hw hst hρ hnw
            refine ⟨by omega,fun _=>?_⟩
            obtain ⟨inf,hin,rfl,hiz,rfl⟩:=nK hs hz hb
            have hul:=hsrc.newsLen
            rcases hX with rfl|h0
            · have hrun:=run_append_room_src (P:=P) w t tx ty e inf ht hin b (s0+o) n C q m us hsrc hC (fun j hj=>by
                have:=r5 j hj; rwa [show s0+(o+n*inf.size)+j=s0+o+n*inf.size+j by omega] at this) (fun j hj=>by
                have:=r6 j hj; rwa [show s0+(o+n*inf.size)+j=s0+o+n*inf.size+j by omega] at this)
              rw [← dL] at r4;exact ⟨_,ρ,η',_,hrun,hv,r3,r4,Ext.refl⟩
            · have hm0:m=0:=by omega
              have hn0:n=0:=by omega
              subst hm0 hn0
              have hu0:us=[]:=bW.1 (by omega)
              subst hu0
              have hrun:=run_append_room_src (P:=P) w t tx ty e inf ht hin b X 0 C q 0 [] hsrc hC (fun j hj=>by simp at hj) (fun j hj=>by simp at hj)
              exact ⟨_,ρ,η',_,hrun,hv,r3,r4,Ext.refl⟩
          · cases he
        · rename_i hne
          cases hm:m.beq 0 with
          | false=>rw [hm] at he; cases he
          | true =>
            rw [hm] at he
            cases he
            have:=aO hm
            subst this
            rcases a with _|⟨i,o,_|sp⟩
            · cases hp
              refine ⟨aK _,fun _=>⟨_,ρ,η,w,?_,rfl,hr,lX hw,Ext.refl⟩⟩
              have hc:n<=c:=cT hk (aFl c)
              have:=hsrc.len
              have h2:=hsrc.cells
              obtain ⟨inf,hin,rfl,hiz,rfl⟩:=nK hs hz hb
              rcases hsrc.kind with ⟨e',hk2⟩|hk2 <;> simp [Builtin.append_,run_underlying ht,run_underlying hk2,sizeOf,typeInfo,hin,this,hc,h2]
            · exact absurd rfl (hne i o)
            · simp [rn] at hp
      | false =>
        rw [hk,cond_false] at he
        have hk:oR c<n+m:=by
          rcases dP (oR c) (n+m) with h0|h0
          · exact h0
          · rw [Nat.ble_eq_true_of_le h0] at hk; cases hk
        cases h1:lt1 c with
        | true =>
          rw [h1,cond_true] at he
          have h1:=aMr.1 h1
          rw [aA7 h1] at hk;unfold appN at he
          split at he
          · rename_i i o
            obtain ⟨l,e1,e2,rfl⟩:=vF he
            obtain ⟨ol,e3,rfl⟩:=aD8 e1
            obtain ⟨olds,b1,b2,b3,b4⟩:=xC (P:=P) (s:=s) (m:=n) (news:=ol) hr (by simp only [wU,e3]) hp
            have hold:=b4 n w.drew (aK _) hw
            rw [bV (by omega)] at hold
            have hp2:∃ base,p=.slice base n c:=by
              rw [nY] at hp;unfold rnS at hp
              split at hp
              · rw [if_pos h1] at hp; cases hp; exact ⟨_,rfl⟩
              · cases hp
            obtain ⟨base,rfl⟩:=hp2
            exact ⟨iY e2,fun hf=>aFs (ty:=ty) hr hw (fun _ h=>h) ht hs hb hz hzs hsrc hold hk l1 l2 b1 hnw e2 hf⟩
          · cases hn:n.beq 0 with
            | false=>rw [hn] at he; cases he
            | true =>
              rw [hn,cond_true] at he
              have:=aO hn
              subst this
              obtain ⟨l,e1,e2,rfl⟩:=vF he
              cases e1
              cases hp
              exact ⟨iY e2,fun hf=>aFs (ty:=ty) (ol:=[]) (olds:=[]) hr hw (fun _ h=>h) ht hs hb hz hzs hsrc (by simp [Builtin.firstCells]) hk l1 l2 rfl hnw e2 hf⟩
          · cases he
        | false =>
          rw [h1,cond_false] at he
          have h1:=aIi.1 h1
          cases h2:lt2 c with
          | true =>
            rw [h2,cond_true] at he
            have h2:=aD2.1 h2
            rw [aA8 h1 h2] at hk
            cases hn:Nat.beq n (nD c) with
            | false=>rw [hn] at he; cases he
            | true =>
              rw [hn,cond_true] at he
              have hn:=aO hn
              obtain ⟨i,o,cs,h1',rfl,hi,hcs,hput,hnew,rfl⟩:=aIp he
              obtain ⟨b,s0,ex,ob,hρ,_,_⟩:=hr.val i _ hi
              rw [pV hρ h1 h2,← hn] at hp
              cases hp
              have hnx:=iZ hput
              have:=iY hnew
              exact ⟨by omega,fun hf=>aFt (ty:=ty) hr hw ht hs hb hz hzs hsrc (by omega) l1 l2 hnw hi hρ hcs (fun _=>rfl) hput hnew hf⟩
          | false =>
            rw [h2,cond_false] at he
            have h2:=aRs.1 h2
            rw [aIj h2] at hk
            split at he
            · rename_i i o sp
              obtain ⟨i',o',cs,h1',ea,hi,hcs,hput,hnew,rfl⟩:=aIp he
              cases ea
              obtain ⟨b,s0,ex,ob,hρ,_,_⟩:=hr.val i _ hi
              have hn:n=0:=by
                rw [nY] at hp;unfold rnS at hp;rw [hρ] at hp;simp only at hp;rw [if_neg (dJ.2 h1),if_neg (dJ.2 h2)] at hp
                split at hp
                · rename_i h; exact h
                · cases hp
              subst hn;rw [aFm hρ h2] at hp
              have hnx:=iZ hput
              have:=iY hnew
              refine ⟨by omega,fun hf=>?_⟩
              split at hp
              · rename_i hex
                subst hex
                cases hp
                exact aFt (ty:=ty) (n:=0) (ex:=0) hr hw ht hs hb hz hzs hsrc (by omega) l1 l2 hnw hi hρ (by omega) (fun h=>by rcases h with h|h <;> exact absurd rfl h) hput hnew hf
              · cases hp
                have:=aFt (ty:=ty) (n:=0) (ex:=ex) (X:=s0+(o+aOf c)) hr hw ht hs hb hz hzs hsrc (by omega) l1 l2 hnw hi hρ (by omega) (fun _=>rfl) hput hnew hf
                rw [bZ ex] at this;exact this
            · cases he
  · cases he
theorem w_app {c:Call} (hc:c.callee=.builtin .append) {wr:Wr} {v:Value} {h':AH} (hi:fX P ⟨dst,.call c,ty,pos,aft,g⟩=some (.wr wr)) (hv:rD fr h wr=some (v,h')) (hr:HR P ρ h η) (hw:η.le w) (hf:FR ρ fr) (hk:EK ρ fr ev (Op.call c).operands) :
    LOK P ρ η ev w h ⟨dst,.call c,ty,pos,aft,g⟩ v h':=by
  obtain ⟨cal,args,ts⟩:=c
  simp only at hc;subst hc;simp only [fX,mJ] at hi
  obtain ⟨x,y,t,u,el,s,b,zs,e1,e2,ht,hu,hs,hb,hz,hzl,e3⟩:=aK6 hi
  cases e3
  obtain ⟨xa,ya,e4,hx,hy⟩:=ods2 e1
  have e4:=arr2 e4
  have e2:=arr2 e2
  subst e4 e2
  have hv:aH8 h el s b (evO fr x) (evO fr y)=some (v,h'):=hv
  unfold aH8 at hv
  split at hv
  · rename_i a yv hxa hyv
    obtain ⟨p,p1,p2⟩:=gH hf hk (x:=xa) (by simp [Op.operands,Call.operands]) hx hxa
    obtain ⟨q,q1,q2⟩:=gH hf hk (x:=ya) (by simp [Op.operands,Call.operands]) hy hyv
    unfold appO at hv
    split at hv
    · rename_i m news hbh
      cases h1:wV news with
      | false=>rw [h1] at hv; cases hv
      | true =>
        rw [h1,cond_true] at hv
        obtain ⟨us,b1,hsrc⟩:=aK8 (P:=P) hr hw hu hbh h1 q1
        obtain ⟨z,z1,z2,z3⟩:=lV (ρ:=ρ) hz
        have hzs:z.cells.size=s:=by rw [← cI,z2,hzl]
        obtain ⟨r1,r2⟩:=aWr (ty:=ty) hr hw ht hs hb z1 hzs hsrc b1 p1 hv
        refine ⟨r1,fun hf=>?_⟩
        obtain ⟨u',ρ',η',w',k1,k2,k3,k4,k5⟩:=r2 hf
        exact ⟨u',ρ',η',w',.inl (by simp [execOp,resolve,p2,q2,invoke,builtin,k1]),k2,k3,k4,k5⟩
    · cases hv
  · cases hv
theorem aV1 {sT dT:TypeId} {x:Operand} {wr:Wr} {v:Value} {h':AH} (hi:fX P ⟨dst,.convert sT dT x,ty,pos,aft,g⟩=some (.wr wr)) (hv:rD fr h wr=some (v,h')) (hr:HR P ρ h η) (hw:η.le w) (hf:FR ρ fr) (hk:EK ρ fr ev #[x]) :
    LOK P ρ η ev w h ⟨dst,.convert sT dT x,ty,pos,aft,g⟩ v h':=by
  simp only [fX] at hi
  split at hi
  · rename_i d hd
    unfold tS at hi
    split at hi
    · cases hi
    · cases hi
    · rename_i e hsu hdu
      split at hi
      · rename_i hu hsz
        cases hi
        have hv:yO h e (evO fr d)=some (v,h'):=hv
        unfold yO at hv
        split at hv
        · rename_i s hs
          cases hbl:Nat.blt s.data.toList.length big with
          | false=>rw [hbl] at hv; cases hv
          | true =>
          rw [hbl,cond_true] at hv
          obtain ⟨i,e1,rfl⟩:=mM hv
          obtain ⟨rfl,e2⟩:=kN e1
          obtain ⟨p,p1,p2⟩:=gH hf hk (x:=x) (by simp) hd hs
          cases p1
          refine ⟨iY e2,fun hfr=>?_⟩
          have hnx:=(AH.get_new e2).2
          have hn0:ρ h.next=none:=hfr _ (aK _) (by omega)
          have hlen:s.data.toList.length=s.size:=rfl
          obtain ⟨cap,hcap⟩:∃ c,grownCap w s.size 0 e=c:=⟨_,rfl⟩
          have hge:=grownCap_ge w s.size 0 e
          rw [hcap] at hge
          let row:List Value:=[] ++ nE s.data.toList ++ List.replicate (cap-s.size) (.int .u8 0)
          have hrl:row.length=cap:=by simp [row,oA]; rw [← hlen] at *; simp at *; omega
          have hnofz:NoFz (cap,cap+1) row.length:=fun o ho=>by omega
          have hor:OR P (jL ρ h.next (w.heap.size,0,cap-s.size)) 0 (cap-s.size) (.cells (nE s.data.toList) e) (.cells row.toArray e (cap,cap+1)):=
            ⟨[],nE s.data.toList,List.replicate (cap-s.size) (.int .u8 0),(cap,cap+1),1,rfl,xB _,rfl,by simp,.inr hsz,hnofz⟩
          have hbig:s.size<big:=nI.1 hbl
          · refine ⟨.slice (some ⟨w.heap.size,0,none⟩) s.size cap,_,_,(w.drew.alloc (.cells row.toArray e)).freeze ⟨w.heap.size,cap,none⟩ 1,.inl ?_,?_,hr.new e2 hn0 (pX hw) hor,?_,kM hn0,fun j hj=>?_⟩
            · have hrow:(nE s.data.toList).toArray ++ Array.replicate (cap-s.size) (Value.int .u8 0)=row.toArray:=by simp [row]
              have helem:(s.data.map fun b=>Value.int .u8 (b.toNat:Int))=(nE s.data.toList).toArray:=by
                apply Array.ext'
                simp [oA]
              have hsh:(w.drew.alloc (.cells row.toArray e)).shape? w.heap.size=some (e,cap):=by
                have:(w.drew.alloc (.cells row.toArray e)).heap[w.heap.size]?=some (.cells row.toArray e (0,0)):=heap_alloc_new w.drew _
                unfold World.shape?;rw [this]
                simp [hrl]
              have hch:(choose (.appendCap s.size 0 e)).run P w=.ok cap w.drew:=by
                rw [← hcap]
                simp [choose,Sem.run,Question.forced,grownCap]
              have hnr:(newRow e row.toArray).run P w.drew=.ok ⟨w.heap.size,0,none⟩ (w.drew.alloc (.cells row.toArray e)):=by
                simp [newRow,newObj]; rfl
              have hms:(markStringish ⟨w.heap.size,0,none⟩).run P (w.drew.alloc (.cells row.toArray e))=.ok () ((w.drew.alloc (.cells row.toArray e)).freeze ⟨w.heap.size,cap,none⟩ 1):=by
                simp [markStringish,shape,freeze,Sem.run,hsh]
              simp only [execOp,convert,p2,Conv.stringToBytes,Sem.run_bind,Sem.run_pure,run_underlying hsu,run_underlying hdu,run_underlying hu,hch,Result.andThen_ok,helem,hrow,hnr,hms]
            · rw [hlen,aK7 kI hbig]
              congr 2
              omega
            · have h0:(w.drew.alloc (.cells row.toArray e)).heap[w.heap.size]?=some (.cells row.toArray e (0,0)):=heap_alloc_new w.drew _
              have hfz:((w.drew.alloc (.cells row.toArray e)).freeze ⟨w.heap.size,cap,none⟩ 1).heap[w.heap.size]?=some (.cells row.toArray e (cap,cap+1)):=by
                have hm:∀ (f:Obj->Obj),((w.drew.alloc (.cells row.toArray e)).heap.modify w.heap.size f)[w.heap.size]?=some (f (.cells row.toArray e (0,0))):=fun f=>by rw [dR,h0]; simp
                unfold World.freeze
                rw [if_neg (by simp)]
                simp only;rw [hm]
                simp
              have hoth:∀ b,b<w.heap.size->((w.drew.alloc (.cells row.toArray e)).freeze ⟨w.heap.size,cap,none⟩ 1).heap[b]?=w.heap[b]?:=fun b hb=>by
                have h1:(w.drew.alloc (.cells row.toArray e)).heap[b]?=w.heap[b]?:=heap_alloc_old w.drew _ hb
                have h2:w.heap.size≠b:=by omega
                simp [World.freeze,dR,h2,h1]
              refine Upd.one ⟨by simp [World.freeze],by simp [World.freeze]; rfl,by simp [World.freeze]; rfl,by simp [World.freeze],by simp [World.freeze]⟩ (fun b hb _=>hoth b hb) (fun b ob hb=>?_) (fun b hb=>?_)
              · unfold iT at hb
                split at hb
                · rename_i e1; cases hb; subst e1; exact hfz
                · have l2:=hw.lt (b:=b) (by rw [hb]; simp)
                  rw [hoth b l2]; exact hw b ob hb
              · unfold iT at hb
                split at hb
                · rename_i e; exact .inr (by omega)
                · exact .inl hb
            · unfold jL at hj
              split at hj
              · rename_i e; exact .inr ⟨by omega,by omega⟩
              · exact .inl hj
        · cases hv
      · cases hi
    · split at hi
      · cases hi
      · cases hi
    · cases hi
  · cases hi
end
end
section
section
variable {P:Program} {ρ:Rn} {fr:Fr} {ev:Operand->Value} {w:World} {h:AH} {η:PH}
theorem xD {α:Type} {x:Option α} {f:α->In} {i:In} (hi:x.map f=some i) (hn:∀ a,f a≠i):False:=by
  cases x with
  | none=>cases hi
  | some a=>cases hi; exact hn a rfl
theorem aD9 {o:Oper} {s d:TypeId} {x:Od} {i:In} (hi:tS P o s d x=some i):(∃ m,i=.mi m)\/∃ m,i=.wr m:=by
  unfold tS at hi
  repeat' split at hi
  all_goals first|(cases hi; done)|(cases hi; exact .inl ⟨_,rfl⟩)|(cases hi; exact .inr ⟨_,rfl⟩)
theorem aUi {o:Oper} {op:BinOp} {t:TypeId} {x y:Od} {i:In} (hi:aMl P o op t x y=some i):(∃ m,i=.mi m)\/∃ p a b,i=.bin p a b:=by
  unfold aMl at hi
  cases hb:binK op with
  | true =>
    rw [hb,cond_true] at hi
    split at hi
    all_goals first|(cases hi; exact .inl ⟨_,rfl⟩)|(cases hi; exact .inr ⟨_,_,_,rfl⟩)
  | false=>rw [hb,cond_false] at hi; cases hi; exact .inr ⟨_,_,_,rfl⟩
def rdI:In->Bool
  | .st .. | .call .. | .wr _=>false
  | _=>true
def actO:Op->Bool
  | .store .. | .alloc _ | .box .. | .buildSlice .. | .makeSlice .. | .makeMap .. | .mapUpdate .. | .insert .. | .convert .. | .call _=>true
  | _=>false
theorem xE {α:Type} {x:Option α} {f:α->In} {i:In} (hi:x.map f=some i) (hn:∀ a,rdI (f a)=true):rdI i=true:=by
  cases x with
  | none=>cases hi
  | some a=>cases hi; exact hn a
theorem aR2 {o:Oper} {i:In} (hi:fX P o=some i) (ha:actO o.op=false):rdI i=true:=by
  obtain ⟨dst,op,ty,pos,aft,g⟩:=o
  cases op with
  | store t a b=>cases ha
  | alloc x=>cases ha
  | box t x=>cases ha
  | buildSlice t n x=>cases ha
  | makeSlice t n x=>cases ha
  | makeMap t r=>cases ha
  | mapUpdate t r=>cases ha
  | insert t r=>cases ha
  | convert s d x=>cases ha
  | call c=>cases ha
  | move x=>exact xE hi fun _=>rfl
  | assign x=>exact xE hi fun _=>rfl
  | extract x i=>exact xE hi fun _=>rfl
  | nilCheck x=>exact xE hi fun _=>rfl
  | binOp op t a b yt =>
    simp only [fX] at hi
    split at hi
    · rcases aUi hi with ⟨m,rfl⟩|⟨p,a,b,rfl⟩ <;> rfl
    · cases hi
  | load t x =>
    simp only [fX] at hi
    repeat' split at hi
    all_goals cases hi; try rfl
  | fieldAddr t x f =>
    simp only [fX] at hi
    repeat' split at hi
    all_goals cases hi; try rfl
  | indexAddr t x f =>
    simp only [fX] at hi
    repeat' split at hi
    all_goals cases hi; try rfl
  | unOp op t x =>
    simp only [fX] at hi
    repeat' split at hi
    all_goals cases hi; try rfl
  | pick a b c =>
    simp only [fX] at hi
    repeat' split at hi
    all_goals cases hi; try rfl
  | makeFunc f xs cs =>
    cases f with
    | func f =>
      simp only [fX] at hi
      split at hi
      · cases hi; rfl
      · cases hi
    | _=>cases hi
  | field t x f =>
    simp only [fX] at hi
    repeat' split at hi
    all_goals cases hi; try rfl
  | index t x f =>
    simp only [fX] at hi
    repeat' split at hi
    all_goals cases hi; try rfl
  | slice t x lo hi' mx =>
    simp only [fX] at hi
    repeat' split at hi
    all_goals cases hi; try rfl
  | build t ps =>
    simp only [fX] at hi
    split at hi
    · cases hall:(Array.toList _).all (fun (f:Field)=>(szP P f.type).isSome) with
      | false=>rw [hall] at hi; cases hi
      | true=>rw [hall,cond_true] at hi; exact xE hi fun _=>rfl
    · split at hi
      · exact xE hi fun _=>rfl
      · cases hi
    · cases hi
  | lookup t x y ok =>
    simp only [fX] at hi
    split at hi
    · split at hi
      · rename_i z _ _
        cases hz:gR z with
        | false=>rw [hz] at hi; cases hi
        | true=>rw [hz] at hi; cases hi; rfl
      · cases hi
    · cases hi
  | _=>cases hi
theorem pG {o:Oper} {b:Builtin} {xs:Option (List Od)} {ts:List TypeId} {i:In} (e:lC P o b xs ts=some i):(∃ m,i=.mi m)\/((b=.append\/b=.copy\/b=.clear)/\∃ m,i=.wr m):=by
  have e0:=e
  unfold lC at e
  split at e
  · unfold aMm at e
    repeat' split at e
    all_goals first|(cases e; done)|(cases e; exact .inl ⟨_,rfl⟩)
  · cases e; exact .inl ⟨_,rfl⟩
  · cases e; exact .inl ⟨_,rfl⟩
  · obtain ⟨_,_,_,_,_,_,_,_,_,_,_,_,_,_,_,_,rfl⟩:=aK6 e0; exact .inr ⟨.inl rfl,_,rfl⟩
  · obtain ⟨_,_,_,_,_,_,_,_,_,_,rfl⟩:=aK4 e0; exact .inr ⟨.inr (.inl rfl),_,rfl⟩
  · obtain ⟨_,_,_,_,_,_,_,_,_,_,_,rfl⟩:=aK5 e0; exact .inr ⟨.inr (.inr rfl),_,rfl⟩
  · cases e
theorem vG {o:Oper} {c:Call} {i:In} (e:mJ P o c=some i):(∃ f xs,i=.call f xs)\/∃ b,c.callee=.builtin b/\lC P o b (lI c.args.toList) c.argTypes.toList=some i:=by
  unfold mJ at e
  split at e
  · unfold zQ at e
    split at e
    · cases e; exact .inl ⟨_,_,rfl⟩
    · cases e
  · rename_i b hc; exact .inr ⟨b,hc,e⟩
  · cases e
theorem aR3 {cf:iA} {yf:YF} {o:Oper} {i:In} {v:Value} {h':AH} (hi:fX P o=some i) (hrd:rdI i=true) (hv:uZ cf yf fr h i=some (v,h')) (hr:HR P ρ h η) (hw:η.le w) (hf:FR ρ fr) (hk:EK ρ fr ev o.op.operands):LOK P ρ η ev w h o v h':=by
  have hq:ret1 h (evQ fr h i)=some (v,h'):=by
    cases i with
    | st=>cases hrd
    | call=>cases hrd
    | wr=>cases hrd
    | _=>exact hv
  cases hq2:evQ fr h i with
  | none=>rw [hq2] at hq; cases hq
  | some v' =>
    rw [hq2] at hq
    cases hq
    obtain ⟨u,q1,q2⟩:=aFo (w:=w) hi hq2 hr hw hf hk
    exact ⟨aK _,fun _=>⟨u,ρ,η,w,.inl q2,q1,hr,lX hw,Ext.refl⟩⟩
theorem aUj {cf:iA} {yf:YF} {o:Oper} {i:In} {v:Value} {h':AH} (hi:fX P o=some i) (hc:∀ f xs,i≠.call f xs) (hv:uZ cf yf fr h i=some (v,h')) (hr:HR P ρ h η) (hw:η.le w) (hf:FR ρ fr) (hk:EK ρ fr ev o.op.operands):LOK P ρ η ev w h o v h':=by
  cases hrd:rdI i with
  | true=>exact aR3 hi hrd hv hr hw hf hk
  | false =>
    cases ha:actO o.op with
    | false=>rw [aR2 hi ha] at hrd; cases hrd
    | true =>
      obtain ⟨dst,op,ty,pos,aft,g⟩:=o
      cases i with
      | call f xs=>exact absurd rfl (hc f xs)
      | st x y n =>
        cases op with
        | store t a b=>exact w_st hi rfl hv hr hw hf hk
        | alloc x=>exact (xD hi (fun a h=>by cases h)).elim
        | box t x=>exact (xD hi (fun a h=>by cases h)).elim
        | convert s d x =>
          exfalso
          simp only [fX] at hi
          split at hi
          · rcases aD9 hi with ⟨m,e⟩|⟨m,e⟩ <;> cases e
          · cases hi
        | call c =>
          exfalso
          rcases vG hi with ⟨f,xs,e⟩|⟨b,hb,e⟩
          · cases e
          · rcases pG e with ⟨m,e⟩|⟨_,m,e⟩ <;> cases e
        | makeMap t r=>cases r <;> cases hi
        | buildSlice t n ps =>
          exfalso
          simp only [fX] at hi
          split at hi
          · split at hi
            · rename_i s zs _ _
              cases hz:zs.length.beq s with
              | false=>rw [hz] at hi; cases hi
              | true=>rw [hz] at hi; exact xD hi (fun a h=>by cases h)
            · cases hi
          · cases hi
        | makeSlice t l c =>
          exfalso
          simp only [fX] at hi
          split at hi
          · split at hi
            · rename_i s b zs _ _ _
              cases hz:zs.length.beq s <;> rw [hz] at hi <;> cases hi
            · cases hi
          · cases hi
        | mapUpdate t m k v =>
          exfalso
          simp only [fX] at hi
          repeat' split at hi
          all_goals cases hi
        | insert t m k v =>
          exfalso
          simp only [fX] at hi
          repeat' split at hi
          all_goals cases hi
        | _=>cases ha
      | wr wr =>
        have hv:rD fr h wr=some (v,h'):=hv
        cases op with
        | store t a b =>
          exfalso
          simp only [fX] at hi
          repeat' split at hi
          all_goals cases hi
        | alloc x=>exact aUg hi hv hr hw
        | box t x=>exact w_box hi hv hr hw hf hk
        | buildSlice t n ps=>exact w_bsl hi hv hr hw hf hk
        | makeSlice t l c=>exact w_mks hi hv hr hw hf hk
        | makeMap t r =>
          cases r with
          | none=>exact w_mkm hi hv hr hw
          | some r=>cases hi
        | mapUpdate t m k v=>exact aV0 (.inl rfl) hi hv hr hw hf hk
        | insert t m k v=>exact aV0 (.inr rfl) hi hv hr hw hf hk
        | convert s d x=>exact aV1 hi hv hr hw hf hk
        | call c =>
          rcases vG hi with ⟨f,xs,e⟩|⟨b,hb,e⟩
          · cases e
          · rcases pG e with ⟨m,e⟩|⟨rfl|rfl|rfl,_⟩
            · cases e
            · exact w_app hb hi hv hr hw hf hk
            · exact w_cpy hb hi hv hr hw hf hk
            · exact w_clr hb hi hv hr hw hf hk
        | _=>cases ha
      | _=>cases hrd
end
end
section
def mE (P:Program) (ρ:Rn) (η:PH) (w:World) (h h':AH) (ρ':Rn) (η':PH) (w':World):Prop:=HR P ρ' h' η'/\Upd [η] [η'] w w'/\Ext ρ ρ' h.next h'.next
theorem Upd.comp {η η1 η2:PH} {w w1 w2:World} (u:Upd [η] [η1] w w1) (v:Upd [η1] [η2] w1 w2):Upd [η] [η2] w w2:=by
  refine Upd.one ⟨cT u.size.1 v.size.1,v.size.2.1.trans u.size.2.1,v.size.2.2.1.trans u.size.2.2.1,v.size.2.2.2.1.trans u.size.2.2.2.1,cT u.size.2.2.2.2 v.size.2.2.2.2⟩ (fun b hb hn=>?_) (v.own η2 (by simp)) (fun b hb=>?_)
  · rw [← u.keep b hb (by simpa using hn)]
    refine v.keep b (Nat.lt_of_lt_of_le hb u.size.1) (fun σ hσ=>?_)
    simp at hσ; subst hσ
    cases e:σ b with
    | none=>rfl
    | some o =>
      rcases u.new σ (by simp) b (by rw [e]; simp) with ⟨τ,hτ,h⟩|h
      · simp at hτ; subst hτ; exact absurd hn h
      · omega
  · rcases v.new η2 (by simp) b hb with ⟨τ,hτ,h⟩|h
    · simp at hτ; subst hτ
      rcases u.new τ (by simp) b h with ⟨τ2,hτ2,h2⟩|h2
      · simp at hτ2; subst hτ2; exact .inl h2
      · exact .inr h2
    · have:=u.size.1; exact .inr (by omega)
section
variable {P:Program} {ρ ρ1 ρ2:Rn} {η η1 η2:PH} {w w1 w2:World} {h h1 h2:AH}
theorem mE.comp (a:mE P ρ η w h h1 ρ1 η1 w1) (b:mE P ρ1 η1 w1 h1 h2 ρ2 η2 w2) (l1:h.next<=h1.next) (l2:h1.next<=h2.next):mE P ρ η w h h2 ρ2 η2 w2:=
  ⟨b.1,Upd.comp a.2.1 b.2.1,a.2.2.trans b.2.2 l1 l2⟩
theorem mE.le (a:mE P ρ η w h h1 ρ1 η1 w1):η1.le w1:=a.2.1.own η1 (by simp)
end
def FOK (P:Program) (cf:iA):Prop:=∀ f vs h v h',cf f vs h=some (v,h')->h.next<=h'.next/\∀ ρ η w us,HR P ρ h η->η.le w->Fresh ρ h.next h'.next->rnL ρ vs=some us ->
  (callFunc f us.toArray).run P w=.ok (.enter f us.toArray) w/\CallsIn Fence.wide 0 P f us.toArray w (fun e w'=>∃ u,e=.returned u/\∃ ρ' η',rn ρ' v=some u/\mE P ρ η w h h' ρ' η' w')
def YOK (P:Program) (yf:YF):Prop:=∀ l vs h v h',yf l vs h=some (v,h')->h.next<=h'.next/\∀ ρ η w us b s x,HR P ρ h η->η.le w->Fresh ρ h.next h'.next->rnL ρ vs=some us->ρ l=some (b,s,x) ->
  ∃ f tmps asg body w1,(Instr.yield b us.toArray).run P w=.ok (.round b f tmps asg body) w1/\RoundIn Fence.wide 0 P b f tmps asg body w1 (fun e w'=>∃ u,e=.returned u/\∃ ρ' η',rn ρ' v=some u/\mE P ρ η w h h' ρ' η' w')
section
variable {P:Program} {ρ:Rn} {fr:Fr} {w:World} {h:AH} {η:PH}
theorem FK.toFR {g:Nat->Value} (k:FK ρ fr g):FR ρ fr:=trivial
theorem FK.toEK {a:Act} (k:FK ρ fr (fun t=>a.tmps.getD t undef)) (xs:Array Operand):EK ρ fr a.eval xs:=fun x _ v hv hc=>by
  cases x with
  | tmp t=>exact k t v hv
  | const c =>
    simp only [evX,aD] at hv;subst hv
    rcases hc with ⟨t,e⟩|hc
    · cases e
    · exact ⟨_,iM hc,rfl⟩
  | global g=>cases hv
  | func f=>cases hv; exact ⟨_,rfl,rfl⟩
theorem FK.put {M:Nat} {fr':Fr} {a:Act} (k:FK ρ fr (fun t=>a.tmps.getD t undef)) (hs:a.tmps.size=M) {d:Option Nat} {v u:Value} (hp:nW M fr d v=some fr') (hu:rn ρ v=some u):FK ρ fr' (fun t=>(a.put d u).tmps.getD t undef)/\(a.put d u).tmps.size=M/\(a.put d u).defers=a.defers:=by
  cases d with
  | none=>cases hp; exact ⟨k,hs,rfl⟩
  | some d =>
    have hp:(Bool.rec none (Option.rec none (fun v'=>Tr.put 10 fr d (some v')) (fV v)) (Nat.blt d M):Option Fr)=some fr':=hp
    cases hb:Nat.blt d M with
    | false=>rw [hb] at hp; cases hp
    | true =>
      rw [hb,aQn] at hp
      have hd:=nI.1 hb
      have hp:Tr.put 10 fr d (some v)=some fr':=hp
      refine ⟨fun t v' hv'=>?_,by simp [Act.put,hs],rfl⟩
      rw [Tr.get_put 10 (some v) fr fr' d t hp] at hv'
      split at hv'
      · rename_i e
        cases hv'
        subst e
        exact ⟨u,hu,by simp [Act.put,aP,hs,hd]⟩
      · rename_i e
        obtain ⟨u',q1,q2⟩:=k t v' hv'
        refine ⟨u',q1,?_⟩;simp only [Act.put,aP,cG]
        rw [if_neg (fun h=>e h.symm)]
        rw [← q2]; simp [aP]
theorem aMx {all:Array Oper} {o:Oper} {q:Op1} {b:Bool} {a:Act} (h1:op1 P all o=some q) (hw:pS fr q.g=some b) (hk:FK ρ fr (fun t=>a.tmps.getD t undef)):Region.wanted o (yielded all a.tmps)=b:=by
  unfold op1 at h1;unfold Region.wanted
  split at h1
  · rename_i hg _
    cases h1
    cases hw
    rw [hg]
  · rename_i j w0 i hg hi
    split at h1
    · rename_i d hd
      cases h1
      rw [hg];simp only [pS] at hw;unfold yielded
      dsimp only
      rw [hd];simp only [Option.bind_some]
      split at hw
      · rename_i c hc
        cases hw
        obtain ⟨u,q1,q2⟩:=hk d _ hc
        cases q1
        have hget:(a.tmps[d]?).getD undef=.bool c:=by rw [← q2]; simp [aP]
        cases hx:a.tmps[d]? with
        | none=>rw [hx] at hget; cases hget
        | some x=>rw [hx] at hget; simp at hget; subst hget; simp
      · rename_i c hc
        cases hw
        obtain ⟨u,q1,q2⟩:=hk d _ hc
        obtain ⟨l⟩:=c
        obtain ⟨us,q3,rfl⟩:=vB q1
        have hget:(a.tmps[d]?).getD undef=.tuple us.toArray:=by rw [← q2]; simp [aP]
        cases hx:a.tmps[d]? with
        | none=>simp
        | some x=>rw [hx] at hget; simp at hget; subst hget; simp
      · cases hw
    · cases h1
  · cases h1
theorem aV2 {all:Array Oper} {o:Oper} {q:Op1} (h1:op1 P all o=some q):fX P o=some q.i/\q.d=o.dst:=by
  unfold op1 at h1
  split at h1
  · rename_i hi; cases h1; exact ⟨hi,rfl⟩
  · rename_i hi
    split at h1
    · cases h1; exact ⟨hi,rfl⟩
    · cases h1
  · cases h1
end
end
section
section
variable {P:Program} {ρ:Rn} {fr:Fr} {w:World} {h:AH} {η:PH} {r:Option Nat}
theorem aUk {o:Oper} {f:Od} {xs:List Od} (hi:fX P o=some (.call f xs)):∃ dst ty pos aft g fo xo ts,o=⟨dst,.call ⟨.value fo,xo,ts⟩,ty,pos,aft,g⟩/\gW fo=some f/\lI xo.toList=some xs:=by
  cases ha:actO o.op with
  | false=>have:=aR2 hi ha; cases this
  | true =>
    obtain ⟨dst,op,ty,pos,aft,g⟩:=o
    cases op with
    | store t a b =>
      exfalso
      simp only [fX] at hi
      repeat' split at hi
      all_goals cases hi
    | alloc x=>exact (xD hi (fun a h=>by cases h)).elim
    | box t x=>exact (xD hi (fun a h=>by cases h)).elim
    | convert s d x =>
      exfalso
      simp only [fX] at hi
      split at hi
      · rcases aD9 hi with ⟨m,e⟩|⟨m,e⟩ <;> cases e
      · cases hi
    | call c =>
      obtain ⟨cal,args,ts⟩:=c
      have hi:mJ P ⟨dst,.call ⟨cal,args,ts⟩,ty,pos,aft,g⟩ ⟨cal,args,ts⟩=some (.call f xs):=hi
      rcases vG hi with ⟨f',xs',e⟩|⟨b,hb,e⟩
      · cases cal with
        | value fo =>
          simp only [mJ,zQ] at hi
          split at hi
          · rename_i q1 q2
            cases hi
            exact ⟨dst,ty,pos,aft,g,fo,args,ts,rfl,q2,q1⟩
          · cases hi
        | builtin b =>
          simp only [mJ] at hi
          rcases pG hi with ⟨m,e⟩|⟨_,m,e⟩ <;> cases e
        | invoke r n=>cases hi
      · rcases pG e with ⟨m,e⟩|⟨_,m,e⟩ <;> cases e
    | makeMap t r=>cases r <;> cases hi
    | buildSlice t n ps =>
      exfalso
      simp only [fX] at hi
      split at hi
      · split at hi
        · rename_i s zs _ _
          cases hz:zs.length.beq s with
          | false=>rw [hz] at hi; cases hi
          | true=>rw [hz] at hi; exact xD hi (fun a h=>by cases h)
        · cases hi
      · cases hi
    | makeSlice t l c =>
      exfalso
      simp only [fX] at hi
      split at hi
      · split at hi
        · rename_i s b zs _ _ _
          cases hz:zs.length.beq s <;> rw [hz] at hi <;> cases hi
        · cases hi
      · cases hi
    | mapUpdate t m k v =>
      exfalso
      simp only [fX] at hi
      repeat' split at hi
      all_goals cases hi
    | insert t m k v =>
      exfalso
      simp only [fX] at hi
      repeat' split at hi
      all_goals cases hi
    | _=>cases ha
theorem sH {o:Oper} {i:In} (hi:fX P o=some i):∀ c,o.op≠.defer c:=fun c e=>by
  obtain ⟨dst,op,ty,pos,aft,g⟩:=o
  subst e
  cases hi
theorem aR4 {g:FuncId} {us cs:List Value} {u:Value} (e:rn ρ (.func (.func g) ⟨us⟩ ⟨cs⟩)=some u):∃ us' cs',rnL ρ us=some us'/\rnL ρ cs=some cs'/\u=.func (.func g) us'.toArray cs'.toArray:=by
  simp only [rn,rnF,rnR] at e
  cases h1:rnL ρ us with
  | none=>simp [h1] at e
  | some us'=>cases h2:rnL ρ cs with
    | none=>simp [h1,h2] at e
    | some cs'=>simp only [h1,h2,aD] at e; exact ⟨us',cs',rfl,rfl,e.symm⟩
theorem aWs {l:Nat} {cs:Array Value} {u:Value} (e:rn ρ (.func (.yield l) ⟨[]⟩ cs)=some u):∃ b s x cs',ρ l=some (b,s,x)/\u=.func (.yield b) #[] cs':=by
  simp only [rn,rnF,rnR,rnL] at e
  cases h1:ρ l with
  | none=>simp [h1] at e
  | some x =>
    obtain ⟨b,s,x⟩:=x
    rw [h1] at e
    cases h2:rnR ρ cs with
    | none=>simp [h2] at e
    | some cs'=>simp only [h2,aD] at e; exact ⟨b,s,x,cs',rfl,e.symm⟩
/-! the next number never sinks -/
theorem rF {i o:Nat} {vs:List Value} {h':AH} (e:rC h i o vs=some h'):h'.next=h.next:=by
  unfold rC at e
  split at e
  · split at e
    · exact iZ e
    · cases e
  · cases e
theorem pH {e:TypeId} {l:List Value} {i:Nat} {h':AH} (hn:aAz h e l=some (i,h')):h.next<=h'.next:=iY (kN hn).2
theorem aIq {i o:Nat} {v v':Value} {l:Option (List Value)} {h':AH} (e:stO h i o v l=some (v',h')):h'.next=h.next:=by
  unfold stO at e
  split at e
  · split at e
    · rename_i h2 hs; cases e; exact rF hs
    · cases e
  · cases e
theorem aBb {n:Nat} {t:TypeId} {l:Option (List Value)} {v:Value} {h':AH} (e:mkS n t h l=some (v,h')):h.next<=h'.next:=by
  obtain ⟨l',_,h2,_⟩:=vF e; exact iY h2
theorem aK9 {e:TypeId} {s by_ m:Nat} {p v:Value} {news:List Value} {h':AH} (q:aH5 h e s by_ p m news=some (v,h')):h.next<=h'.next:=by
  unfold aH5 at q
  split at q
  · rename_i a n c
    cases h0:!(Nat.ble ((n+m)*by_) 70368744177664 && Nat.ble (n+m) 70368744177664) with
    | true=>rw [h0,cond_true] at q; cases q
    | false =>
      rw [h0,cond_false] at q
      cases h1:Nat.ble (n+m) (oR c) with
      | true =>
        rw [h1,cond_true] at q;unfold appI at q
        split at q
        · split at q
          · rename_i hs; cases q; exact fI (rF hs).symm
          · cases q
        · cases hm:m.beq 0 with
          | true=>rw [hm,cond_true] at q; cases q; exact aK _
          | false=>rw [hm,cond_false] at q; cases q
      | false =>
        rw [h1,cond_false] at q
        have hU:∀ {a k n m},aOi h e a k n m news=some (v,h')->h.next<=h'.next:=fun {a k n m} q=>by
          unfold aOi at q
          split at q
          · split at q
            · rename_i cs t hg
              cases hb:(Nat.beq t e && Nat.beq (_+k) cs.length) with
              | false=>rw [hb,cond_false] at q; cases q
              | true =>
                rw [hb,cond_true] at q
                split at q
                · rename_i h1' hp
                  have:=aBb q
                  rw [iZ hp] at this;exact this
                · cases q
            · cases q
          · cases q
        cases h2:lt1 c with
        | true =>
          rw [h2,cond_true] at q;unfold appN at q
          split at q
          · exact aBb q
          · cases hn:n.beq 0 with
            | true=>rw [hn,cond_true] at q; exact aBb q
            | false=>rw [hn,cond_false] at q; cases q
          · cases q
        | false =>
          rw [h2,cond_false] at q
          cases h3:lt2 c with
          | true =>
            rw [h3,cond_true] at q
            cases hn:Nat.beq n (nD c) with
            | true=>rw [hn,cond_true] at q; exact hU q
            | false=>rw [hn,cond_false] at q; cases q
          | false =>
            rw [h3,cond_false] at q
            split at q
            · exact hU q
            · cases q
  · cases q
theorem aOo {wr:Wr} {v:Value} {h':AH} (e:rD fr h wr=some (v,h')):h.next<=h'.next:=by
  cases wr with
  | alc t zs=>obtain ⟨i,q,_⟩:=nS (show aKy (aAz h t zs)=_ from e); exact pH q
  | box t x =>
    have e:aA0 h t (evO fr x)=some (v,h'):=e
    unfold aA0 at e
    split at e
    · obtain ⟨i,q,_⟩:=nS e; exact pH q
    · cases e
  | bsl t n s zs ps =>
    have e:aA1 h t n s (aDy (rep zs n) (aAw fr ps))=some (v,h'):=e
    unfold aA1 at e
    split at e
    · cases hb:(Nat.ble (n*s) 16777216 && Nat.blt n big) with
      | true=>rw [hb,cond_true] at e; obtain ⟨i,q,_⟩:=mM e; exact pH q
      | false=>rw [hb,cond_false] at e; cases e
    · cases e
  | mks t s b zs l c =>
    have e:aH6 h t b zs (aH0 (evO fr l)) (aH0 (evO fr c))=some (v,h'):=e
    unfold aH6 at e
    split at e
    · rename_i l' c' _ _
      cases hb:(Nat.ble l' c' && Nat.ble (b*c') 281474976710656 && Nat.ble c' 70368744177664) with
      | true=>rw [hb,cond_true] at e; obtain ⟨i,q,_⟩:=mM e; exact pH q
      | false=>rw [hb,cond_false] at e; cases e
    · cases e
  | mkm =>
    have e:aH7 h (h.new (.map [] 0))=some (v,h'):=e
    unfold aH7 at e
    split at e
    · rename_i hq; cases e; exact iY hq
    · cases e
  | app t s b x y =>
    have e:aH8 h t s b (evO fr x) (evO fr y)=some (v,h'):=e
    unfold aH8 at e
    split at e
    · unfold appO at e
      split at e
      · rename_i m news _
        cases hb:wV news with
        | true=>rw [hb,cond_true] at e; exact aK9 e
        | false=>rw [hb,cond_false] at e; cases e
      · cases e
    · cases e
  | cpy s x y =>
    have e:aH9 h s (evO fr x) (evO fr y)=some (v,h'):=e
    unfold aH9 at e
    split at e
    · unfold cpyO at e
      split at e
      · split at e
        · exact fI (aIq e).symm
        · cases e; exact aK _
        · cases e
      · cases e
    · cases e
  | clr s zs x =>
    have e:aIa h zs (evO fr x)=some (v,h'):=e
    unfold aIa at e
    split at e
    · rename_i n _ _
      cases hb:n.beq 0 with
      | true=>rw [hb,cond_true] at e; cases e; exact aK _
      | false =>
        rw [hb,cond_false] at e
        split at e
        · exact fI (aIq e).symm
        · cases e
    · cases e
  | s2b t x =>
    have e:yO h t (evO fr x)=some (v,h'):=e
    unfold yO at e
    split at e
    · rename_i s _
      cases hb:Nat.blt s.data.toList.length big with
      | true=>rw [hb,cond_true] at e; obtain ⟨i,q,_⟩:=mM e; exact pH q
      | false=>rw [hb,cond_false] at e; cases e
    · cases e
  | mup m k x n =>
    have e:yP h n (evO fr m) (evO fr k) (evO fr x)=some (v,h'):=e
    unfold yP at e
    split at e
    · split at e
      · unfold mupO at e
        split at e
        · split at e
          · rename_i hq; cases e; exact fI (iZ hq).symm
          · cases e
        · cases e
      · cases e
    · cases e
theorem aIr {cf:iA} {yf:YF} (hcf:FOK P cf) (hyf:YOK P yf) {f:Option Value} {vs:Option (List Value)} {v:Value} {h':AH} (e:aA2 cf yf h f vs=some (v,h')):h.next<=h'.next:=by
  unfold aA2 at e
  split at e
  · exact (hcf _ _ _ _ _ e).1
  · exact (hyf _ _ _ _ _ e).1
  · cases e
theorem xF {cf:iA} {yf:YF} (hcf:FOK P cf) (hyf:YOK P yf) {i:In} {v:Value} {h':AH} (e:uZ cf yf fr h i=some (v,h')):h.next<=h'.next:=by
  have hq:∀ x,ret1 h x=some (v,h')->h.next<=h'.next:=fun x q=>by
    cases x with
    | none=>cases q
    | some y=>cases q; exact aK _
  cases i with
  | st x y n =>
    have e:aRg h n (evO fr x) (evO fr y)=some (v,h'):=e
    unfold aRg at e
    split at e
    · rename_i u _ _
      cases hb:Nat.beq (cl u).length n with
      | true =>
        rw [hb,cond_true] at e
        split at e
        · rename_i hs; cases e; exact fI (rF hs).symm
        · cases e
      | false=>rw [hb,cond_false] at e; cases e
    · cases e
  | call f xs=>exact aIr hcf hyf e
  | wr wr=>exact aOo e
  | _=>exact hq _ e
theorem aV3 {cf:iA} {yf:YF} (hcf:FOK P cf) (hyf:YOK P yf) {o:Oper} {i:In} {v:Value} {h':AH} {a:Act} {ev:Operand->Value} (hi:fX P o=some i) (hv:uZ cf yf fr h i=some (v,h')) (hev:ev=a.eval) (hf:FR ρ fr) (hk:EK ρ fr ev o.op.operands) (hr:HR P ρ h η) (hw:η.le w) (hfr:Fresh ρ h.next h'.next) {next:Act->World->Prop} {Q:Exit->Act->World->Prop}
    (hn:∀ u ρ' η' w',rn ρ' v=some u->mE P ρ η w h h' ρ' η' w'->next (a.put o.dst u) w'):o.wpIn (gS r) 0 P a w next Q:=by
  subst hev
  refine ⟨fun _ _=>trivial,?_⟩
  rw [Oper.semAt_eq _ _ _ (sH hi)]
  by_cases hc:∃ f xs,i=.call f xs
  · obtain ⟨f,xs,rfl⟩:=hc
    obtain ⟨dst,ty,pos,aft,g,fo,xo,ts,rfl,k1,k2⟩:=aUk hi
    have hv:aA2 cf yf h (evO fr f) (aAu fr xs)=some (v,h'):=hv
    unfold aA2 at hv
    have hmem:∀ x∈xo.toList,x∈(Op.call ⟨.value fo,xo,ts⟩).operands:=fun y hy=>by simp [Op.operands,Call.operands]; right; simpa using hy
    have hmf:fo∈(Op.call ⟨.value fo,xo,ts⟩).operands:=by simp [Op.operands,Call.operands]
    split at hv
    · rename_i gf us cs vs hf1 hv1
      obtain ⟨p,p1,p2⟩:=gH hf hk hmf k1 hf1
      obtain ⟨us',cs',q1,q2,rfl⟩:=aR4 p1
      obtain ⟨vs',q3,q4⟩:=aA3 hf hk hmem k2 hv1
      have hargs:xo.map a.eval=vs'.toArray:=by
        rw [← q4,← dF]
      have hall:=iJ.2 ⟨_,_,iJ.2 ⟨_,_,q1,q3,rfl⟩,q2,rfl⟩
      obtain ⟨c1,c2⟩:=(hcf _ _ _ _ _ hv).2 ρ η w _ hr hw hfr hall
      have hex:(execOp a.eval ⟨dst,.call ⟨.value fo,xo,ts⟩,ty,pos,aft,g⟩)=callFunc gf (us' ++ vs' ++ cs').toArray:=by
        simp [execOp,resolve,hargs,p2,Deferred.ofValue,invoke]
      rw [hex,c1]
      refine ⟨fun h=>by simp [Fence.wide] at h,?_⟩
      refine CallsIn.mono (show CallsIn (gS r) 0 P gf _ w _ from c2) ?_
      rintro e w' ⟨u,rfl,ρ',η',k1,k2⟩;exact hn u ρ' η' w' k1 k2
    · rename_i gl cs vs hf1 hv1
      obtain ⟨p,p1,p2⟩:=gH hf hk hmf k1 hf1
      obtain ⟨b,s,x,cs',q1,rfl⟩:=aWs p1
      obtain ⟨vs',q3,q4⟩:=aA3 hf hk hmem k2 hv1
      have hargs:xo.map a.eval=vs'.toArray:=by
        rw [← q4,← dF]
      obtain ⟨f',tmps,asg,body,w1,c1,c2⟩:=(hyf _ _ _ _ _ hv).2 ρ η w _ b s x hr hw hfr q3 q1
      have hex:(execOp a.eval ⟨dst,.call ⟨.value fo,xo,ts⟩,ty,pos,aft,g⟩)=Instr.yield b vs'.toArray:=by
        simp [execOp,resolve,hargs,p2,Deferred.ofValue,invoke]
      rw [hex,c1]
      refine ⟨fun h=>by simp [Fence.wide] at h,?_⟩
      refine RoundIn.mono (show RoundIn (gS r) 0 P b f' tmps asg body w1 _ from c2) ?_
      rintro e w' ⟨u,rfl,ρ',η',k1,k2⟩;exact hn u ρ' η' w' k1 k2
    · cases hv
  · have hc':∀ f xs,i≠.call f xs:=fun f xs e=>hc ⟨f,xs,e⟩
    obtain ⟨_,hl⟩:=aUj hi hc' hv hr hw hf hk
    obtain ⟨u,ρ',η',w',hrun,k1,k2,k3,k4⟩:=hl hfr
    have hgo:=hn u ρ' η' w' k1 ⟨k2,k3,k4⟩
    rcases hrun with hrun|⟨hrun,rfl⟩
    · rw [hrun]; exact hgo
    · rw [hrun]; exact hgo
theorem aLa {M:Nat} {ev:Fr->AH->In->Option (Value × AH)} {q:Op1} {l:List Op1} {fr:Fr} {h:AH} {x:Fr × AH} (e:yQ M ev (q::l) fr h=some x):∃ b,pS fr q.g=some b/\((b=false/\∃ fr1,nW M fr q.d undef=some fr1/\yQ M ev l fr1 h=some x)\/(b=true/\∃ v h1 fr1,ev fr h q.i=some (v,h1)/\nW M fr q.d v=some fr1/\yQ M ev l fr1 h1=some x)):=by
  have e:(Option.rec none (fun b=>Bool.rec (Option.rec none (fun fr'=>yQ M ev l fr' h) (nW M fr q.d undef)) (Option.rec none (fun r=>Option.rec none (fun fr'=>yQ M ev l fr' r.2) (nW M fr q.d r.1)) (ev fr h q.i)) b) (pS fr q.g):Option (Fr × AH))=some x:=e
  cases hw:pS fr q.g with
  | none=>rw [hw] at e; cases e
  | some b =>
    rw [hw] at e
    cases b with
    | false =>
      simp only at e
      cases hp:nW M fr q.d undef with
      | none=>rw [hp] at e; cases e
      | some fr1=>rw [hp] at e; exact ⟨false,rfl,.inl ⟨rfl,fr1,rfl,e⟩⟩
    | true =>
      simp only at e
      cases hv:ev fr h q.i with
      | none=>rw [hv] at e; cases e
      | some y =>
        obtain ⟨v,h1⟩:=y
        rw [hv] at e;simp only at e
        cases hp:nW M fr q.d v with
        | none=>rw [hp] at e; cases e
        | some fr1=>rw [hp] at e; exact ⟨true,rfl,.inr ⟨rfl,v,h1,fr1,rfl,hp,e⟩⟩
theorem aBc {cf:iA} {yf:YF} (hcf:FOK P cf) (hyf:YOK P yf) {M:Nat} {all:Array Oper}:∀ (l:List Oper) (qs:List Op1),aKv P all l=some qs->∀ (fr:Fr) (h:AH) (fr':Fr) (h':AH),yQ M (uZ cf yf) qs fr h=some (fr',h')->h.next<=h'.next /\
    ∀ (ρ:Rn) (η:PH) (a:Act) (w:World) (Q:Exit->Act->World->Prop),a.tmps.size=M->FK ρ fr (fun t=>a.tmps.getD t undef)->HR P ρ h η->η.le w->Fresh ρ h.next h'.next ->
      (∀ ρ' η' a' w',a'.tmps.size=M->a'.defers=a.defers->FK ρ' fr' (fun t=>a'.tmps.getD t undef)->mE P ρ η w h h' ρ' η' w'->Q .normal a' w')->wpListIn (gS r) 0 P all Q l a w
  | [],qs,hq,fr,h,fr',h',e=>by
    cases hq
    cases e
    exact ⟨aK _,fun ρ η a w Q hs hk hr hw _ hn=>hn ρ η a w hs rfl hk ⟨hr,lX hw,Ext.refl⟩⟩
  | o::l,qs,hq,fr,h,fr',h',e=>by
    simp only [aKv] at hq
    cases h1:op1 P all o with
    | none=>simp [h1] at hq
    | some q=>cases h2:aKv P all l with
      | none=>simp [h1,h2] at hq
      | some qs' =>
        simp only [h1,h2,aD] at hq;subst hq
        obtain ⟨k1,k2⟩:=aV2 h1
        obtain ⟨b,hwn,hx⟩:=aLa e
        rcases hx with ⟨rfl,fr1,hp,e1⟩|⟨rfl,v,h1',fr1,hv,hp,e1⟩
        · obtain ⟨n1,ih⟩:=aBc hcf hyf l qs' h2 fr1 h fr' h' e1
          refine ⟨n1,fun ρ η a w Q hs hk hr hw hfr hn=>?_⟩
          have hwa:=aMx (a:=a) h1 hwn hk
          obtain ⟨g1,g2,g3⟩:=FK.put (u:=undef) hk hs hp rfl
          simp only [wpListIn,hwa,eK,if_false];rw [k2] at g1 g2 g3
          exact ⟨fun _ _=>trivial,ih ρ η _ w Q g2 g1 hr hw hfr (fun ρ' η' a' w' s1 s2 s3 s4=>hn ρ' η' a' w' s1 (s2.trans g3) s3 s4)⟩
        · have n0:=xF hcf hyf hv
          obtain ⟨n1,ih⟩:=aBc hcf hyf l qs' h2 fr1 h1' fr' h' e1
          refine ⟨cT n0 n1,fun ρ η a w Q hs hk hr hw hfr hn=>?_⟩
          have hwa:=aMx (a:=a) h1 hwn hk
          simp only [wpListIn,hwa,if_true]
          refine aV3 hcf hyf k1 hv rfl hk.toFR (hk.toEK _) hr hw (fun i x y=>hfr i x (by omega)) (fun u ρ' η' w' s1 s2=>?_)
          have hk':=hk.mono s2.2.2.1
          obtain ⟨g1,g2,g3⟩:=FK.put hk' hs hp s1
          rw [k2] at g1 g2 g3
          exact ih ρ' η' _ w' Q g2 g1 s2.1 s2.le (hfr.after s2.2.2 n0) (fun ρ2 η2 a2 w2 t1 t2 t3 t4=>hn ρ2 η2 a2 w2 t1 (t2.trans g3) t3 (s2.comp t4 n0 n1))
theorem aR5 {cf:iA} {yf:YF} (hcf:FOK P cf) (hyf:YOK P yf) {M id:Nat} {ops:Array Oper} {qs:List Op1} (hq:aKv P ops ops.toList=some qs) {fr:Fr} {h:AH} {fr':Fr} {h':AH} (e:yQ M (uZ cf yf) qs fr h=some (fr',h')):h.next<=h'.next /\
    ∀ (ρ:Rn) (η:PH) (a:Act) (w:World) (Q:Exit->Act->World->Prop),a.tmps.size=M->FK ρ fr (fun t=>a.tmps.getD t undef)->HR P ρ h η->η.le w->Fresh ρ h.next h'.next ->
      (∀ ρ' η' a' w',a'.tmps.size=M->a'.defers=a.defers->FK ρ' fr' (fun t=>a'.tmps.getD t undef)->mE P ρ η w h h' ρ' η' w'->Q .normal a' w')->(Code.region id ops false).wpIn (gS r) 0 P Q a w:=
  let ⟨n1,ih⟩:=aBc (r:=r) hcf hyf _ _ hq fr h fr' h' e
  ⟨n1,fun ρ η a w Q hs hk hr hw hfr hn=>wpIn_region_list (ih ρ η a w Q hs hk hr hw hfr hn)⟩
end
end
def exK:Ex->Exit
  | .normal=>.normal
  | .ret=>.ret
  | .exit id=>.exit id
inductive MK (ρ:Rn):List Nat->List Deferred->Prop
  | nil:MK ρ [] []
  | cons {i b s x:Nat} {d:Deferred} {ms:List Nat} {ds:List Deferred}:ρ i=some (b,s,x)->d.target=.collected b->MK ρ ms ds->MK ρ (i::ms) (d::ds)
theorem MK.mono {ρ ρ':Rn} (h:ρ.le ρ') {ms:List Nat} {ds:List Deferred} (m:MK ρ ms ds):MK ρ' ms ds:=by
  induction m with
  | nil=>exact .nil
  | cons h1 h2 _ ih=>exact .cons (h _ _ h1) h2 ih
def RK (ρ:Rn):Option Nat->Option Nat->Prop
  | none,none=>True
  | some i,some b=>∃ s x,ρ i=some (b,s,x)
  | _,_=>False
theorem RK.mono {ρ ρ':Rn} (h:ρ.le ρ'):∀ {x y:Option Nat},RK ρ x y->RK ρ' x y
  | none,none,_=>trivial
  | some _,some _,⟨s,x,e⟩=>⟨s,x,h _ _ e⟩
  | none,some _,e=>e.elim
  | some _,none,e=>e.elim
structure SI (P:Program) (M:Nat) (ρ:Rn) (s:St) (η:PH) (a:Act) (w:World):Prop where
  size:a.tmps.size=M
  fk:FK ρ s.fr (fun t=>a.tmps.getD t undef)
  mks:MK ρ s.ms a.defers
  hr:HR P ρ s.h η
  le:η.le w
abbrev tW (P:Program) (M:Nat) (ρ:Rn) (η:PH) (w:World) (n:Nat) (e:Ex) (s':St) (Q:Exit->Act->World->Prop):Prop:=
  ∀ ρ' η' a' w',SI P M ρ' s' η' a' w'->Upd [η] [η'] w w'->Ext ρ ρ' n s'.h.next->Q (exK e) a' w'
abbrev aV4:=Cc->Code->St->Option (Ex × St)
def COK (P:Program) (c:aV4):Prop:=∀ cc cd s e s',c cc cd s=some (e,s')->s.h.next<=s'.h.next /\
  ∀ ρ η a w r Q,RK ρ cc.rd r->SI P cc.M ρ s η a w->Fresh ρ s.h.next s'.h.next->tW P cc.M ρ η w s.h.next e s' Q->cd.wpIn (gS r) 0 P Q a w
def LpK (P:Program) (l:aV4):Prop:=∀ cc b s e s',l cc b s=some (e,s')->s.h.next<=s'.h.next/\∃ n,
  ∀ ρ η a w r Q,RK ρ cc.rd r->SI P cc.M ρ s η a w->Fresh ρ s.h.next s'.h.next->tW P cc.M ρ η w s.h.next e s' Q->Code.roundsIn (gS r) 0 P b Q n a w
structure MOK (P:Program) (m:Mac):Prop where
  c:COK P m.c
  f:FOK P m.f
  y:YOK P m.y
  l:LpK P m.l
section
variable {P:Program} {ρ:Rn} {η:PH} {w:World} {a:Act} {r:Option Nat} {Q:Exit->Act->World->Prop}
theorem tW.after {M:Nat} {n k:Nat} {e:Ex} {s':St} {ρ1:Rn} {η1:PH} {w1:World} (h:tW P M ρ η w n e s' Q) (u:Upd [η] [η1] w w1) (x:Ext ρ ρ1 n k) (h1:n<=k) (h2:k<=s'.h.next):tW P M ρ1 η1 w1 k e s' Q:=
  fun ρ' η' a' w' si u' x'=>h ρ' η' a' w' si (Upd.comp u u') (x.trans x' h1 h2)
theorem aMy {e:Ex} (he:e≠.normal) {K:Act->World->Prop} {a':Act} {w':World} (h:Q (exK e) a' w'):Exit.then K Q (exK e) a' w':=by
  cases e with
  | normal=>exact absurd rfl he
  | ret=>exact h
  | exit id=>exact h
theorem aWt {m:Mac} (hm:MOK P m) {cc:Cc} {x y:Code} {s s':St} {e:Ex} (h:(match m.c cc x s with|some (.normal,s1)=>m.c cc y s1|r=>r)=some (e,s')):s.h.next<=s'.h.next /\
    ∀ ρ η a w r Q,RK ρ cc.rd r->SI P cc.M ρ s η a w->Fresh ρ s.h.next s'.h.next->tW P cc.M ρ η w s.h.next e s' Q->(Code.seq x y).wpIn (gS r) 0 P Q a w:=by
  split at h
  · rename_i s1 h1
    obtain ⟨n1,g1⟩:=hm.c _ _ _ _ _ h1
    obtain ⟨n2,g2⟩:=hm.c _ _ _ _ _ h
    refine ⟨cT n1 n2,fun ρ η a w r Q hr si hf hq=>wpIn_seq (g1 ρ η a w r _ hr si (fun i p q=>hf i p (by omega)) (fun ρ' η' a' w' si' u x=>?_))⟩
    exact g2 ρ' η' a' w' r Q (hr.mono x.1) si' (hf.after x n1) (tW.after hq u x n1 n2)
  · rename_i hn
    obtain ⟨n1,g1⟩:=hm.c _ _ _ _ _ h
    refine ⟨n1,fun ρ η a w r Q hr si hf hq=>wpIn_seq (g1 ρ η a w r _ hr si hf (fun ρ' η' a' w' si' u x=>?_))⟩
    exact aMy (fun he=>hn s' (by rw [h,he])) (hq ρ' η' a' w' si' u x)
theorem aUl {m:Mac} (hm:MOK P m) {cc:Cc} {b:Code} {s s':St} {e:Ex} (h:stL m cc b s=some (e,s')):s.h.next<=s'.h.next/\∃ n,
    ∀ ρ η a w r Q,RK ρ cc.rd r->SI P cc.M ρ s η a w->Fresh ρ s.h.next s'.h.next->tW P cc.M ρ η w s.h.next e s' Q->Code.roundsIn (gS r) 0 P b Q n a w:=by
  unfold stL at h
  split at h
  · rename_i s1 h1
    obtain ⟨n1,g1⟩:=hm.c _ _ _ _ _ h1
    obtain ⟨n2,n,g2⟩:=hm.l _ _ _ _ _ h
    refine ⟨cT n1 n2,n+1,fun ρ η a w r Q hr si hf hq=>?_⟩
    rw [roundsIn_succ]
    refine g1 ρ η a w r _ hr si (fun i p q=>hf i p (by omega)) (fun ρ' η' a' w' si' u x=>?_)
    exact g2 ρ' η' a' w' r Q (hr.mono x.1) si' (hf.after x n1) (tW.after hq u x n1 n2)
  · rename_i hn
    obtain ⟨n1,g1⟩:=hm.c _ _ _ _ _ h
    refine ⟨n1,1,fun ρ η a w r Q hr si hf hq=>?_⟩
    rw [roundsIn_succ]
    refine g1 ρ η a w r _ hr si hf (fun ρ' η' a' w' si' u x=>?_)
    exact aMy (fun he=>hn s' (by rw [h,he])) (hq ρ' η' a' w' si' u x)
theorem aR6 {m:Mac} (hm:MOK P m) {cc:Cc} {id:Nat} {b:Code} {s s':St} {e:Ex} (h:(match m.c cc b s with|some (.exit i,s')=>bif Nat.beq i id then some (Ex.normal,s') else some (.exit i,s')|r=>r)=some (e,s')):s.h.next<=s'.h.next /\
    ∀ ρ η a w r Q,RK ρ cc.rd r->SI P cc.M ρ s η a w->Fresh ρ s.h.next s'.h.next->tW P cc.M ρ η w s.h.next e s' Q->(Code.block id b).wpIn (gS r) 0 P Q a w:=by
  split at h
  · rename_i i s1 h1
    obtain ⟨n1,g1⟩:=hm.c _ _ _ _ _ h1
    cases hi:Nat.beq i id with
    | true =>
      rw [hi,cond_true] at h
      cases h
      have:=aO hi
      refine ⟨n1,fun ρ η a w r Q hr si hf hq=>wpIn_block (g1 ρ η a w r _ hr si hf (fun ρ' η' a' w' si' u x=>?_))⟩
      simp only [exK,Exit.inBlock,this,if_true];exact hq ρ' η' a' w' si' u x
    | false =>
      rw [hi,cond_false] at h
      cases h
      have hne:i≠id:=fun e=>by subst e; rw [show Nat.beq i i=true from eN i] at hi; cases hi
      refine ⟨n1,fun ρ η a w r Q hr si hf hq=>wpIn_block (g1 ρ η a w r _ hr si hf (fun ρ' η' a' w' si' u x=>?_))⟩
      simp only [exK,Exit.inBlock,if_neg hne];exact hq ρ' η' a' w' si' u x
  · rename_i hn
    obtain ⟨n1,g1⟩:=hm.c _ _ _ _ _ h
    refine ⟨n1,fun ρ η a w r Q hr si hf hq=>wpIn_block (g1 ρ η a w r _ hr si hf (fun ρ' η' a' w' si' u x=>?_))⟩
    have:=hq ρ' η' a' w' si' u x
    cases e with
    | normal=>exact this
    | ret=>exact this
    | exit i=>exact absurd h (hn i s')
theorem aUm {m:Mac} (hm:MOK P m) {cc:Cc} {x:Operand} {p q:Code} {s s':St} {e:Ex} (h:stC P m cc (.cond x p q) s=some (e,s')):s.h.next<=s'.h.next /\
    ∀ ρ η a w r Q,RK ρ cc.rd r->SI P cc.M ρ s η a w->Fresh ρ s.h.next s'.h.next->tW P cc.M ρ η w s.h.next e s' Q->(Code.cond x p q).wpIn (gS r) 0 P Q a w:=by
  simp only [stC] at h
  have hev:∀ {ρ:Rn} {η:PH} {a:Act} {w:World} {d:Od} {b:Bool},SI P cc.M ρ s η a w->gW x=some d->evO s.fr d=some (.bool b)->a.eval x=.bool b:=fun si h1 h2=>by
    obtain ⟨u,k1,k2⟩:=gH trivial (si.fk.toEK #[x]) (by simp) h1 h2
    cases k1; exact k2
  split at h
  · rename_i d hd
    split at h
    · rename_i hv
      obtain ⟨n1,g1⟩:=hm.c _ _ _ _ _ h
      exact ⟨n1,fun ρ η a w r Q hr si hf hq=>wpIn_cond_true (hev si hd hv) (g1 ρ η a w r Q hr si hf hq)⟩
    · rename_i hv
      obtain ⟨n1,g1⟩:=hm.c _ _ _ _ _ h
      exact ⟨n1,fun ρ η a w r Q hr si hf hq=>wpIn_cond_false (hev si hd hv) (g1 ρ η a w r Q hr si hf hq)⟩
    · cases h
  · cases h
theorem aBd {ms:List Nat} {x:Option (Fr × AH)} {e:Ex} {s':St} (h:aMo ms x=some (e,s')):∃ fr h',x=some (fr,h')/\e=.normal/\s'=⟨fr,h',ms⟩:=by
  unfold aMo at h
  split at h
  · cases h; exact ⟨_,_,rfl,rfl,rfl⟩
  · cases h
theorem aR7 {m:Mac} (hm:MOK P m) {cc:Cc} {id:Nat} {ops:Array Oper} {s s':St} {e:Ex} (h:aRm cc.M m (aKv P ops ops.toList) s=some (e,s')):s.h.next<=s'.h.next /\
    ∀ ρ η a w r Q,RK ρ cc.rd r->SI P cc.M ρ s η a w->Fresh ρ s.h.next s'.h.next->tW P cc.M ρ η w s.h.next e s' Q->(Code.region id ops false).wpIn (gS r) 0 P Q a w:=by
  unfold aRm at h
  split at h
  · rename_i l hl
    obtain ⟨fr,h',h1,rfl,rfl⟩:=aBd h
    obtain ⟨n1,_⟩:=aR5 (r:=none) (id:=id) hm.f hm.y hl h1
    refine ⟨n1,fun ρ η a w r Q hr si hf hq=>?_⟩
    obtain ⟨_,g⟩:=aR5 (r:=r) (id:=id) hm.f hm.y hl h1
    exact g ρ η a w Q si.size si.fk si.hr si.le hf (fun ρ' η' a' w' k1 k2 k3 k4=>hq ρ' η' a' w' ⟨k1,k3,by rw [k2]; exact si.mks.mono k4.2.2.1,k4.1,k4.le⟩ k4.2.1 k4.2.2)
  · cases h
/-! blocks are given up,turned -/
theorem aIs (hw:η.le w) {b:Nat} {o0:Obj} (hb:η b=some o0) (o:Obj):Upd [η] [iT η b none] w { w with heap:=w.heap.setIfInBounds b o }:=by
  refine Upd.one ⟨by simp,rfl,rfl,rfl,aK _⟩ (fun b' hb' hn=>?_) (fun b' ob' hb'=>?_) (fun b' hb'=>?_)
  · have:b≠b':=fun e=>by subst e; rw [hb] at hn; cases hn
    simp [cG,this]
  · unfold iT at hb'
    split at hb'
    · cases hb'
    · rename_i e1
      have:=hw b' ob' hb'
      simp [cG,Ne.symm e1,this]
  · unfold iT at hb'
    split at hb'
    · exact absurd rfl hb'
    · exact .inl hb'
theorem aBe {fn:Func} {tmps:Array Value} {S:Value->World->Prop}:∀ {ms:List Nat} {ds:List Deferred} {h h':AH} {η:PH} {w:World},pT ms h=some h'->MK ρ ms ds->HR P ρ h η->η.le w ->
    h'.next=h.next/\((∀ η' w',HR P ρ h' η'->Upd [η] [η'] w w'->∃ v,(results fn tmps).run P w'=.ok v w'/\S v w')->jZ P fn tmps S ds w)
  | [],ds,h,h',η,w,hd,hm,hr,hw=>by
    cases hd
    cases hm
    exact ⟨rfl,fun k=>k η w hr (lX hw)⟩
  | i::ms,ds,h,h',η,w,hd,hm,hr,hw=>by
    cases hm with
    | @cons _ b s x d _ ds h1 h2 h3 =>
      unfold pT at hd
      split at hd
      · rename_i hg
        split at hd
        · rename_i hh hp
          obtain ⟨b',s',x',o,q1,q2,q3⟩:=hr.val i _ hg
          rw [h1] at q1;simp only [aD,Prod.mk.injEq] at q1
          obtain ⟨rfl,rfl,rfl⟩:=q1
          have q3:o=.deferred (some []):=q3
          subst q3
          have hb:=hw b _ q2
          have u1:=aIs hw q2 (.deferred none)
          obtain ⟨n1,g1⟩:=aBe (fn:=fn) (tmps:=tmps) (S:=S) hd h3 (hr.drop hg hp h1) (u1.own _ (by simp))
          refine ⟨n1.trans (iZ hp),fun k=>⟨b,_,h2,?_,g1 (fun η' w' r1 u=>k η' w' r1 (Upd.comp u1 u))⟩⟩
          simp [Instr.takeDeferred,getObj,setObj,Sem.run,hb]
        · cases hd
      · cases hd
theorem yU:∀ {ms:List Nat} {h h':AH},pT ms h=some h'->h'.next=h.next
  | [],h,h',hd=>by cases hd; rfl
  | i::ms,h,h',hd=>by
    unfold pT at hd
    split at hd
    · split at hd
      · rename_i hp; exact (yU hd).trans (iZ hp)
      · cases hd
    · cases hd
/-! results -/
theorem vH {fr:Fr} {h:AH} {tmps:Array Value} {F:ResultVar->Sem Value} (f1:∀ t,F (.tmp t)=pure (tmps.getD t undef)) (f2:∀ a t,F (.cell a t)=(do loadVar t (← asAddr (tmps.getD a undef)))) (hr:HR P ρ h η) (hw:η.le w) (hk:FK ρ fr (fun t=>tmps.getD t undef)):∀ {rs:List ResultVar} {l:List Value},tG fr h P rs=some l ->
    ∃ us,rnL ρ l=some us/\(rs.mapM F).run P w=.ok us w
  | [],l,e=>by cases e; exact ⟨[],rfl,rfl⟩
  | .tmp t::rs,l,e=>by
    unfold tG at e
    split at e
    · rename_i v l' h1 h2
      cases e
      obtain ⟨u,k1,k2⟩:=hk t v h1
      obtain ⟨us,k3,k4⟩:=vH f1 f2 hr hw hk h2
      simp only at k2
      exact ⟨u::us,rnL_cons.2 ⟨u,us,k1,k3,rfl⟩,by rw [fG,f1,k2]; simp [k4]⟩
    · cases e
  | .cell a t::rs,l,e=>by
    unfold tG at e
    split at e
    · rename_i n l' ha hs h2
      split at e
      · rename_i v hv
        cases e
        obtain ⟨i,o,e1,_⟩:=pF hv
        rw [e1] at hv
        obtain ⟨u,q1,q2⟩:=hk a _ e1
        obtain ⟨b,o',us0,rfl,e4,rfl,e5⟩:=aVz hr hw hv q1
        obtain ⟨us,k3,k4⟩:=vH f1 f2 hr hw hk h2
        simp only at q2;refine ⟨_::us,rnL_cons.2 ⟨_,us,e4,k3,rfl⟩,?_⟩;rw [fG,f2,q2]; simp [asAddr,loadVar,Eng.run_isAgg ha,Eng.run_sizeOf hs,iN e5,k4]
      · cases e
    · rename_i l' ha hs h2
      split at e
      · rename_i v hv
        cases e
        obtain ⟨i,o,e1,_⟩:=pF hv
        rw [e1] at hv
        obtain ⟨u,q1,q2⟩:=hk a _ e1
        obtain ⟨b,o',u',rfl,e4,e5⟩:=aVy hr hw hv q1
        obtain ⟨us,k3,k4⟩:=vH f1 f2 hr hw hk h2
        simp only at q2;refine ⟨u'::us,rnL_cons.2 ⟨_,us,e4,k3,rfl⟩,?_⟩;rw [fG,f2,q2]; simp [asAddr,loadVar,Eng.run_isAgg ha,e5,k4]
      · cases e
    · cases e
theorem aBf {fn:Func} {fr:Fr} {h:AH} {tmps:Array Value} (hr:HR P ρ h η) (hw:η.le w) (hk:FK ρ fr (fun t=>tmps.getD t undef)) {l:List Value} (e:tG fr h P fn.results.toList=some l) :
    ∃ u,rn ρ (one l)=some u/\(results fn tmps).run P w=.ok u w:=by
  obtain ⟨us,k1,k2⟩:=vH (F:=fun | .tmp t=>pure (tmps.getD t undef) | .cell a t=>do loadVar t (← asAddr (tmps.getD a undef))) (fun _=>rfl) (fun _ _=>rfl) hr hw hk e
  have hl:=rnL_len k1
  refine ⟨if h:us.toArray.size=1 then us.toArray[0] else .tuple us.toArray,?_,?_⟩
  · match l,us,k1 with
    | [],us,k1=>cases k1; rfl
    | [v],us,k1 =>
      obtain ⟨u,r,q1,q2,rfl⟩:=rnL_cons.1 k1
      cases q2
      exact q1
    | v::v'::l,us,k1 =>
      have hl:us.length=(v::v'::l).length:=rnL_len k1
      have:¬ us.toArray.size=1:=by simp at hl ⊢; omega
      rw [dif_neg this];simp only [one,rn,rnR,k1]
  · have key:∀ G:Sem (List Value),G.run P w=.ok us w->(do let vs ← (List.toArray <$> G); pure (if h:vs.size=1 then vs[0] else .tuple vs):Sem Value).run P w=.ok (if h:us.toArray.size=1 then us.toArray[0] else .tuple us.toArray) w:=fun G hG=>by simp [hG]
    unfold results;rw [Array.mapM_eq_mapM_toList];exact key _ k2
/-! arguments -/
theorem aMz {M:Nat}:∀ {l:List Value} {k:Nat} {fr fr':Fr},aKz M k l fr=some fr'->k+l.length<=M\/l=[]/\True->∀ t v,fr'.get t=some v->(k<=t/\l[t-k]?=some v)\/(fr.get t=some v/\¬ (k<=t/\t<k+l.length))
  | [],k,fr,fr',e,_,t,v,hv=>by cases e; exact .inr ⟨hv,by simp⟩
  | x::l,k,fr,fr',e,hM,t,v,hv=>by
    unfold aKz at e
    split at e
    · rename_i fr1 hp
      have hM':k+(l.length+1)<=M:=by
        rcases hM with h|h
        · simpa using h
        · cases h.1
      rcases aMz e (.inl (by omega)) t v hv with ⟨h1,h2⟩|⟨h1,h2⟩
      · refine .inl ⟨by omega,?_⟩
        rw [show t-k=(t-(k+1))+1 by omega,dY]; exact h2
      · have hp:(Bool.rec none (Option.rec none (fun v'=>Tr.put 10 fr k (some v')) (fV x)) (Nat.blt k M):Option Fr)=some fr1:=hp
        rw [nI.2 (by omega),aQn] at hp
        have hp:Tr.put 10 fr k (some x)=some fr1:=hp
        rw [Tr.get_put 10 (some x) fr fr1 k t hp] at h1
        by_cases et:t=k
        · rw [if_pos et] at h1
          subst et
          exact .inl ⟨aK _,by simpa using h1⟩
        · rw [if_neg et] at h1
          exact .inr ⟨h1,by simp; omega⟩
    · cases e
theorem aIt {M:Nat}:∀ {l:List Value} {k:Nat} {fr fr':Fr},aKz M k l fr=some fr'->k+l.length<=M\/l=[]/\True
  | [],k,fr,fr',e=>.inr ⟨rfl,trivial⟩
  | x::l,k,fr,fr',e=>by
    unfold aKz at e
    split at e
    · rename_i fr1 hp
      have hk:k<M:=by
        cases hb:Nat.blt k M with
        | true=>exact nI.1 hb
        | false =>
          have hp:(Bool.rec none (Option.rec none (fun v'=>Tr.put 10 fr k (some v')) (fV x)) (Nat.blt k M):Option Fr)=some fr1:=hp
          rw [hb] at hp; cases hp
      rcases aIt e with h|⟨rfl,_⟩
      · left; simp; omega
      · left; simp; omega
    · cases e
theorem aWu {M:Nat} {vs us:List Value} {fr:Fr} (e:aKz M 0 vs .e=some fr) (hu:rnL ρ vs=some us):(us.toArray ++ Array.replicate (M-us.toArray.size) undef).size=M/\FK ρ fr (fun t=>(us.toArray ++ Array.replicate (M-us.toArray.size) undef).getD t undef):=by
  have hl:=rnL_len hu
  have hM:=aIt e
  refine ⟨?_,fun t v hv=>?_⟩
  · rcases hM with h|⟨rfl,_⟩
    · simp; omega
    · cases hu; simp
  · rcases aMz e hM t v hv with ⟨_,h2⟩|⟨h1,_⟩
    · obtain ⟨u,k1,k2⟩:=zP hu h2
      refine ⟨u,k2,?_⟩;rw [Nat.sub_zero] at k1
      have hlt:=(aC.1 k1).1
      simp only [aP]
      rw [cR (by simpa using hlt)]
      simp [k1]
    · cases h1
theorem aM0 {M:Nat}:∀ {ps:List Nat} {vs us:List Value} {fr fr':Fr} {tmps:Array Value},putL M ps vs fr=some fr'->rnL ρ vs=some us->tmps.size=M->FK ρ fr (fun t=>tmps.getD t undef) ->
    ps.length=us.length/\((ps.zip us).foldl (fun tmps (x:Nat × Value)=>tmps.setIfInBounds x.1 x.2) tmps).size=M/\FK ρ fr' (fun t=>((ps.zip us).foldl (fun tmps (x:Nat × Value)=>tmps.setIfInBounds x.1 x.2) tmps).getD t undef)
  | [],[],us,fr,fr',tmps,e,hu,hs,hk=>by cases e; cases hu; exact ⟨rfl,hs,hk⟩
  | [],_::_,us,fr,fr',tmps,e,hu,hs,hk=>by cases e
  | _::_,[],us,fr,fr',tmps,e,hu,hs,hk=>by cases e
  | p::ps,v::vs,us,fr,fr',tmps,e,hu,hs,hk=>by
    unfold putL at e
    split at e
    · rename_i fr1 hp
      obtain ⟨u,r,q1,q2,rfl⟩:=rnL_cons.1 hu
      obtain ⟨g1,g2,_⟩:=FK.put (a:=⟨tmps,[]⟩) (d:=some p) hk hs hp q1
      obtain ⟨k1,k2,k3⟩:=aM0 (tmps:=tmps.setIfInBounds p u) e q2 g2 g1
      exact ⟨by simp [k1],k2,k3⟩
    · cases e
end
end Go.Ev
