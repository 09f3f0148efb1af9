/- Texts of this proof, one after the other; no conditions. -/
import Derived.Test.YtnijkofdlepfjaaGreatWA
import Derived.RecoverIn
import Derived.Test.YtnijkofdlepfjaaGreatWB10
import Derived.Test.YtnijkofdlepfjaaGreatWB3
import Derived.Test.YtnijkofdlepfjaaGreatWB5
import Derived.Test.YtnijkofdlepfjaaGreatWB1
import Derived.Test.YtnijkofdlepfjaaGreatWB9
import Derived.Test.YtnijkofdlepfjaaGreatWB0
set_option linter.all false
namespace Go.Proofs.YtnijkofdlepfjaaGreat
open Go.Eng Go.Step
set_option maxRecDepth 100000
set_option maxHeartbeats 64000000
section
section
variable {ρ τ χ:PH} {Γ:List PH} {pq pc pt:Option Addr} {kq kc kt:Nat} {qs:List Int} {cs:List Ct}
theorem aHl {γ lam:PH} {x:TkU} (hx:UOK qs cs γ x) (hr:jE x.t=true) {pl:Option Addr} {cl:Nat} {l:List Hp} (hv:SlE gE 4 lam (.slice pl l.length cl) l) (hl:l.length<=1000) :
  Ans Tryz.prog (fv 160) [.agg #[int x.t.k,int x.t.q.src,int x.t.q.dst,int x.t.q.size,int x.t.q.rdy,int x.t.q.dln,int x.t.q.pri,.bool x.t.q.cus,.slice x.p x.t.hops.length x.c,int x.st,int x.un],.slice pl l.length cl,int 0] [γ,lam] (fun r=>r=.bool (ovB x.t l)):=by
 have hbg:=iL hx.hp hx.len
 rw [sR hr] at hbg
 have hcp:=hx.cap
 have hll:=hx.len
 have hxp:=aSk gJ hx.hp hcp (cA _) rfl
 rw [List.drop_zero] at hxp
 obtain ⟨⟨k,⟨qs1,qd,qz,qr,ql,qp,qc⟩,hops⟩,pp,cc,st,un⟩:=x
 dsimp only at hbg hxp hcp hll ⊢
 unfold ovB
 dsimp only
 refine A8 Tryz.func160 Tryz.ntmps160 fun N β=>?_
 refine Aa ?_
 refine BV fun b3=>?_
 refine AW (ρ:=sng b3 (.cells #[int k,int qs1,int qd,int qz,int qr,int ql,int qp,.bool qc,.slice pp hops.length cc,int st,int un] 58 (0,0))) fL ?_
 refine C3 fun b4=>?_
 refine AW (ρ:=sng b4 _) fL ?_
 have bx34_3:=rdB b3 58 [int k,int qs1,int qd,int qz,int qr,int ql,int qp,.bool qc,.slice pp hops.length cc,int st,int un]
 have c0:=rdC bx34_3 0
 have c1:=rdC bx34_3 1
 have c2:=rdC bx34_3 2
 have c3:=rdC bx34_3 3
 have c4:=rdC bx34_3 4
 have c5:=rdC bx34_3 5
 have c6:=rdC bx34_3 6
 have c7:=rdC bx34_3 7
 have c8:=rdC bx34_3 8
 have c9:=rdC bx34_3 9
 have c10:=rdC bx34_3 10
 clear bx34_3
 have cw:=rdB b3 58 [int k,int qs1,int qd,int qz,int qr,int ql,int qp,.bool qc,.slice pp hops.length cc,int st,int un]
 have hco:=yG γ [sng b4 (.cells #[.slice pl l.length cl] 56 (0,0)),lam] _ _ hops (fun a=>l.any (zH a)) hxp (by omega) (fun i a _=>aKm b4 hv hl a)
 refine Aba ?_
 refine A9 (.q 0 (.q 1 (.q 2 (.q 3 (.q 6 (.l 4 .e (.q 5 (.l 7 .e (.q 8 .nil))))))))) [] rfl (by kernel_rfl) Sel.nil ?_
 refine Aaj ?_;refine Aef ?_;refine DX ?_
 focus ((refine BZ ?_; refine BQ rfl hbg rfl rfl rdZ rfl rfl ?_; rintro _ rfl))
 refine GJ ?_
 focus ((refine BZ ?_; refine BQ rfl hco rfl rfl rdZ rfl rfl ?_; rintro _ rfl))
 refine Ac ?_
 skip
 exact AV ⟨rfl,rfl⟩
theorem rA {α:Type} {enc:α->List Value} {s:Nat} (γ:PH) (p:Option Addr) (c:Nat):SlE enc s γ (.slice p 0 c) ([]:List α):=⟨by simp,.inl ⟨rfl,_,_,rfl⟩⟩
theorem yI {γ:PH} {x:TkU} (hx:UOK qs cs γ x) (hr:mQ x.t.hops=0) (u:Int) :
  Ans Tryz.prog (fv 212) [.agg #[int x.t.k,int x.t.q.src,int x.t.q.dst,int x.t.q.size,int x.t.q.rdy,int x.t.q.dln,int x.t.q.pri,.bool x.t.q.cus,.slice x.p x.t.hops.length x.c,int x.st,int x.un],int 0,int u] [γ] (fun r=>∃ (p1:Option Addr) (c1:Nat),r=.agg #[int x.t.k,int x.t.q.src,int x.t.q.dst,int x.t.q.size,int x.t.q.rdy,int x.t.q.dln,int x.t.q.pri,.bool x.t.q.cus,.slice p1 0 c1,int 2,int u]):=by
 have hbg:=iL hx.hp hx.len
 rw [hr] at hbg
 obtain ⟨⟨k,⟨qs1,qd,qz,qr,ql,qp,qc⟩,hops⟩,pp,cc,st,un⟩:=x
 dsimp only at hbg ⊢
 have hcl:=aE0 emp (.slice (oH pp cc 0 4) 0 cc) [] (rA _ _ _) (by simp)
 refine A8 Tryz.func212 Tryz.ntmps212 fun N β=>?_
 refine Aa ?_
 refine BV fun b3=>?_
 refine CT fun b6=>?_
 refine B9 ?_;refine AW (ρ:=emp) fL ?_;refine Aak ?_
 refine A9 (.q 0 (.q 1 (.q 2 (.q 3 (.l 4 .e (.q 5 (.l 6 .e (.q 7 (.l 8 .b .nil))))))))) [] rfl (by kernel_rfl) Sel.nil ?_
 refine Aaj ?_;refine Aef ?_
 focus ((refine BZ ?_; refine BQ rfl hbg rfl rfl rdZ rfl rfl ?_; rintro _ rfl))
 refine EG ?_
 focus ((refine BZ ?_; refine C8 rfl hcl rfl rfl rdZ rfl rfl ?_; rintro _ _ ⟨σ1,hO1,rfl⟩; obtain ⟨p1,c1,rfl⟩:=hO1.form))
 refine AR ?_;refine Adr ?_;refine Aab ?_;refine AG ?_;refine BK ?_;refine AG ?_;refine Abx ?_;refine Aar ?_;refine Aa6 ?_;exact A2 (zB (b1:=b6) (T:=58) (v1:=[int k,int qs1,int qd,int qz,int qr,int ql,int qp,.bool qc,.slice p1 0 c1,int 2,int u]) rfl rfl rfl rfl (fR gN)) fQ Sel.nil ⟨rfl,p1,c1,rfl⟩
theorem aE7 {σ υ:PH} {pb ph:Option Addr} {kb kh:Nat} {bs:List Bk} {hs:List Hd} {x:TkU} (hT:oF ρ τ σ υ pq pc pb ph kq kc kb kh qs cs bs hs) (hK:TOK qs cs bs hs x.t.q) :
  jM Tryz.prog (fv 213) [.agg #[.slice pq qs.length kq,.slice pc cs.length kc,.slice pb bs.length kb,.slice ph hs.length kh],.agg #[int x.t.k,int x.t.q.src,int x.t.q.dst,int x.t.q.size,int x.t.q.rdy,int x.t.q.dln,int x.t.q.pri,.bool x.t.q.cus,.slice x.p x.t.hops.length x.c,int x.st,int x.un],int x.t.q.src,int x.t.q.rdy] [ρ,τ,σ,υ] (fun r χ=>(∃ l u,kY qs cs bs hs x.t.q l/\r=.tuple #[u,.bool true]/\fS 62 4 u l.length (l.flatMap gE) χ)\/(r=.tuple #[.slice none 0 0,.bool false])):=by
 have hea:=qZ hT hK
 obtain ⟨⟨k,⟨qs1,qd,qz,qr,ql,qp,qc⟩,hops⟩,pp,cc,st,un⟩:=x
 dsimp only at hea ⊢
 refine A8 Tryz.func213 Tryz.ntmps213 fun N β=>?_
 refine Aa ?_
 refine BV fun b4=>?_
 refine AW (ρ:=sng b4 (.cells #[.slice pq qs.length kq,.slice pc cs.length kc,.slice pb bs.length kb,.slice ph hs.length kh] 41 (0,0))) fL ?_
 refine BF fun b5 _=>?_
 have cwt:=rdB b4 41 [.slice pq qs.length kq,.slice pc cs.length kc,.slice pb bs.length kb,.slice ph hs.length kh]
 have cq:RdP (sng b5 (.cells #[int k,int qs1,int qd,int qz,int qr,int ql,int qp,.bool qc,.slice pp hops.length cc,int st,int un] 58 (0,0))) b5 1 [int qs1,int qd,int qz,int qr,int ql,int qp,.bool qc]:=iB (k:=1) (xs:=[int k,int qs1,int qd,int qz,int qr,int ql,int qp,.bool qc,.slice pp hops.length cc,int st,int un]) rfl
 refine Aaq ?_;refine Acz ?_
 refine A3 fun b=>?_
 refine Aa6 ?_;refine Aaw ?_;refine AG ?_;refine BK ?_;refine AG ?_;refine Abx ?_;refine Abs ?_;refine B4 hea rfl rfl rdZ rfl rfl ?_;rintro _ χ (⟨l,u,L,a,p,hF,_,_,_,_,rfl,hO⟩|⟨L,_,_,rfl⟩)
 ·refine AB ?_
  refine Ab ?_;refine Aaq ?_;refine Aaw ?_;refine CJ ?_;refine Aaq ?_;exact A2 (mB rfl rfl rfl) fQ fK ⟨χ,.inl ⟨l,u,hF,rfl,hO⟩,rfl⟩
 ·refine AB ?_
  refine Ab ?_;refine Aaq ?_;refine Aaw ?_;refine B3 ?_;refine Aaq ?_;exact A2 (mB rfl rfl rfl) fQ fK ⟨χ,.inr rfl,rfl⟩
theorem aCw {γ lam:PH} {x:TkU} (hx:UOK qs cs γ x) (hr:mQ x.t.hops=0) {pl:Option Addr} {cl:Nat} {l:List Hp} (hv:SlE gE 4 lam (.slice pl l.length cl) l) (hl:l.length<=1000) :
  jM Tryz.prog (fv 214) [.agg #[int x.t.k,int x.t.q.src,int x.t.q.dst,int x.t.q.size,int x.t.q.rdy,int x.t.q.dln,int x.t.q.pri,.bool x.t.q.cus,.slice x.p x.t.hops.length x.c,int x.st,int x.un],.slice pl l.length cl,int 0] [γ,lam] (fun r κ=>∃ (p1:Option Addr) (c1:Nat),r=.agg #[int x.t.k,int x.t.q.src,int x.t.q.dst,int x.t.q.size,int x.t.q.rdy,int x.t.q.dln,int x.t.q.pri,.bool x.t.q.cus,.slice p1 l.length c1,int x.st,int x.un]/\fS 62 4 (.slice p1 l.length c1) l.length (l.flatMap gE) κ):=by
 have hbg:=iL hx.hp hx.len
 rw [hr] at hbg
 obtain ⟨⟨k,⟨qs1,qd,qz,qr,ql,qp,qc⟩,hops⟩,pp,cc,st,un⟩:=x
 dsimp only at hbg ⊢
 have hcc:=fun b=>aCt (sng b (.cells #[.slice (oH pp cc 0 4) 0 cc,.slice pl l.length cl] 56 (0,0))) [lam] (.slice (some ⟨b,0,none⟩) 2 2) [.slice (oH pp cc 0 4) 0 cc,.slice pl l.length cl] [[],l] (oI (b:=b) (l:=[.slice (oH pp cc 0 4) 0 cc,.slice pl l.length cl]) (t:=56) (c:=2) aI0) rfl (fun i w l' hw hl'=>by
  match i,hw,hl' with
  | 0,hw,hl'=>simp at hw hl'; subst hw hl'; exact ⟨lam,by simp,rA _ _ _⟩
  | 1,hw,hl'=>simp at hw hl'; subst hw hl'; exact ⟨lam,by simp,hv⟩
  | i+2,hw,_=>simp at hw) (by simp) (by simp [tY]; omega)
 simp only [List.flatten_cons,List.flatten_nil,bX,aH] at hcc
 refine A8 Tryz.func214 Tryz.ntmps214 fun N β=>?_
 refine Aa ?_
 refine BV fun b3=>?_
 refine CT fun b6=>?_
 refine Aak ?_
 refine A9 (.q 0 (.q 1 (.q 2 (.q 3 (.q 6 (.l 4 .e (.q 5 (.l 7 .e (.l 8 .e (.q 9 (.l 10 .b .nil))))))))))) [] rfl (by kernel_rfl) Sel.nil ?_
 refine Aaj ?_;refine A7 ?_;refine Aa0 ?_
 focus ((refine BZ ?_; refine BQ rfl hbg rfl rfl rdZ rfl rfl ?_; rintro _ rfl))
 refine EG ?_
 refine BY fun b=>?_
 focus ((refine BZ ?_; refine C8 rfl (hcc _) rfl rfl rdZ rfl rfl ?_; rintro _ _ ⟨σ1,hO1,rfl⟩; obtain ⟨p1,c1,rfl⟩:=hO1.form))
 refine AR ?_;refine Adr ?_;refine Aar ?_;refine Aa6 ?_;exact A2 (zB (b1:=b6) (T:=58) (v1:=[int k,int qs1,int qd,int qz,int qr,int ql,int qp,.bool qc,.slice p1 l.length c1,int st,int un]) rfl rfl rfl rfl (fR gN)) fQ fK ⟨σ1,⟨p1,c1,rfl,hO1⟩,rfl⟩
end
end
theorem aKr (b1 b0:Nat) {X ν:PH} {pv:Option Addr} {kv:Nat} {V:List Int} (hn:rdc X b0 4=some (int 0)) (hv:rdc X b0 5=some (.slice pv V.length kv)) (hV:gC ν (.slice pv V.length kv) V) (hl:V.length<=1000) (x:Bk) :
  Ans Tryz.prog (.func (.func 215) #[] #[.pointer (some ⟨b1,0,none⟩)]) [.agg #[int x.c,int x.a,int x.b,int x.k]] [sng b1 (.cells #[.pointer (some ⟨b0,0,none⟩)] 98 (0,0)),X,ν] (fun r=>r=.bool (decide (x.k∈V) && decide (0<x.a))):=by
 have bx13_3:=rdB b1 98 [.pointer (some ⟨b0,0,none⟩)]
 have c1:=rdC bx13_3 0
 clear bx13_3
 have hco:=nV ν _ V x.k hV (by omega)
 refine CU [.pointer (some ⟨b1,0,none⟩)] Tryz.func215 Tryz.ntmps215 fun N β=>?_
 refine Aa ?_
 refine BV fun b2=>?_
 refine AW (ρ:=sng b2 (.cells #[int x.c,int x.a,int x.b,int x.k] 118 (0,0))) fL ?_
 have bx20_3:=rdB b2 118 [int x.c,int x.a,int x.b,int x.k]
 have cb0:=rdC bx20_3 0
 have cb1:=rdC bx20_3 1
 have cb2:=rdC bx20_3 2
 have cb3:=rdC bx20_3 3
 clear bx20_3
 refine Aba ?_
 refine A9 (.q 0 (.q 1 (.q 2 (.q 3 (.q 4 (.q 5 (.l 6 .e (.q 7 (.q 8 (.q 9 (.q 10 (.q 11 (.q 12 (.q 13 (.q 14 (.q 15 (.q 16 .nil))))))))))))))))) [] rfl (by kernel_rfl) Sel.nil ?_
 by_cases h1:x.k∈V
 ·rw [decide_eq_true h1] at hco ⊢
  by_cases h2:0<x.a
  ·rw [decide_eq_true h2]
   refine AN ?_;refine A4 ?_;refine Abj ?_
   focus ((refine BZ ?_; refine BQ rfl hco rfl rfl rdZ rfl rfl ?_; rintro _ rfl))
   refine AP ?_;refine Aca ?_;refine A4 ?_;refine Aaj ?_;refine FE ?_;refine BU ?_;refine Ac ?_
   skip
   exact AV ⟨rfl,rfl⟩
  ·rw [decide_eq_false h2]
   refine AN ?_;refine A4 ?_;refine Abj ?_
   focus ((refine BZ ?_; refine BQ rfl hco rfl rfl rdZ rfl rfl ?_; rintro _ rfl))
   refine AP ?_;refine Aca ?_;refine A4 ?_;refine Aaj ?_;refine DO ?_;refine BU ?_;refine Ac ?_
   skip
   exact AV ⟨rfl,rfl⟩
 ·rw [decide_eq_false h1] at hco ⊢
  refine AN ?_;refine A4 ?_;refine Abj ?_
  focus ((refine BZ ?_; refine BQ rfl hco rfl rfl rdZ rfl rfl ?_; rintro _ rfl))
  refine Ac2 ?_;refine Aaf ?_;refine Ady ?_;refine Ac ?_
  skip
  exact AV ⟨rfl,rfl⟩
end Go.Proofs.YtnijkofdlepfjaaGreat
namespace Go.Eng
section
variable {C : Cx} {D : List Deferred} {R H : List PH} {L : Env} {K : List It}
abbrev aCx (v : Value) : List PanicEntry := [{ v := v, recovered := false }]
def aE8 (P : Program) (fv : Value) (args : List Value) (w : World) (R X : Value -> World -> Prop) : Prop :=
  match ((do let d ← Deferred.ofValue fv args.toArray; invoke d.target d.args : Sem Next).run P w) with
  | .ok (.enter f az) w1 => CallsIn Fence.wide 0 P f az w1 (fun e w' => (∃ v, e = .returned v /\ R v w') \/ (∃ v, e = .panicked (aCx v) /\ X v w'))
  | _ => False
def aAq (P : Program) (fv : Value) (args : List Value) (R H : List PH) (post pan : Value -> List PH -> Prop) : Prop :=
  ∀ N w, Sat N R H w -> aE8 P fv args w (fun v w' => ∃ H', post v H' /\ Upd H H' w w') (fun v w' => ∃ H', pan v H' /\ Upd H H' w w')
theorem lH (ch : List PanicEntry) : ∀ (K : List It) (a : Act) (w : World), C.Q (.panic ch) a w -> wpK C K (.panic ch) a w
  | [], _, _, h => h
  | .code _ :: k, a, w, h => lH ch k a w h
  | .ops _ _ :: k, a, w, h => lH ch k a w h
  | .till _ :: k, a, w, h => lH ch k a w h
  | .sem _ :: k, a, w, h => lH ch k a w h
  | .blk _ :: k, a, w, h => lH ch k a w h
theorem FS {all : Array Oper} {rest : List Oper} {x : Operand} {xs : Array Operand} {ts : Array TypeId} {d : Nat} {ty : TypeId} {pos : String} {aft : Array Edge} {g : Option (Nat × Bool)} {fv : Value} {vs : List Value} {R1 H1 H2 : List PH} {post pan : Value -> List PH -> Prop}
    (hs : aAq C.P fv vs R1 H1 post pan) (hf : fM L x = some fv) (ha : jP L xs.toList = some vs) (ht : gA H H1 H2) (hr : jK R1 R H2)
    (hg : gT all L ⟨some d, .call ⟨.value x, xs, ts⟩, ty, pos, aft, g⟩ = some true) (hM : Nat.blt d C.M = true)
    (hx : ∀ v H', pan v H' -> ∀ a w, Frm C.M L a -> a.defers = D -> Sat C.N R (H' ++ H2) w -> C.Q (.panic (aCx v)) a w)
    (h : ∀ v H', post v H' -> JK C D R (H' ++ H2) ((d, v) :: L) (.ops all rest :: K)) : JK C D R H L (.ops all (⟨some d, .call ⟨.value x, xs, ts⟩, ty, pos, aft, g⟩ :: rest) :: K) := by
  refine ⟨fun a w hfr hdf hsat => ?_⟩
  show wpListIn _ _ _ _ _ (_ :: rest) a w
  unfold wpListIn
  rw [if_pos (lA hg (fun t _ v => hfr.get t v))]
  have hsat2 := ht.sat hsat
  have hc := hs C.N w (hsat2.sub hr)
  have hxv : a.eval x = fv := hfr.on x fv hf
  have hargs : xs.map a.eval = vs.toArray := by
    have := nT (a := a) ha (fun y _ => hfr.on y)
    have h2 : (xs.map a.eval).toList = vs := by rw [dF]; exact this
    rw [← h2]
  have hex : execOp a.eval ⟨some d, .call ⟨.value x, xs, ts⟩, ty, pos, aft, g⟩ = (do let d ← Deferred.ofValue fv vs.toArray; invoke d.target d.args : Sem Next) := by
    simp only [execOp, resolve, hargs, hxv]
  refine ⟨fun _ _ => trivial, ?_⟩
  rw [Oper.semAt_eq _ _ _ (by intro c; simp)]
  rw [hex];unfold aE8 at hc
  generalize ((do let d ← Deferred.ofValue fv vs.toArray; invoke d.target d.args : Sem Next).run C.P w) = res at hc
  split at hc
  · rename_i f az w1
    refine ⟨fun h => by simp [Fence.wide] at h, ?_⟩
    refine CallsIn.mono (show CallsIn (gS C.r) 0 C.P f az w1 _ from hc) ?_
    rintro e w' (⟨v, rfl, H', hp, hu⟩ | ⟨v, rfl, H', hp, hu⟩)
    · exact (h v H' hp).run _ w' (hfr.put (aT hM) v) hdf (hsat2.upd hu)
    · exact lH _ K a w' (hx v H' hp a w' hfr hdf (hsat2.upd hu))
  · exact hc.elim
def FnP (P : Program) (fn : Func) (N : Bs) (R : List PH) (post pan : Value -> List PH -> Prop) : Exit -> Act -> World -> Prop
  | .normal, a, w => jZ P fn a.tmps (fun v w' => ∃ H', post v H' /\ Sat N R H' w') a.defers w
  | .ret, a, w => jZ P fn a.tmps (fun v w' => ∃ H', post v H' /\ Sat N R H' w') a.defers w
  | .panic ch, a, w => a.defers = [] /\ ∃ v H', ch = aCx v /\ pan v H' /\ Sat N R H' w
  | _, _, _ => False
theorem aHm {P : Program} {f : FuncId} {fn : Func} {c : Code} {args cap : List Value} {R H : List PH} {post pan : Value -> List PH -> Prop} (hf : P.funcs[f]? = some fn) (hb : fn.body = some c)
    (hname : (fn.name == "runtime.NumGoroutine") = false) (hM : Nat.ble (args ++ cap).length fn.ntmps = true)
    (h : ∀ N β, JK ⟨none, P, FnP P fn N (β :: R) post pan, N, fn.ntmps⟩ [] (β :: R) H (uM 0 (args ++ cap)) [.code c]) : aAq P (.func (.func f) #[] cap.toArray) args R H post pan := by
  intro N0 w hs
  unfold aE8
  have hrun : ((do let d ← Deferred.ofValue (.func (.func f) #[] cap.toArray) args.toArray; invoke d.target d.args : Sem Next).run P w) = .ok (.enter f (args ++ cap).toArray) w := by
    have hname' : ¬ fn.name = "runtime.NumGoroutine" := by simpa using hname
    simp [Deferred.ofValue, invoke, callFunc, program, Sem.run, bind, Sem.bind, pure, hf, hb, hname']
  rw [hrun];simp only
  obtain ⟨β, hsat, hup⟩ := lG hs
  have hj := h (.of w) β
  refine callsIn_of_wp_marks hf hb trivial ?_
  have hM' := aT hM
  have hrun := hj.run { tmps := (args ++ cap).toArray ++ Array.replicate (fn.ntmps - (args ++ cap).toArray.size) undef, defers := [] } w
    ⟨by simp at hM' ⊢; omega, fun t v hv => by
      rw [sC] at hv;simp only [cA, if_true, Nat.sub_zero] at hv
      have hlt : t < (args ++ cap).length := (aC.1 hv).1
      simp only [aP]
      rw [cR (by simpa using hlt)]
      simp only [dQ]
      rw [hv]; rfl⟩ rfl hsat
  refine wpIn_mono (show c.wpIn Fence.wide 0 P (wpK _ []) _ w from hrun) (fun e a' w' hq => ?_)
  have hq : FnP P fn (.of w) (β :: R) post pan e a' w' := hq
  have mono : ∀ v w', (∃ H', post v H' /\ Sat (.of w) (β :: R) H' w') -> ((∃ u, Ending.returned v = Ending.returned u /\ ∃ H', post u H' /\ Upd H H' w w') \/ (∃ u, Ending.returned v = .panicked (aCx u) /\ ∃ H', pan u H' /\ Upd H H' w w')) :=
    fun v w' ⟨H', hp, hsat'⟩ => .inl ⟨v, rfl, H', hp, hup H' w' hsat'⟩
  cases e with
  | normal => exact hq.leaves mono
  | ret => exact hq.leaves mono
  | panic ch =>
    obtain ⟨hd, v, H', rfl, hp, hsat'⟩ := hq
    show LeavesInM _ _ _ _ _ _ a'.defers _ _
    rw [hd];exact .inr ⟨v, rfl, H', hp, hup H' w' hsat'⟩
  | _ => exact hq.elim
theorem G4 {P : Program} {fn : Func} {N : Bs} {M : Nat} {R R0 H H' : List PH} {L : Env} {K : List It} {post pan : Value -> List PH -> Prop} {v : Value}
    (hv : ∀ a w, Frm M L a -> Sat N R H w -> (results fn a.tmps).run P w = .ok v w) (hR : ∀ ρ ∈ R0, ρ ∈ R) (hH : Sel H H') (hp : post v H') :
    JK ⟨none, P, FnP P fn N R0 post pan, N, M⟩ [] R H L (.code .ret :: K) := by
  refine ⟨fun a w hf hd hs => wpIn_ret (lO K a w ?_)⟩
  show jZ _ _ _ _ a.defers w
  rw [hd];exact ⟨v, hv a w hf hs, H', hp, (hs.rsub hR).sel hH⟩
theorem GB {P : Program} {fn : Func} {N : Bs} {M : Nat} {R R0 H H' : List PH} {L : Env} {post pan : Value -> List PH -> Prop} {v : Value}
    (hv : ∀ a w, Frm M L a -> Sat N R H w -> (results fn a.tmps).run P w = .ok v w) (hR : ∀ ρ ∈ R0, ρ ∈ R) (hH : Sel H H') (hp : post v H') :
    JK ⟨none, P, FnP P fn N R0 post pan, N, M⟩ [] R H L [] := by
  refine ⟨fun a w hf hd hs => ?_⟩
  show jZ _ _ _ _ a.defers w
  rw [hd];exact ⟨v, hv a w hf hs, H', hp, (hs.rsub hR).sel hH⟩
end
section
variable {C : Cx} {D : List Deferred} {R H : List PH} {L : Env} {K : List It}
theorem aCy {F : Fence} {n : Nat} {P : Program} {f : FuncId} {args : Array Value} {u : FrameMode} {w : World} {S S' : Ending -> FrameMode -> World -> Prop} (h : CallsDIn F n P f args u w S) (hr : ∀ e u' w', S e u' w' -> S' e u' w') : CallsDIn F n P f args u w S' :=
  ⟨h.1, fun c cs hc hro => let ⟨e, u', w', fr, r, s⟩ := h.2 c cs hc hro; ⟨e, u', w', fr, hr _ _ _ r, s⟩⟩
def tR (P : Program) (d : Deferred) (u u2 : FrameMode) (N : Bs) (R H H2 : List PH) : Prop :=
  ∃ fv cap f args, d.target = .fn fv cap /\ (∀ w, (invoke d.target d.args).run P w = .ok (.enter f args) w) /\
    ∀ w, Sat N R H w -> CallsDIn Fence.wide 0 P f args u w (fun e u' w' => (∃ v, e = .returned v) /\ u' = u2 /\ Sat N R H2 w')
theorem tR.leaves {P : Program} {fn : Func} {tmps : Array Value} {T : Ending -> World -> Prop} {d : Deferred} {u u2 : FrameMode} {N : Bs} {H2 : List PH} {w : World} (hd : tR P d u u2 N R H H2) (hu : u ≠ .run) (hs : Sat N R H w) (hset : settle u2 = .returning)
    (h : ∀ w', Sat N R H2 w' -> ∃ v, (results fn tmps).run P w' = .ok v w' /\ T (.returned v) w') : LeavesInM Fence.wide 0 P fn tmps T [d] u w := by
  obtain ⟨fv, cap, f, args, h1, h2, h3⟩ := hd
  refine ⟨hu, .inr ⟨by simp [Fence.wide], fv, cap, f, args, h1, h2 w, fun _ _ => trivial, ?_⟩⟩
  refine aCy (h3 w hs) ?_;rintro e u' w' ⟨⟨v, rfl⟩, rfl, hs'⟩
  show LeavesInM _ _ _ _ _ _ [] (settle u') w'
  rw [hset];exact h w' hs'
theorem aHn {P : Program} {f : FuncId} {fn : Func} {c : Code} {args cap : List Value} {R H : List PH} {post : Value -> List PH -> Prop} (hf : P.funcs[f]? = some fn) (hb : fn.body = some c)
    (hname : (fn.name == "runtime.NumGoroutine") = false) (hM : Nat.ble (args ++ cap).length fn.ntmps = true)
    (h : ∀ N β (T : Ending -> World -> Prop), (∀ v H' w', post v H' -> Sat N (β :: R) H' w' -> T (.returned v) w') -> JK ⟨none, P, bodyPostM Fence.wide 0 P fn T, N, fn.ntmps⟩ [] (β :: R) H (uM 0 (args ++ cap)) [.code c]) : Spec P (.func (.func f) #[] cap.toArray) args R H post := by
  intro N0 w hs
  unfold kG
  have hrun : ((do let d ← Deferred.ofValue (.func (.func f) #[] cap.toArray) args.toArray; invoke d.target d.args : Sem Next).run P w) = .ok (.enter f (args ++ cap).toArray) w := by
    have hname' : ¬ fn.name = "runtime.NumGoroutine" := by simpa using hname
    simp [Deferred.ofValue, invoke, callFunc, program, Sem.run, bind, Sem.bind, pure, hf, hb, hname']
  rw [hrun];simp only
  obtain ⟨β, hsat, hup⟩ := lG hs
  have hj := h (.of w) β (fun e w' => ∃ u, e = Ending.returned u /\ ∃ H', post u H' /\ Upd H H' w w') (fun v H' w' hp hs' => ⟨v, rfl, H', hp, hup H' w' hs'⟩)
  refine callsIn_of_wp_marks hf hb trivial ?_
  have hM' := aT hM
  have hrun := hj.run { tmps := (args ++ cap).toArray ++ Array.replicate (fn.ntmps - (args ++ cap).toArray.size) undef, defers := [] } w
    ⟨by simp at hM' ⊢; omega, fun t v hv => by
      rw [sC] at hv;simp only [cA, if_true, Nat.sub_zero] at hv
      have hlt : t < (args ++ cap).length := (aC.1 hv).1
      simp only [aP]
      rw [cR (by simpa using hlt)]
      simp only [dQ]
      rw [hv]; rfl⟩ rfl hsat
  exact wpIn_mono (show c.wpIn Fence.wide 0 P (wpK _ []) _ w from hrun) (fun e a' w' hq => hq)
theorem GK {all : Array Oper} {rest : List Oper} {x : Operand} {ts : Array TypeId} {ty : TypeId} {pos : String} {aft : Array Edge} {g : Option (Nat × Bool)} {fv : Fn} {cap : Array Value}
    (hr : C.r = none) (hf : fM L x = some (.func fv #[] cap)) (hg : gT all L ⟨none, .defer ⟨.value x, #[], ts⟩, ty, pos, aft, g⟩ = some true)
    (h : JK C ({ target := .fn fv cap, args := #[] } :: D) R H L (.ops all rest :: K)) : JK C D R H L (.ops all (⟨none, .defer ⟨.value x, #[], ts⟩, ty, pos, aft, g⟩ :: rest) :: K) := by
  refine ⟨fun a w hfr hdf hsat => ?_⟩
  show wpListIn _ _ _ _ _ (_ :: rest) a w
  unfold wpListIn
  rw [if_pos (lA hg (fun t _ v => hfr.get t v))]
  refine ⟨fun _ _ => by rw [hr]; trivial, ?_⟩
  have hxv : a.eval x = .func fv #[] cap := hfr.on x _ hf
  have hex : (Oper.semAt (gS C.r).round a.eval ⟨none, .defer ⟨.value x, #[], ts⟩, ty, pos, aft, g⟩).run C.P w = .ok (.defer { target := .fn fv cap, args := #[] }) w := by
    rw [hr]
    show (execOp a.eval ⟨none, .defer ⟨.value x, #[], ts⟩, ty, pos, aft, g⟩).run C.P w = _
    simp [execOp, resolve, hxv, Deferred.ofValue, Sem.run, bind, Sem.bind, pure]
  rw [hex]
  exact h.run { a with defers := { target := .fn fv cap, args := #[] } :: a.defers } w ⟨hfr.1, hfr.2⟩ (by rw [hdf]) hsat
theorem panR {P : Program} {fn : Func} {T : Ending -> World -> Prop} {N : Bs} {M : Nat} {H2 : List PH} {d : Deferred} {v x : Value} {a : Act} {w : World} (hd : tR P d (.panicking (aCx x)) (.panicking [{ v := x, recovered := true }]) N R H H2) (hf : Frm M L a) (hdf : a.defers = [d]) (hs : Sat N R H w)
    (hv : ∀ a w, Frm M L a -> Sat N R H2 w -> (results fn a.tmps).run P w = .ok v w) (hT : ∀ w, Sat N R H2 w -> T (.returned v) w) : bodyPostM Fence.wide 0 P fn T (.panic (aCx x)) a w := by
  show LeavesInM _ _ _ _ _ _ a.defers (.panicking (aCx x)) w
  rw [hdf]
  exact hd.leaves (by simp) hs rfl (fun w' hs' => ⟨v, hv a w' hf hs', hT w' hs'⟩)
def FnD (P : Program) (fn : Func) (N : Bs) (R H2 : List PH) : Exit -> Act -> World -> Prop
  | .normal, a, w => a.defers = [] /\ (∃ v, (results fn a.tmps).run P w = .ok v w) /\ Sat N R H2 w
  | .ret, a, w => a.defers = [] /\ (∃ v, (results fn a.tmps).run P w = .ok v w) /\ Sat N R H2 w
  | _, _, _ => False
theorem uS {P : Program} {f : FuncId} {fn : Func} {id d0 d1 : Nat} {t0 t1 : TypeId} {p0 p1 : String} {a0 a1 : Array Edge} {y : Code} {cap : List Value} {u u2 : FrameMode} {N : Bs} {H2 : List PH} (rv : Value) (hf : P.funcs[f]? = some fn)
    (hb : fn.body = some (.seq (.region id #[⟨some d0, .call ⟨.builtin .recover, #[], #[]⟩, t0, p0, a0, none⟩, ⟨some d1, .assign (.tmp d0), t1, p1, a1, none⟩] false) y))
    (hname : (fn.name == "runtime.NumGoroutine") = false) (hM : Nat.ble cap.length fn.ntmps = true) (h0 : Nat.blt d0 fn.ntmps = true) (h1 : Nat.blt d1 fn.ntmps = true)
    (hrec : ∀ c₀ cs, c₀.mode = u -> recoverD (c₀ :: cs) = some (rv, { c₀ with mode := u2 } :: cs) \/ recoverD (c₀ :: cs) = none /\ rv = .nilIface /\ u2 = u)
    (h : JK ⟨none, P, FnD P fn N R H2, N, fn.ntmps⟩ [] R H ((d1, rv) :: (d0, rv) :: uM 0 cap) [.code y]) : tR P { target := .fn (.func f) cap.toArray, args := #[] } u u2 N R H H2 := by
  refine ⟨_, _, f, cap.toArray, rfl, fun w => ?_, fun w hs => ?_⟩
  · have hname' : ¬ fn.name = "runtime.NumGoroutine" := by simpa using hname
    simp [invoke, callFunc, program, Sem.run, bind, Sem.bind, pure, hf, hb, hname']
  have hM' := aT hM
  refine callsDIn_of_wpSIn hf hb trivial (fun c₀ cs hu => wpSIn_seq (wpSIn_region ?_))
  have hfr : Frm fn.ntmps (uM 0 cap) { tmps := cap.toArray ++ Array.replicate (fn.ntmps - cap.toArray.size) undef, defers := [] } :=
    ⟨by simp at hM' ⊢; omega, fun t v hv => by
      rw [sC] at hv;simp only [cA, if_true, Nat.sub_zero] at hv
      have hlt : t < cap.length := (aC.1 hv).1
      simp only [aP]
      rw [cR (by simpa using hlt)]
      simp only [dQ]
      rw [hv]; rfl⟩
  have hdf : ({ tmps := cap.toArray ++ Array.replicate (fn.ntmps - cap.toArray.size) undef, defers := [] } : Act).defers = [] := rfl
  generalize ({ tmps := cap.toArray ++ Array.replicate (fn.ntmps - cap.toArray.size) undef, defers := [] } : Act) = a at hfr hdf ⊢
  have f1 := hfr.put (aT h0) rv
  have f2 := f1.put (aT h1) rv
  have hfin : ∀ cs' : List Frame, cs' = { c₀ with mode := u2 } :: cs -> y.wpSIn Fence.wide 0 P (bodyPostS P fn c₀ cs (fun e u' w' => (∃ v, e = .returned v) /\ u' = u2 /\ Sat N R H2 w')) ((a.put (some d0) rv).put (some d1) rv) cs' w := by
    rintro cs' rfl;refine wpSIn_of_wpIn rfl ?_
    refine wpIn_mono (show y.wpIn Fence.wide 0 P (wpK _ []) _ w from h.run _ w f2 hdf hs) (fun e a' w' hq => ?_)
    have hq : FnD P fn N R H2 e a' w' := hq
    cases e with
    | normal => exact ⟨hq.1, u2, rfl, hq.2.1.elim (fun v hv => ⟨v, hv, ⟨v, rfl⟩, rfl, hq.2.2⟩)⟩
    | ret => exact ⟨hq.1, u2, rfl, hq.2.1.elim (fun v hv => ⟨v, hv, ⟨v, rfl⟩, rfl, hq.2.2⟩)⟩
    | _ => exact hq.elim
  show wpOpsSIn _ _ _ _ _ [0, 1] _ _ _
  have hev : (a.put (some d0) rv).eval (.tmp d0) = rv := f1.on _ _ (by show look ((d0, rv) :: uM 0 cap) d0 = some rv; rw [gV, if_pos rfl])
  have x0 : ∀ w, (execOp a.eval ⟨some d0, .call ⟨.builtin .recover, #[], #[]⟩, t0, p0, a0, none⟩).run P w = .ok .recover w := fun w => by simp [execOp, resolve, invoke, builtin, Sem.run, bind, Sem.bind, pure]
  have x1 : ∀ w, (execOp (a.put (some d0) rv).eval ⟨some d1, .assign (.tmp d0), t1, p1, a1, none⟩).run P w = .ok (.value rv) w := fun w => by simp [execOp, hev, Sem.run, bind, Sem.bind, pure]
  have hlast : ∀ cs' : List Frame, cs' = { c₀ with mode := u2 } :: cs -> wpOpsSIn Fence.wide 0 P #[⟨some d0, .call ⟨.builtin .recover, #[], #[]⟩, t0, p0, a0, none⟩, ⟨some d1, .assign (.tmp d0), t1, p1, a1, none⟩] (Exit.thenS (y.wpSIn Fence.wide 0 P (bodyPostS P fn c₀ cs (fun e u' w' => (∃ v, e = .returned v) /\ u' = u2 /\ Sat N R H2 w'))) (bodyPostS P fn c₀ cs (fun e u' w' => (∃ v, e = .returned v) /\ u' = u2 /\ Sat N R H2 w'))) [1] (a.put (some d0) rv) cs' w := fun cs' hcs => by
    refine ⟨fun _ _ => trivial, ?_⟩
    simp only [List.getElem_toArray, List.getElem_cons_succ, List.getElem_cons_zero]
    rw [if_pos (by simp [Region.wanted]), x1 w]
    exact hfin cs' hcs
  refine ⟨fun _ _ => trivial, ?_⟩
  simp only [List.getElem_toArray, List.getElem_cons_zero]
  rw [if_pos (by simp [Region.wanted]), x0 w]
  rcases hrec c₀ cs hu with e | ⟨e, rfl, rfl⟩
  · simp only [e]
    exact hlast _ rfl
  · simp only [e]
    exact hlast _ (by rw [← hu])
end
variable {C:Cx} {D:List Deferred} {R H:List PH} {L:Env} {K:List It}
variable {dst:Option Tmp} {ty:TypeId} {pos:String} {aft:Array Edge} {g:Option (Nat × Bool)}
def strP (P:Program) (t:TypeId):Bool:=match P.underlying t with
  | some (.struct _)=>true
  | _=>false
theorem aMh {P:Program} {t:TypeId} (h:strP P t=true):∃ fs,P.underlying t=some (.struct fs):=by
  unfold strP at h
  split at h
  · exact ⟨_,‹_›⟩
  · cases h
theorem E4 {x:Operand} {t:TypeId} {v:Value} (h:fM L x=some v) (ht:strP C.P t=true):fO C R H L ⟨dst,.makeInterface t x,ty,pos,aft,g⟩ (.iface t v):=
  ⟨by intro c; simp,fun a w hx _=>by
    obtain ⟨fs,hu⟩:=aMh ht
    simp [execOp,hx x (by simp [Op.operands]) v h,Instr.makeInterface,run_underlying hu]⟩
theorem ET {x:Operand} {t xT:TypeId} {v:Value} (h:fM L x=some (.iface t v)) (ht:strP C.P t=true):fO C R H L ⟨dst,.typeAssert x xT t true,ty,pos,aft,g⟩ (.tuple #[v,.bool true]):=
  ⟨by intro c; simp,fun a w hx _=>by
    obtain ⟨fs,hu⟩:=aMh ht
    simp [execOp,hx x (by simp [Op.operands]) _ h,Instr.typeAssert,run_underlying hu]⟩
theorem E5 {P:Program} {fn:Func} {N:Bs} {M:Nat} {R0 H':List PH} {post pan:Value->List PH->Prop} {all:Array Oper} {rest:List Oper} {x:Operand} {t:TypeId} {v:Value}
    (h:fM L x=some (.iface t v)) (hg:gT all L ⟨dst,.panic x,ty,pos,aft,g⟩=some true) (hR:∀ ρ∈R0,ρ∈R) (hH:Sel H H') (hp:pan (.iface t v) H') :
    JK ⟨none,P,FnP P fn N R0 post pan,N,M⟩ [] R H L (.ops all (⟨dst,.panic x,ty,pos,aft,g⟩::rest)::K):=by
  refine ⟨fun a w hfr hdf hs=>?_⟩
  show wpListIn _ _ _ _ _ (_::rest) a w
  unfold wpListIn
  rw [if_pos (lA hg (fun t _ v=>hfr.get t v))]
  refine ⟨fun _ _=>trivial,?_⟩
  rw [Oper.semAt_eq _ _ _ (by intro c; simp)]
  have hxv:a.eval x=.iface t v:=hfr.on x _ h
  have hex:(execOp a.eval ⟨dst,.panic x,ty,pos,aft,g⟩).run P w=.halt (.panic (.iface t v)) w:=by
    simp [execOp,hxv,Instr.panic,goPanic,Sem.run,bind,Sem.bind,pure]
  rw [hex];refine lH _ K a w ?_;exact ⟨hdf,_,H',rfl,hp,(hs.rsub hR).sel hH⟩
def aN5 (P:Program) (t:TypeId):Bool:=match P.underlying t with
  | some (.interface _)=>true
  | _=>false
theorem aMi {P:Program} {t:TypeId} (h:aN5 P t=true):∃ ms,P.underlying t=some (.interface ms):=by
  unfold aN5 at h
  split at h
  · exact ⟨_,‹_›⟩
  · cases h
theorem aT2 {P:Program} {T:TypeId} (ht:aN5 P T=true) (w:World) (d:Nat) (t:TypeId) (u:Value):(Op.equalIn (d+1) T (.iface t u) .nilIface).run P w=.ok false w:=by
  obtain ⟨ms,hu⟩:=aMi ht
  unfold Op.equalIn
  simp [run_underlying hu]
theorem aP8 {P:Program} {T:TypeId} (ht:aN5 P T=true) (w:World) (d:Nat):(Op.equalIn (d+1) T .nilIface .nilIface).run P w=.ok true w:=by
  obtain ⟨ms,hu⟩:=aMi ht
  unfold Op.equalIn
  simp [run_underlying hu]
theorem GC {x:Operand} {t yT:TypeId} {u:Value} (h:fM L x=some (.iface t u)) (ht:aN5 C.P yT=true):fO C R H L ⟨dst,.binOp .neq yT x (.const .nilIface) yT,ty,pos,aft,g⟩ (.bool true):=
  ⟨by intro c; simp,fun a w hx _=>by
    have e1:=hx x (by simp [Op.operands]) _ h
    have e2:a.eval (.const .nilIface)=.nilIface:=rfl
    have h3:=aT2 (P:=C.P) ht w 9999 t u
    simp only [Nat.reduceAdd] at h3
    simp [execOp,e1,e2,eqGuard,binOp,Op.equal,Op.maxDepth,h3]⟩
theorem GL {x:Operand} {yT:TypeId} (h:fM L x=some .nilIface) (ht:aN5 C.P yT=true):fO C R H L ⟨dst,.binOp .neq yT x (.const .nilIface) yT,ty,pos,aft,g⟩ (.bool false):=
  ⟨by intro c; simp,fun a w hx _=>by
    have e1:=hx x (by simp [Op.operands]) _ h
    have e2:a.eval (.const .nilIface)=.nilIface:=rfl
    have h3:=aP8 (P:=C.P) ht w 9999
    simp only [Nat.reduceAdd] at h3
    simp [execOp,e1,e2,eqGuard,binOp,Op.equal,Op.maxDepth,h3]⟩
theorem aHo {σ:PH}:∀ H:List PH,Sel (σ::H) H
  | []=>.nil
  | _::H=>.cons (.there .here) (aHo H)
theorem GD {P:Program} {fn:Func} {N:Bs} {M:Nat} {R0 H':List PH} {v:Value} (hv:∀ a w,Frm M L a->Sat N R H w->(results fn a.tmps).run P w=.ok v w) (hR:∀ ρ∈R0,ρ∈R) (hH:Sel H H'):JK ⟨none,P,FnD P fn N R0 H',N,M⟩ [] R H L []:=by
  refine ⟨fun a w hf hd hs=>?_⟩
  exact ⟨hd,⟨v,hv a w hf hs⟩,(hs.rsub hR).sel hH⟩
end Go.Eng
namespace Go.Proofs.YtnijkofdlepfjaaGreat
open Go.Eng Go.Step
set_option maxRecDepth 100000
set_option maxHeartbeats 64000000
abbrev gvU:Value:=.iface 271 (.agg #[])
abbrev dclo (bd:Nat):Deferred:={ target:=.fn (.func 159) #[.pointer (some ⟨bd,0,none⟩)],args:=#[] }
theorem aWe (bd:Nat) (N:Bs) (R H:List PH):tR Tryz.prog (dclo bd) .returning .returning N R H H:=by
 refine uS (fn:=Tryz.f159) (cap:=[.pointer (some ⟨bd,0,none⟩)]) .nilIface Tryz.func159 rfl rfl rfl rfl rfl (fun c₀ cs hu=>.inr ⟨by simp [recoverD,hu],rfl,rfl⟩) ?_
 refine Aab ?_
 focus ((refine' CN _ rfl rfl rfl _; rotate_left; (apply GL; exact rfl; exact rfl)))
 refine Aai ?_;exact GD (gY rfl) fQ Sel.refl
theorem aP9 (bd:Nat) (N:Bs) (R H:List PH) (x:Bool):tR Tryz.prog (dclo bd) (.panicking (aCx gvU)) (.panicking [{ v:=gvU,recovered:=true }]) N R (sng bd (.cells #[.bool x] 4 (0,0))::H) (sng bd (.cells #[.bool false] 4 (0,0))::H):=by
 refine uS (fn:=Tryz.f159) (cap:=[.pointer (some ⟨bd,0,none⟩)]) gvU Tryz.func159 rfl rfl rfl rfl rfl (fun c₀ cs hu=>.inl (by simp [recoverD,hu])) ?_
 refine Aab ?_
 focus ((first|(refine' CN _ rfl rfl rfl _; rotate_left; (apply GC; exact rfl; exact rfl))|(refine' CN _ rfl rfl rfl _; rotate_left; (apply ET; exact rfl; exact rfl))))
 refine Aah ?_;refine Aag ?_
 focus ((first|(refine' CN _ rfl rfl rfl _; rotate_left; (apply GC; exact rfl; exact rfl))|(refine' CN _ rfl rfl rfl _; rotate_left; (apply ET; exact rfl; exact rfl))))
 refine Abk ?_
 refine A3 fun b=>?_
 refine AU ?_;refine Abq ?_;refine Acn ?_;refine AA ?_;refine Abx ?_;exact GD (gY rfl) fQ (.cons .here (aHo H))
end Go.Proofs.YtnijkofdlepfjaaGreat
namespace Go.Eng
variable {C : Cx} {D : List Deferred} {R H Hf : List PH} {L : Env} {K : List It} {ps ls : List Nat}
structure aVt (C : Cx) (D : List Deferred) (R H : List PH) (L : Env) (o : Oper) (post : Value -> List PH -> Prop) (K : List It) : Prop where
  run : ∀ a w, (∀ x ∈ o.op.operands, OnE L a x) -> a.defers = D -> Sat C.N R H w -> ∀ (next : Act -> World -> Prop),
    (∀ v H' w', post v H' -> Sat C.N R H' w' -> next (a.put o.dst v) w') -> o.wpIn (gS C.r) 0 C.P a w next (wpK C K)
theorem aKs {x : Operand} {xs : Array Operand} {ts : Array TypeId} {dst : Option Tmp} {ty : TypeId} {pos : String} {aft : Array Edge} {g : Option (Nat × Bool)} {fv : Value} {vs : List Value} {R1 H1 H2 : List PH} {post pan : Value -> List PH -> Prop}
    (hs : aAq C.P fv vs R1 H1 post pan) (hf : fM L x = some fv) (ha : jP L xs.toList = some vs) (ht : gA H H1 H2) (hr : jK R1 R H2)
    (hx : ∀ v H', pan v H' -> ∀ a w, a.defers = D -> Sat C.N R (H' ++ H2) w -> C.Q (.panic (aCx v)) a w) :
    aVt C D R H L ⟨dst, .call ⟨.value x, xs, ts⟩, ty, pos, aft, g⟩ (fun v H' => ∃ H1', H' = H1' ++ H2 /\ post v H1') K := by
  refine ⟨fun a w hxx hdf hsat next hnext => ?_⟩
  have hsat2 := ht.sat hsat
  have hc := hs C.N w (hsat2.sub hr)
  have hxv : a.eval x = fv := hxx x (by simp [Op.operands, Call.operands]) fv hf
  have hargs : xs.map a.eval = vs.toArray := by
    have := nT (a := a) ha (fun y hy => hxx y (by simp [Op.operands, Call.operands]; right; simpa using hy))
    have h2 : (xs.map a.eval).toList = vs := by rw [dF]; exact this
    rw [← h2]
  have hex : execOp a.eval ⟨dst, .call ⟨.value x, xs, ts⟩, ty, pos, aft, g⟩ = (do let d ← Deferred.ofValue fv vs.toArray; invoke d.target d.args : Sem Next) := by
    simp only [execOp, resolve, hargs, hxv]
  refine ⟨fun _ _ => trivial, ?_⟩
  rw [Oper.semAt_eq _ _ _ (by intro c; simp)]
  rw [hex];unfold aE8 at hc
  generalize ((do let d ← Deferred.ofValue fv vs.toArray; invoke d.target d.args : Sem Next).run C.P w) = res at hc
  split at hc
  · rename_i f az w1
    refine ⟨fun h => by simp [Fence.wide] at h, ?_⟩
    refine CallsIn.mono (show CallsIn (gS C.r) 0 C.P f az w1 _ from hc) ?_
    rintro e w' (⟨v, rfl, H', hp, hu⟩ | ⟨v, rfl, H', hp, hu⟩)
    · exact hnext v (H' ++ H2) w' ⟨H', rfl, hp⟩ (hsat2.upd hu)
    · exact lH _ K a w' (hx v H' hp a w' hdf (hsat2.upd hu))
  · exact hc.elim
theorem a_eP {all : Array Oper} {done : List Nat} {i d : Nat} {rest : Pl} {o : Oper} {post : Value -> List PH -> Prop} (ho : all[i]? = some o) (hl : aVt C D R H L o post K) (hg : gT all L o = some true) (hd : o.dst = some d) (hM : Nat.blt d C.M = true)
    (hsub : ∀ v H', post v H' -> ∀ w, Sat C.N R H' w -> Sat C.N R H w)
    (h : ∀ v H', post v H' -> DJ C D R Hf H' ((d, v) :: L) all (i :: done) ps (i :: ls) rest K) : mV C D R Hf H L all done ps ls i .e rest K := by
  intro hlo hpl hrd fuel listed a w hinv hm
  simp only [nU, aJ] at hlo
  obtain ⟨h2, h3⟩ := hlo
  obtain ⟨k1, k2, k3⟩ := kH.1 hrd
  have hon := hinv.on ho (uP h3) hm
  have hdi : d ∈ gP all i := by unfold gP; rw [ho]; simp [hd]
  obtain ⟨f1, f2⟩ := qV h2 hdi
  have hms : i < listed.size := by rw [hinv.size]; exact k1
  obtain ⟨l1, l2, l3⟩ := hinv.listed hm
  have hlt : d < C.M := aT hM
  unfold wpOpIn;rw [ho];simp only;rw [if_pos (lA hg hon)]
  refine hl.run a w (aAk hon) hinv.df hinv.sat _ (fun v H' w' hp hs' => (h v H' hp).run hpl _ _ _ _ ?_)
  have back : ∀ j ∈ done, ¬ isL (listed.setIfInBounds i true) j -> ¬ isL listed j := fun j _ hn hl => hn ((gB hms).2 (.inr hl))
  have cs : ∀ j, j ∈ i :: done -> ¬ isL (listed.setIfInBounds i true) j -> j ∈ done := fun j hj hn => by
    simp at hj
    rcases hj with rfl | hj
    · exact absurd ((gB hms).2 (.inl rfl)) hn
    · exact hj
  have hlds : ∀ j ∈ i :: ls, isL (listed.setIfInBounds i true) j := fun j hj => by
    simp at hj
    rcases hj with rfl | hj
    · exact (gB hms).2 (.inl rfl)
    · exact (gB hms).2 (.inr (hinv.lds j hj))
  refine ⟨l1, l2, fun j hj hlj => ?_, l3, by rw [hd]; simp [Act.put, hinv.tm], by rw [hd]; exact hinv.df, hs', fun t u hu => ?_, fun j hj hnl => ?_, fun w hw => hinv.hf w (hsub v H' hp w hw), hlds, fun j hj hnl k hk d' hd' hr => ?_, fun j hj hnl k hk hkj d' hd' => ?_, ⟨k1, k3, hinv.chron⟩⟩
  · rcases (gB hms).1 hlj with rfl | hlj
    · simp
    · simp [hinv.sub j hj hlj]
  · rw [hd]
    rw [gV] at hu
    by_cases e : d = t
    · subst e
      simp only [if_true, aD] at hu; subst hu
      left
      simp [Act.put, hinv.tm, hlt]
    · rw [if_neg e] at hu
      rcases hinv.get t u hu with hg' | ⟨j, hj, hnj, hjt⟩
      · left; simpa [Act.put, aP, e] using hg'
      · right
        refine ⟨j, by simp [hj], fun hlj => ?_, hjt⟩
        rcases (gB hms).1 hlj with rfl | hlj
        · exact k2 hj
        · exact hnj hlj
  · have hj' := cs j hj hnl
    obtain ⟨o', d', v', e1, e2, e3, e4, e5⟩ := hinv.prom j hj' (back j hj' hnl)
    have hne : d ≠ d' := fun h => by
      subst h
      apply (f2 j hj').2
      unfold gP; rw [e1]; simp [e2]
    refine ⟨o', d', v', e1, e2, e3, by rw [gV, if_neg hne]; exact e4, (e5.cons ?_).heap (fun w hw => ?_)⟩
    · have := (f2 j hj').1
      unfold kQ at this; rw [e1] at this; exact this
    · split
      · rename_i hc; rw [if_pos hc] at hw; exact hw
      · rename_i hc; rw [if_neg hc] at hw; exact hsub v H' hp w hw
  · have hj' := cs j hj hnl
    by_cases ek : k = i
    · subst ek
      have : d' = d := by unfold gP at hd'; rw [ho] at hd'; simpa [hd] using hd'
      subst this;exact absurd hr (f2 j hj').1
    · exact hinv.data j hj' (back j hj' hnl) k (by simp at hk; exact hk.resolve_left ek) d' hd' hr
  · have hj' := cs j hj hnl
    by_cases ek : k = i
    · subst ek
      intro hdk
      have : d' = d := by unfold gP at hdk; rw [ho] at hdk; simpa [hd] using hdk
      subst this;exact (f2 j hj').2 hd'
    · exact hinv.uniq j hj' (back j hj' hnl) k (by simp at hk; exact hk.resolve_left ek) hkj d' hd'


theorem G5 {Hf R1 H : List PH} {ps ls done : List Nat} {i d : Nat} {plan : Pl} {all : Array Oper} {f : Value} {vs : List Value} {x : Operand} {xs : Array Operand} {ts : Array TypeId} {ty : TypeId} {pos : String} {aft : Array Edge} {g : Option (Nat × Bool)} {post pan : Value -> List PH -> Prop} (ho : all[i]? = some ⟨some d, .call ⟨.value x, xs, ts⟩, ty, pos, aft, g⟩) (hs : aAq C.P f vs R1 [] post pan) (hf : fM L x = some f) (ha : jP L xs.toList = some vs) (hr : jK R1 R H) (hg : gT all L ⟨some d, .call ⟨.value x, xs, ts⟩, ty, pos, aft, g⟩ = some true) (hM : Nat.blt d C.M = true)
    (hx : ∀ v H', pan v H' -> ∀ a w, a.defers = D -> Sat C.N R (H' ++ H) w -> C.Q (.panic (aCx v)) a w)
    (h : ∀ v H', post v H' -> DJ C D R Hf (H' ++ H) ((d, v) :: L) all (i :: done) ps (i :: ls) plan K) : mV C D R Hf H L all done ps ls i .e plan K :=
  a_eP ho (aKs hs hf ha gA.nil hr hx) hg rfl hM (fun v H' ⟨H1', e, hp⟩ w hw => by subst e; exact hw.left_out) (fun v H' ⟨H1', e, hp⟩ => by subst e; exact h v H1' hp)
theorem aHp {P : Program} {f : FuncId} {fn : Func} {c : Code} {args cap : List Value} {R H : List PH} {post pan : Value -> List PH -> Prop} {M : Nat} {L : Env} (hf : P.funcs[f]? = some fn) (hb : fn.body = some c)
    (hname : (fn.name == "runtime.NumGoroutine") = false) (hM : fn.ntmps = M) (hle : Nat.ble (args ++ cap).length M = true) (hL : oP 0 args cap L)
    (h : ∀ N β, JK ⟨none, P, FnP P fn N (β :: R) post pan, N, M⟩ [] (β :: R) H L [.code c]) : aAq P (.func (.func f) #[] cap.toArray) args R H post pan := by
  subst hM
  exact aHm hf hb hname hle (fun N β => by rw [hL.eq]; exact h N β)
theorem aQa {P : Program} {f : FuncId} {fn : Func} {c : Code} {args cap : List Value} {R H : List PH} {post : Value -> List PH -> Prop} {M : Nat} {L : Env} (hf : P.funcs[f]? = some fn) (hb : fn.body = some c)
    (hname : (fn.name == "runtime.NumGoroutine") = false) (hM : fn.ntmps = M) (hle : Nat.ble (args ++ cap).length M = true) (hL : oP 0 args cap L)
    (h : ∀ N β (T : Ending -> World -> Prop), (∀ v H' w', post v H' -> Sat N (β :: R) H' w' -> T (.returned v) w') -> JK ⟨none, P, bodyPostM Fence.wide 0 P fn T, N, M⟩ [] (β :: R) H L [.code c]) : Spec P (.func (.func f) #[] cap.toArray) args R H post := by
  subst hM
  exact aHn hf hb hname hle (fun N β T hT => by rw [hL.eq]; exact h N β T hT)
end Go.Eng
namespace Go.Proofs.YtnijkofdlepfjaaGreat
open Go.Eng Go.Step
set_option maxRecDepth 100000
set_option maxHeartbeats 64000000
section
section
variable {ρ τ χ:PH} {Γ:List PH} {pq pc pt:Option Addr} {kq kc kt:Nat} {qs:List Int} {cs:List Ct}
theorem yJ (nb nh kb kh:Nat) (pb ph:Option Addr) (lb:nb<=100000) (lh:nh<=100000):Ans Tryz.prog (fv 36) [.agg #[.slice pq qs.length kq,.slice pc cs.length kc,.slice pb nb kb,.slice ph nh kh]] [] (fun r=>r=.bool (decide (512<nb\/512<nh))):=by
 refine A8 Tryz.func36 Tryz.ntmps36 fun N β=>?_
 refine Aa ?_
 refine BF fun b1 bx18=>?_
 have ta:=rdC bx18 2
 have tb:=rdC bx18 3
 by_cases h1:512<nb
 ·rw [decide_eq_true (.inl h1)]
  refine Aeh ?_;refine C1 ?_;refine Acw ?_;refine Ac0 ?_;exact AV ⟨rfl,rfl⟩
 by_cases h2:512<nh
 ·rw [decide_eq_true (.inr h2)]
  refine Acv ?_;refine Ade ?_;refine Aas ?_;refine A6 ?_;refine C1 ?_;refine Acf ?_;exact AV ⟨rfl,rfl⟩
 ·rw [decide_eq_false (by omega)]
  refine Acv ?_;refine Ade ?_;refine Aas ?_;refine Ade ?_;refine Acf ?_;exact AV ⟨rfl,rfl⟩
theorem aDq {V:List Int} {T:List Tk} {bs:List Bk} (pb:bs.Perm (jJ T)) (hV:∀ b∈jJ T,b.k∈V->0<b.a):(bs.filter (fun y=>!(decide (y.k∈V) && decide (0<y.a)))).Perm (kF V T):=by
 unfold kF;refine (pb.filter _).trans ?_
 rw [List.filter_congr (q:=fun b=>decide (b.k∉V)) (fun b hb=>?_)]
 by_cases h:b.k∈V
 ·rw [decide_eq_true h,decide_eq_true (hV b hb h)]
  simp [h]
 ·simp [h]
theorem aHq {L:List TkU} (hok:aCn qs cs L) (hl:L.length<=5):(jJ (L.map (·.t))).length<=5000:=by
 have h1:∀ x∈L.map (·.t),x.hops.length<=1000:=fun x hx=>by
  obtain ⟨y,hy,rfl⟩:=bE.1 hx
  rcases (hok y hy).2 with h|h
  ·exact h.len
  ·rw [h.1]; exact cA _
 have h2:(L.map (·.t)).length<=5:=by rw [aU]; exact hl
 generalize L.map (·.t)=T at h1 h2
 have:(jJ T).length<=T.length*1000:=by
  clear h2
  induction T with
  | nil=>simp [jJ]
  | cons a T ih =>
   have:=ih (fun x hx=>h1 x (bS _ hx))
   have h3:=h1 a List.mem_cons_self
   have e:jJ (a::T)=aCf a ++ jJ T:=by simp [jJ]
   rw [e,aB,aS]
   have:(aCf a).length=a.hops.length:=by simp [aCf]
   omega
 omega
theorem aDr (T:List Tk):(jB cs T).length=(jJ T).length:=by
 unfold jB jJ
 induction T with
 | nil=>rfl
 | cons a T ih =>
  rw [cU,cU,aB,aB,ih]
  congr 1
  unfold aPe aCf;rw [rZ,aU]
theorem uT (hq:gC ρ (.slice pq qs.length kq) qs) (hc:jW τ (.slice pc cs.length kc) cs) (hcap:cs.length<=kc) (lq:qs.length<=9223372036854775807) (lc:cs.length<=9223372036854775807) (hp:gD qs cs=0) {L:List TkU} (hL:qL χ Γ (.slice pt L.length kt) L) (hl:L.length<=5) (hok:aCn qs cs L) {ν:PH} {pv:Option Addr} {kv:Nat} {V:List Int} (hV:gC ν (.slice pv V.length kv) V) (hvl:V.length<=1000) (hVr:∀ b∈jJ (L.map (·.t)),b.k∈V->0<b.a) (b0:Nat) (e6 e7 e8 e9 e10:Value) :
  aAq Tryz.prog (fv 162) [.pointer (some ⟨b0,0,none⟩)] (sng b0 (.cells #[.slice pq qs.length kq,.slice pc cs.length kc,.slice none 0 0,.slice pt L.length kt,int 0,.slice pv V.length kv,e6,e7,e8,e9,e10] 104 (0,0))::ν::τ::χ::Γ) [] (fun r H'=>∃ (bs:List Bk) (hs:List Hd) (pb ph:Option Addr) (kb kh:Nat) (σ υ:PH),r=.agg #[.slice pq qs.length kq,.slice pc cs.length kc,.slice pb bs.length kb,.slice ph hs.length kh]/\bs.Perm (kF V (L.map (·.t)))/\BkW bs/\hs.Perm (jB cs (L.map (·.t)))/\nJ hs/\fS 118 4 (.slice pb bs.length kb) bs.length (bs.flatMap gX) σ/\fS 259 5 (.slice ph hs.length kh) hs.length (hs.flatMap hY) υ/\(jJ (L.map (·.t))).length<=512/\(jB cs (L.map (·.t))).length<=512/\H'=[σ,υ])
   (fun v H'=>v=gvU/\H'=[]):=by
 have hta:=jY hq hc hcap lq lc hp hL hl hok
 have hbl:=aHq hok hl
 have hhl:=aDr (cs:=cs) (L.map (·.t))
 have hfl:=fun {bs:List Bk} (h:bs.Perm (jJ (L.map (·.t))))=>aDq h hVr
 refine aHp (cap:=[]) Tryz.func162 rfl rfl Tryz.ntmps162 rfl envZ (fun N β=>?_)
 refine Aa ?_
 refine C3 fun b1=>?_
 refine CT fun b2=>?_
 refine AW (ρ:=sng b1 _) fL ?_
 have bx127_3:=rdB b1 98 [.pointer (some ⟨b0,0,none⟩)]
 have c1:=rdC bx127_3 0
 clear bx127_3
 have xl:RdP (sng b0 (.cells #[.slice pq qs.length kq,.slice pc cs.length kc,.slice none 0 0,.slice pt L.length kt,int 0,.slice pv V.length kv,e6,e7,e8,e9,e10] 104 (0,0))) b0 0 [.slice pq qs.length kq,.slice pc cs.length kc,.slice none 0 0,.slice pt L.length kt]:=iB (k:=0) (xs:=[.slice pq qs.length kq,.slice pc cs.length kc,.slice none 0 0,.slice pt L.length kt,int 0,.slice pv V.length kv,e6,e7,e8,e9,e10]) rfl
 have bx129_3:=rdB b0 104 [.slice pq qs.length kq,.slice pc cs.length kc,.slice none 0 0,.slice pt L.length kt,int 0,.slice pv V.length kv,e6,e7,e8,e9,e10]
 have x4:=rdC bx129_3 4
 have x5:=rdC bx129_3 5
 clear bx129_3
 have hdf:=fun b4=>aKr b4 b0 x4 x5 hV hvl
 refine AE ?_;refine Abb ?_;refine Acj ?_;refine Ab4 ?_
 refine BG hta rfl rfl fU (fun z hz=>.inl (by simp only [aE] at hz ⊢; rcases hz with h|h|h <;> simp [h])) rfl rfl ?_
 rintro _ _ ⟨bs,hs,pb,ph,kb,kh,σ,υ,rfl,p1,s1,p2,s2,o1,o2,rfl⟩;simp only [aG,aH]
 have lb:=p1.length_eq
 have lh:=p2.length_eq
 refine A3 fun b=>?_
 refine Adb ?_;refine Aar ?_
 refine A5 (yJ bs.length hs.length kb kh pb ph (by omega) (by omega)) ?_
 by_cases hf:512<bs.length\/512<hs.length
 ·rw [decide_eq_true hf]
  refine Aah ?_;refine AA ?_;refine CB ?_
  focus ((refine' CN _ rfl rfl rfl _; rotate_left; (apply E4; exact rfl; exact rfl)))
  exact E5 rfl rfl fQ Sel.nil ⟨rfl,rfl⟩
 ·rw [decide_eq_false hf]
  refine Aai ?_;refine Aan ?_;refine BR ?_
  refine BG (qY σ _ bs o1 (by omega) _ (fun x=>decide (x.k∈V) && decide (0<x.a)) _ (fun x=>hdf b1 x)) rfl rfl fU rdZ rfl rfl ?_
  rintro _ _ ⟨σ2,hO2,rfl⟩;simp only [aG,aH]
  obtain ⟨pb2,kb2,rfl⟩:=hO2.form
  refine AG ?_;refine Abx ?_;refine Aar ?_;refine Aa6 ?_
  exact G4 (zB (b1:=b2) (T:=41) (v1:=[.slice pq qs.length kq,.slice pc cs.length kc,.slice pb2 (bs.filter (fun y=>!(decide (y.k∈V) && decide (0<y.a)))).length kb2,.slice ph hs.length kh]) rfl rfl rfl rfl (fR gN)) fQ fK ⟨_,hs,pb2,ph,kb2,kh,σ2,υ,rfl,hfl p1,s1.filter _,p2,s2,hO2,o2,by omega,by omega,rfl⟩
end
end
section
structure XOK (qs:List Int) (cs:List Ct) (L:List TkU) (V:List Int):Prop where
 lg:LgV qs cs (L.map (·.t)) V
 gd:oJ qs cs L
 vs:∀ k∈V,∃ x∈L,x.t.k=k/\jE x.t=true
 nd:V.Nodup
variable {qs:List Int} {cs:List Ct} {L:List TkU} {V:List Int}
theorem XOK.num (h:XOK qs cs L V) {i:Nat} {x:TkU} (hx:L[i]?=some x):x.t.k=(i:Int)+1:=h.lg.num i x.t (by rw [aY,hx]; rfl)
theorem XOK.len (h:XOK qs cs L V):L.length<=4:=by have:=h.lg.len; rwa [aU] at this
theorem XOK.pl (h:XOK qs cs L V):gD qs cs=0:=h.lg.tb.pl
theorem XOK.at {k:Int} (h:XOK qs cs L V) (hk:k∈V):∃ (j:Nat) (x:TkU),L[j]?=some x/\x.t.k=k/\jE x.t=true:=by
 obtain ⟨x,hx,h1,h2⟩:=h.vs k hk
 obtain ⟨j,hj⟩:=dI hx
 exact ⟨j,x,hj,h1,h2⟩
theorem XOK.uniq (h:XOK qs cs L V) {j:Nat} {x:TkU} (hx:L[j]?=some x):∀ (i:Nat) (y:TkU),L[i]?=some y->(y.t.k=x.t.k↔i=j):=fun i y hy=>by
 have h1:=h.num hx
 have h2:=h.num hy
 constructor
 ·intro e; omega
 ·intro e; subst e; omega
theorem XOK.tks (h:XOK qs cs L V):aCn qs cs L:=wH rfl h.lg.tk (fun x hx=>(h.gd x hx).2.1)
theorem XOK.rest (h:XOK qs cs L V):∀ b∈jJ (L.map (·.t)),b.k∈V->0<b.a:=fun b hb hv=>by
 obtain ⟨y,hy,hb⟩:=dB.1 hb
 obtain ⟨z,hz,rfl⟩:=bE.1 hy
 obtain ⟨i,hi⟩:=dI hz
 obtain ⟨j,x,hx,e,hr⟩:=h.at hv
 rw [rY hb] at e
 have h1:=h.num hx
 have h2:=h.num hi
 have:i=j:=by omega
 subst this;rw [hi] at hx
 injection hx with hx
 subst hx
 obtain ⟨g1,g2,g3⟩:=h.gd z hz
 have hne:z.t.hops≠[]:=fun e=>by unfold jE at hr; rw [e] at hr; cases hr
 exact aHf h.pl g1.1 (g1.2.resolve_right hne) hr b hb
def kR (x:TkU) (p:Option Addr) (c:Nat) (u:Int):TkU:=⟨⟨x.t.k,x.t.q,[]⟩,p,c,2,u⟩
def goU (x:TkU) (p:Option Addr) (c:Nat) (l:List Hp):TkU:=⟨⟨x.t.k,x.t.q,l⟩,p,c,x.st,x.un⟩
theorem XOK.stop {k:Int} (h:XOK qs cs L (k::V)) {j:Nat} {x:TkU} (hx:L[j]?=some x) (hk:x.t.k=k) (p:Option Addr) (c:Nat) (u:Int) (hu:u<=x.t.q.rdy) :
  LgV qs cs ((L.set j (kR x p c u)).map (·.t)) V/\aCn qs cs (L.set j (kR x p c u))/\∀ b∈jJ ((L.set j (kR x p c u)).map (·.t)),b.k∈V->0<b.a:=by
 subst hk
 have hxt:(L.map (·.t))[j]?=some x.t:=by rw [aY,hx]; rfl
 have e:(L.set j (kR x p c u)).map (·.t)=(L.map (·.t)).set j { x.t with hops:=[] }:=by rw [List.map_set]; rfl
 refine ⟨by rw [e]; exact h.lg.stop hxt,fun y hy=>?_,fun b hb hv=>?_⟩
 ·rcases cY hy with hy|rfl
  ·exact h.tks y hy
  ·exact ⟨(h.tks x (aF hx)).1,.inr ⟨rfl,hu⟩⟩
 ·rw [e] at hb
  obtain ⟨y,hy,hb⟩:=dB.1 hb
  rcases cY hy with hy|rfl
  ·exact h.rest b (dB.2 ⟨y,hy,hb⟩) (bS _ hv)
  ·simp [aCf] at hb
theorem XOK.vs_set {k:Int} (h:XOK qs cs L (k::V)) {j:Nat} {x y:TkU} (hx:L[j]?=some x) (hk:x.t.k=k):∀ k'∈V,∃ z∈L.set j y,z.t.k=k'/\jE z.t=true:=fun k' hk'=>by
 obtain ⟨i,z,hz,e1,e2⟩:=h.at (bS _ hk')
 have hne:k'≠k:=fun e=>(eM.1 h.nd).1 (e ▸ hk')
 have h1:=h.num hx
 have h2:=h.num hz
 have:i≠j:=by omega
 exact ⟨z,aF (i:=i) (by rw [eQ (by omega)]; exact hz),e1,e2⟩
theorem XOK.drop {k:Int} (h:XOK qs cs L (k::V)) {j:Nat} {x:TkU} (hx:L[j]?=some x) (hk:x.t.k=k) (p:Option Addr) (c:Nat):XOK qs cs (L.set j (kR x p c 0)) V:=by
 have hxm:=aF hx
 have hrd:=(h.tks x hxm).1.2.2.1.2.2.1
 obtain ⟨h1,_,_⟩:=h.stop hx hk p c 0 hrd
 refine ⟨h1,fun y hy=>?_,h.vs_set hx hk,(eM.1 h.nd).2⟩
 rcases cY hy with hy|rfl
 ·exact h.gd y hy
 ·exact ⟨⟨(h.gd x hxm).1.1,.inr rfl⟩,⟨.inr ⟨rfl,rfl⟩,rfl⟩,cA _⟩
theorem LgV.tok {T:List Tk} (h:LgV qs cs T V) {bs:List Bk} {hs:List Hd} {q:Rq} (pb:bs.Perm (kF V T)) (sb:BkW bs) (ph:hs.Perm (jB cs T)) (sh:nJ hs) (lb:(jJ T).length<=512) (lh:(jB cs T).length<=512) (hq:nF qs.length q) (lq:qs.length<=6) (lc:cs.length<=11):TOK qs cs bs hs q:=
 h.tb.some (cT (cD _ _) lb) lh pb sb ph sh hq lq lc
theorem XOK.go {k:Int} (h:XOK qs cs L (k::V)) {j:Nat} {x:TkU} (hx:L[j]?=some x) (hk:x.t.k=k) (hr:jE x.t=true) (p1:Option Addr) (c1:Nat) (u:Int) (hu:u<=x.t.q.rdy) {bs:List Bk} {hs:List Hd}
  (hK:TOK qs cs bs hs x.t.q) (pb:bs.Perm (kF V ((L.set j (kR x p1 c1 u)).map (·.t)))) (ph:hs.Perm (jB cs ((L.set j (kR x p1 c1 u)).map (·.t)))) {l:List Hp} (hF:kY qs cs bs hs x.t.q l) (p:Option Addr) (c:Nat) (hc:l.length<=c):XOK qs cs (L.set j (goU x p c l)) V:=by
 have hxm:=aF hx
 have hj:=(aC.1 hx).1
 obtain ⟨h1,_,_⟩:=h.stop hx hk p1 c1 u hu
 have e:(L.set j (kR x p1 c1 u)).map (·.t)=(L.map (·.t)).set j { x.t with hops:=[] }:=by rw [List.map_set]; rfl
 have e2:(L.set j (goU x p c l)).map (·.t)=((L.set j (kR x p1 c1 u)).map (·.t)).set j { (kR x p1 c1 u).t with hops:=l }:=by
  rw [e,List.set_set,List.map_set]; rfl
 have hy:((L.set j (kR x p1 c1 u)).map (·.t))[j]?=some (kR x p1 c1 u).t:=by
  rw [aY,List.getElem?_set_self hj]; rfl
 have hkV:k∉V:=(eM.1 h.nd).1
 have h3:=h1.resume hy rfl (by show x.t.k∉V; rw [hk]; exact hkV) hK pb ph hF
 refine ⟨by rw [e2]; exact h3,fun y hy=>?_,h.vs_set hx hk,(eM.1 h.nd).2⟩
 rcases cY hy with hy|rfl
 ·exact h.gd y hy
 ·obtain ⟨g1,g2,g3⟩:=h.gd x hxm
  have hne:x.t.hops≠[]:=fun e=>by unfold jE at hr; rw [e] at hr; cases hr
  have hst:x.st=1:=g2.1.elim (fun h=>h.2) (fun h=>absurd h.1 hne)
  have hrou:=hF.rou hK
  exact ⟨⟨g1.1,.inl hrou⟩,⟨.inl ⟨hrou.ne,hst⟩,g2.2⟩,hc⟩
end
section
section
variable {pq pc pt:Option Addr} {nq nc kq kc kt:Nat}
theorem yK {e4 e5 e6 e7 e8 e9 e10:Value} (bb:Nat) (κ:PH) (l:List TkU) (hO:fS 58 11 (.slice pt l.length kt) l.length (l.flatMap mD) κ) (hl:l.length<=100) (x:TkU) {j:Nat} (hj:j<l.length) (hne:∀ (i:Nat) (y:TkU),l[i]?=some y->(y.t.k=x.t.k↔i=j)) :
  Eng.Spec Tryz.prog (fv 35) [.pointer (some ⟨bb,0,none⟩),.agg #[int x.t.k,int x.t.q.src,int x.t.q.dst,int x.t.q.size,int x.t.q.rdy,int x.t.q.dln,int x.t.q.pri,.bool x.t.q.cus,.slice x.p x.t.hops.length x.c,int x.st,int x.un]] [] [sng bb (.cells #[.slice pq nq kq,.slice pc nc kc,.slice none 0 0,.slice pt l.length kt,e4,e5,e6,e7,e8,e9,e10] 104 (0,0)),κ] (fun r H'=>r=.tuple #[]/\∃ κ',fS 58 11 (.slice pt (l.set j x).length kt) (l.set j x).length ((l.set j x).flatMap mD) κ'/\H'=[sng bb (.cells #[.slice pq nq kq,.slice pc nc kc,.slice none 0 0,.slice pt l.length kt,e4,e5,e6,e7,e8,e9,e10] 104 (0,0)),κ']):=by
 have hix:=fun b3=>aJ9 κ _ l hO.at (by omega) b3 x hj hne
 have hbl:∃ bt,pt=some ⟨bt,0,none⟩:=by
  rcases hO.block with ⟨_,h2,_⟩|⟨b,cap,cur,e,_,hcap,_⟩
  ·rw [h2] at hj
   simp at hj
  ·simp only [aN] at e
   exact ⟨b,e.1⟩
 obtain ⟨bt,rfl⟩:=hbl
 have bx23_3:=rdB bb 104 [.slice pq nq kq,.slice pc nc kc,.slice none 0 0,.slice (some ⟨bt,0,none⟩) l.length kt,e4,e5,e6,e7,e8,e9,e10]
 have cb3:=rdC bx23_3 3
 clear bx23_3
 refine A8 Tryz.func35 Tryz.ntmps35 fun N β=>?_
 refine Aa ?_
 refine BV fun b3=>?_
 refine AW (ρ:=sng b3 (.cells #[int x.t.k,int x.t.q.src,int x.t.q.dst,int x.t.q.size,int x.t.q.rdy,int x.t.q.dln,int x.t.q.pri,.bool x.t.q.cus,.slice x.p x.t.hops.length x.c,int x.st,int x.un] 58 (0,0))) fL ?_
 have cw:=rdB b3 58 [int x.t.k,int x.t.q.src,int x.t.q.dst,int x.t.q.size,int x.t.q.rdy,int x.t.q.dln,int x.t.q.pri,.bool x.t.q.cus,.slice x.p x.t.hops.length x.c,int x.st,int x.un]
 refine AE ?_;refine Aab ?_;refine Acj ?_;refine Aac ?_;refine BR ?_;refine A5 (hix b3) ?_;refine Abv ?_;refine BD ?_;refine Aai ?_
 refine A9 (.q 0 (.q 1 (.q 2 (.q 3 (.q 4 (.q 5 (.q 6 (.q 7 (.l 8 .b .nil))))))))) [] rfl (by kernel_rfl) fK ?_
 refine Adn ?_;refine Ac3 ?_;refine A7 ?_;refine BH ?_
 focus ((refine BZ ?_; refine' D7 rfl (DU jX (a:=x) j hO rfl (bZ _) rfl (by unfold mD; exact iF) rfl fL hj) rfl rfl (fun _ _ _ w hw=>hw.sel Sel.nil) _; rintro _ _ ⟨rfl,κ1,hO1,rfl⟩))
 refine BC ?_;exact BJ (gY rfl) fQ fK ⟨rfl,κ1,hO1,rfl⟩
end
end
section
variable {ρ τ:PH} {Γ:List PH} {pq pc pt:Option Addr} {kq kc kt:Nat} {qs:List Int} {cs:List Ct}
structure aN6 (Γ:List PH) (ν:PH) (L:List TkU) (V:List Int) (pt:Option Addr) (kt:Nat) (pv:Option Addr) (kv:Nat) (e8 e9:Value) (n:Nat) (χ μ ω π:PH):Prop where
 tk:fS 58 11 (.slice pt L.length kt) L.length (L.flatMap mD) χ
 hp:∀ x∈L,∃ γ∈π::Γ,SlE gE 4 γ (.slice x.p x.t.hops.length x.c) x.t.hops
 vi:gC ν (.slice pv V.length kv) V
 vc:V.length<=kv
 o8:∃ m8 m9:List Int,fS 3 1 e8 m8.length (m8.flatMap Eng.encI) μ/\fS 3 1 e9 m9.length (m9.flatMap Eng.encI) ω/\m8.length+m9.length=n
theorem aCz {σ υ:PH} {pb ph:Option Addr} {kb kh:Nat} {bs:List Bk} {hs:List Hd} {x:TkU} (hT:oF ρ τ σ υ pq pc pb ph kq kc kb kh qs cs bs hs) (hK:TOK qs cs bs hs x.t.q) :
  jM Tryz.prog (fv 213) [.agg #[.slice pq qs.length kq,.slice pc cs.length kc,.slice pb bs.length kb,.slice ph hs.length kh],.agg #[int x.t.k,int x.t.q.src,int x.t.q.dst,int x.t.q.size,int x.t.q.rdy,int x.t.q.dln,int x.t.q.pri,.bool x.t.q.cus,.slice x.p x.t.hops.length x.c,int x.st,int x.un],int x.t.q.src,int x.t.q.rdy] [ρ,τ,σ,υ] (fun r χ=>∃ (u:Value) (f:Bool),r=.tuple #[u,.bool f]/\(f=true->∃ l,kY qs cs bs hs x.t.q l/\fS 62 4 u l.length (l.flatMap gE) χ)):=
 Spec.mono (aE7 hT hK) (fun r H' h=>by
  obtain ⟨χ,⟨l,u,hF,rfl,hO⟩|rfl,rfl⟩:=h
  ·exact ⟨χ,⟨u,true,rfl,fun _=>⟨l,hF,hO⟩⟩,rfl⟩
  ·exact ⟨χ,⟨_,false,rfl,fun h=>by cases h⟩,rfl⟩)
theorem aMj {V:List Int} {T:List Tk} {σ υ:PH} {pb ph:Option Addr} {kb kh:Nat} {bs:List Bk} {hs:List Hd} (hq:gC ρ (.slice pq qs.length kq) qs) (hc:jW τ (.slice pc cs.length kc) cs) (hcap:cs.length<=kc) (lq:qs.length<=9223372036854775807) (lc:cs.length<=9223372036854775807) (a1:bs.Perm (kF V T)) (a3:hs.Perm (jB cs T)) (o1:fS 118 4 (.slice pb bs.length kb) bs.length (bs.flatMap gX) σ) (o2:fS 259 5 (.slice ph hs.length kh) hs.length (hs.flatMap hY) υ) (lb:(jJ T).length<=512) (lh:(jB cs T).length<=512):oF ρ τ σ υ pq pc pb ph kq kc kb kh qs cs bs hs:=
 ⟨hq,hc,hcap,lq,lc,o1.at,by rw [a1.length_eq]; have:=cD (fun b:Bk=>decide (b.k∉V)) (jJ T); unfold kF; omega,o2.at,by rw [a3.length_eq]; omega⟩
theorem aHr (hq:gC ρ (.slice pq qs.length kq) qs) (hc:jW τ (.slice pc cs.length kc) cs) (hcap:cs.length<=kc) (lq:qs.length<=9223372036854775807) (lc:cs.length<=9223372036854775807) (hp:gD qs cs=0) (lq6:qs.length<=6) (lc11:cs.length<=11) {L:List TkU} {k:Int} {V:List Int} {pv:Option Addr} {kv n:Nat} {ν χ μ ω π:PH} (b0:Nat) (e6 e7 e8 e9 e10:Value) (hn:n<=100) (hvl:V.length<=1000) (hX:XOK qs cs L (k::V)) (hM:aN6 Γ ν L (k::V) pt kt pv kv e8 e9 n χ μ ω π) :
  aAq Tryz.prog (fv 161) [.pointer (some ⟨b0,0,none⟩)] (ρ::τ::ν::Γ) [sng b0 (.cells #[.slice pq qs.length kq,.slice pc cs.length kc,.slice none 0 0,.slice pt L.length kt,int 0,.slice pv (k::V).length kv,e6,e7,e8,e9,e10] 104 (0,0)),χ,μ,ω,π] (fun r H'=>r=.tuple #[]/\∃ (L':List TkU) (pv':Option Addr) (kv':Nat) (e8' e9':Value) (χ' μ' ω' π':PH),L'.length=L.length/\XOK qs cs L' V/\(∀ j:Nat,(j:Int)+1≠k->L'[j]?=L[j]?)/\aN6 Γ ν L' V pt kt pv' kv' e8' e9' (n+1) χ' μ' ω' π'/\H'=[sng b0 (.cells #[.slice pq qs.length kq,.slice pc cs.length kc,.slice none 0 0,.slice pt L'.length kt,int 0,.slice pv' V.length kv',e6,e7,e8',e9',e10] 104 (0,0)),χ',μ',ω',π'])
   (fun v H'=>v=gvU/\H'=[]):=by
 obtain ⟨j,x,hx,hk,hr⟩:=hX.at (k:=k) (by simp)
 subst hk
 obtain ⟨hO,hH,hV,hvc,m8,m9,h8,h9,hmn⟩:=hM
 have hxm:=aF hx
 have hj:=(aC.1 hx).1
 have hl4:=hX.len
 have o8:=kL _ _ _ _ h8
 have o9:=kL _ _ _ _ h9
 obtain ⟨pv2,kv2,hcut,hV2,hvc2⟩:∃ (pv2:Option Addr) (kv2:Nat),Value.slice (oH pv kv 1 1) ((x.t.k::V).length-1) (kv-1)=.slice pv2 V.length kv2/\gC ν (.slice pv2 V.length kv2) V/\V.length<=kv2:=
  ⟨oH pv kv 1 1,kv-1,by simp,by have:=aSk Eng.encI_len hV hvc (i:=1) (by simp) rfl; simpa using this,by simp at hvc; omega⟩
 obtain ⟨_,_,e,hrv⟩:=SlE.val Eng.encI_len hV
 simp only [aN] at e
 obtain ⟨rfl,_,rfl⟩:=e
 obtain ⟨bv,ov,rfl,g1⟩:=hrv.int (i:=0) (show (x.t.k::V)[0]?=some x.t.k from rfl)
 rw [eO] at g1
 have hvn:0<(x.t.k::V).length:=by simp
 have hfd:=qW (pq:=pq) (pc:=pc) (kq:=kq) (kc:=kc) (qs:=qs) (cs:=cs) hO.at (by omega) hx (fun i y hy=>hX.num hy)
 obtain ⟨γ,hγ,hgx⟩:=hH x hxm
 obtain ⟨gd1,gd2,gd3⟩:=hX.gd x hxm
 have hU:UOK qs cs γ x:=⟨hgx,gd1.1,gd1.2,gd2,gd3⟩
 have hps:=yF (pq:=pq) (pc:=pc) (kq:=kq) (kc:=kc) hU hr
 have hrd0:=gd1.1.2.2.1.2.2.1
 have hb0:=sR hr
 have hst:=yI hU hb0 x.t.q.rdy
 have hst0:=yI hU hb0 0
 have hset:=fun p1 c1=>yK (e4:=int 0) (e5:=.slice pv2 V.length kv2) (e6:=e6) (e7:=e7) (e8:=e8) (e9:=e9) (e10:=e10) (pq:=pq) (pc:=pc) (nq:=qs.length) (nc:=cs.length) (kq:=kq) (kc:=kc) b0 χ L hO (by omega) (kR x p1 c1 x.t.q.rdy) hj (fun i y hy=>(hX.uniq hx i y hy:y.t.k=x.t.k↔i=j))
 refine aHp (cap:=[]) Tryz.func161 rfl rfl Tryz.ntmps161 rfl envZ (fun N β=>?_)
 have xl0:RdN (sng b0 (.cells #[.slice pq qs.length kq,.slice pc cs.length kc,.slice none 0 0,.slice pt L.length kt,int 0,.slice (some ⟨bv,ov,none⟩) (x.t.k::V).length kv,e6,e7,e8,e9,e10] 104 (0,0))) b0 0 [.slice pq qs.length kq,.slice pc cs.length kc,.slice none 0 0,.slice pt L.length kt]:=(iB (k:=0) (xs:=[.slice pq qs.length kq,.slice pc cs.length kc,.slice none 0 0,.slice pt L.length kt,int 0,.slice (some ⟨bv,ov,none⟩) (x.t.k::V).length kv,e6,e7,e8,e9,e10]) rfl).rd
 have bx59_3:=rdB b0 104 [.slice pq qs.length kq,.slice pc cs.length kc,.slice none 0 0,.slice pt L.length kt,int 0,.slice (some ⟨bv,ov,none⟩) (x.t.k::V).length kv,e6,e7,e8,e9,e10]
 have xc0:=rdC bx59_3 0
 have xc1:=rdC bx59_3 1
 have xc2:=rdC bx59_3 2
 have xc3:=rdC bx59_3 3
 have xc4:=rdC bx59_3 4
 have xc5:=rdC bx59_3 5
 have xc6:=rdC bx59_3 6
 have xc7:=rdC bx59_3 7
 have xc8:=rdC bx59_3 8
 have xc9:=rdC bx59_3 9
 have xc10:=rdC bx59_3 10
 clear bx59_3
 refine AC ?_
 refine DG (X:=Nat) [0] (fun _=>True) (fun z=>[(2,.pointer (some ⟨z,0,none⟩))]) (fun z=>[sng b0 (.cells #[.slice pq qs.length kq,.slice pc cs.length kc,.slice none 0 0,.slice pt L.length kt,int 0,.slice (some ⟨bv,ov,none⟩) (x.t.k::V).length kv,e6,e7,e8,e9,e10] 104 (0,0)),χ,μ,ω,π,sng z (.cells #[int x.t.k,int x.t.q.src,int x.t.q.dst,int x.t.q.size,int x.t.q.rdy,int x.t.q.dln,int x.t.q.pri,.bool x.t.q.cus,.slice x.p x.t.hops.length x.c,int x.st,int x.un] 58 (0,0))]) fT ?_ ?_
 ·refine A9 (.q 0 (.q 1 (.q 2 (.q 3 (.q 4 (.q 5 (.q 6 (.q 7 (.q 8 (.q 9 (.q 10 (.l2 11 .e (.q 12 (.q 13 (.p 14 (.l 15 .e (.l 16 .b (.q 17 .nil)))))) 15 .e (.l 11 .e (.q 12 (.q 13 (.p 14 (.l 16 .b (.q 17 .nil)))))))))))))))))) [] rfl (by kernel_rfl) Sel.nil ?_
  repeat' (first
   | (refine AP ?_)
   | (refine BP ?_)
   | (refine C6 ?_)
   | (refine AN ?_)
   | (refine AR ?_)
   | (refine DT ?_)
   | (refine A4 ?_)
   | (refine A7 ?_)
   | (refine FT ?_)
   | (focus ((refine BQ rfl hfd rfl rfl rdZ rfl rfl ?_; rintro _ rfl)))
   | (focus ((refine BZ (BQ rfl hfd rfl rfl rdZ rfl rfl ?_); rintro _ rfl)))
   | (refine BC ?_)
   | (refine EP ?_ ?_)
   | (focus ((refine BZ ?_; refine' D7 rfl _ rfl rfl _ _; rotate_left; (focus (apply DB; exact rfl; exact rfl; exact fL; exact iF; exact rfl; exact rfl)); (focus (rintro _ _ ⟨_,rfl⟩ w hw; exact hw.sel fK)); rintro _ _ ⟨rfl,rfl⟩)))
   | (refine E0 fun b=>?_)
   | (refine EZ fun b=>?_)
   | fail)
  all_goals exact CK _ trivial fP fK
 rintro b2 -;refine AW (ρ:=sng b2 _) fL ?_
 have bx94_3:=rdB b2 58 [int x.t.k,int x.t.q.src,int x.t.q.dst,int x.t.q.size,int x.t.q.rdy,int x.t.q.dln,int x.t.q.pri,.bool x.t.q.cus,.slice x.p x.t.hops.length x.c,int x.st,int x.un]
 have z0:=rdC bx94_3 0
 have z1:=rdC bx94_3 1
 have z2:=rdC bx94_3 2
 have z3:=rdC bx94_3 3
 have z4:=rdC bx94_3 4
 have z5:=rdC bx94_3 5
 have z6:=rdC bx94_3 6
 have z7:=rdC bx94_3 7
 have z8:=rdC bx94_3 8
 have z9:=rdC bx94_3 9
 have z10:=rdC bx94_3 10
 clear bx94_3
 have zw:=rdB b2 58 [int x.t.k,int x.t.q.src,int x.t.q.dst,int x.t.q.size,int x.t.q.rdy,int x.t.q.dln,int x.t.q.pri,.bool x.t.q.cus,.slice x.p x.t.hops.length x.c,int x.st,int x.un]
 have xp1:RdN (sng b0 (.cells #[.slice pq qs.length kq,.slice pc cs.length kc,.slice none 0 0,.slice pt L.length kt,int 0,.slice pv2 V.length kv2,e6,e7,e8,e9,e10] 104 (0,0))) b0 0 [.slice pq qs.length kq,.slice pc cs.length kc]:=(iB (k:=0) (xs:=[.slice pq qs.length kq,.slice pc cs.length kc,.slice none 0 0,.slice pt L.length kt,int 0,.slice pv2 V.length kv2,e6,e7,e8,e9,e10]) rfl).rd
 have bx107_3:=rdB b0 104 [.slice pq qs.length kq,.slice pc cs.length kc,.slice none 0 0,.slice pt L.length kt,int 0,.slice pv2 V.length kv2,e6,e7,e8,e9,e10]
 have xd0:=rdC bx107_3 0
 have xd1:=rdC bx107_3 1
 have xd2:=rdC bx107_3 2
 have xd3:=rdC bx107_3 3
 have xd4:=rdC bx107_3 4
 have xd5:=rdC bx107_3 5
 have xd6:=rdC bx107_3 6
 have xd7:=rdC bx107_3 7
 have xd8:=rdC bx107_3 8
 have xd9:=rdC bx107_3 9
 have xd10:=rdC bx107_3 10
 clear bx107_3
 refine Aaw ?_;refine BO ?_;refine Aac ?_
 focus ((refine CN (FC (i:=1) (s:=1) rfl rfl rfl rfl (by simp)) rfl rfl rfl ?_))
 refine Acj ?_
 focus ((rw [hcut]))
 refine BK ?_;refine Aak ?_
 refine A9 (.q 0 (.q 1 (.q 2 (.q 3 (.q 4 (.q 5 (.q 6 (.q 7 (.q 8 (.q 9 (.q 10 (.l 11 .e (.q 12 (.q 13 (.q 14 (.q 15 (.q 16 (.q 17 (.q 18 .nil))))))))))))))))))) [] rfl (by kernel_rfl) Sel.nil ?_
 refine Adn ?_;refine AR ?_;refine AR ?_;refine A7 ?_;refine Aef ?_;refine A4 ?_;refine Aaj ?_
 focus ((refine BZ ?_; refine BQ rfl hps rfl rfl (fun z hz=>by rcases bI.1 hz with rfl; rcases aE.1 hγ with h|h; exact .inr (by simp [h]); exact .inl (by simp [h])) rfl rfl ?_; rintro _ rfl))
 refine AP ?_;refine C6 ?_;refine C6 ?_;refine C6 ?_;refine BP ?_;refine BP ?_;refine Ac ?_;refine AC ?_
 refine A9 (.q 0 (.q 1 (.q 2 (.q 3 (.q 4 (.q 5 (.q 6 (.q 7 (.q 8 (.l 9 .e (.l 10 .b .nil))))))))))) [] rfl (by kernel_rfl) Sel.nil ?_
 refine Adn ?_;refine Aef ?_;refine A4 ?_;refine Ac3 ?_
 focus ((refine BZ ?_; refine BQ rfl hst rfl rfl (fun z hz=>by rcases bI.1 hz with rfl; rcases aE.1 hγ with h|h; exact .inr (by simp [h]); exact .inl (by simp [h])) rfl rfl ?_; rintro _ ⟨p1,c1,rfl⟩))
 focus ((refine BZ ?_; refine CS rfl (hset p1 c1) rfl rfl fU rdZ rfl rfl (fun _ _ _ w hw=>hw.sel Sel.nil) ?_; rintro _ _ ⟨rfl,χ1,hO1,rfl⟩; simp only [aG,aH]))
 refine BC ?_
 obtain ⟨hlg1,htk1,hre1⟩:=hX.stop hx rfl p1 c1 x.t.q.rdy (cH _)
 have hlen1:(L.set j (kR x p1 c1 x.t.q.rdy)).length=L.length:=cQ
 have hg1:=fun {bs:List Bk} {hs:List Hd} (a1:bs.Perm _) a2 (a3:hs.Perm _) a4 a5 a6=>LgV.tok (q:=x.t.q) hlg1 a1 a2 a3 a4 a5 a6 gd1.1 lq6 lc11
 have hgo:=fun {bs:List Bk} {hs:List Hd} (hK:TOK qs cs bs hs x.t.q) a2 a3 {l:List Hp} (hF:kY qs cs bs hs x.t.q l) p c hc=>hX.go hx rfl hr p1 c1 x.t.q.rdy (cH _) hK a2 a3 hF p c hc
 have hH1:∀ y∈L.set j (kR x p1 c1 x.t.q.rdy),∃ γ∈π::Γ,SlE gE 4 γ (.slice y.p y.t.hops.length y.c) y.t.hops:=fun y hy=>by
  rcases cY hy with hy|rfl
  ·exact hH y hy
  ·exact ⟨π,by simp,rA _ _ _⟩
 have hset2:=fun (y:TkU) (hy:y.t.k=x.t.k)=>yK (e4:=int 0) (e5:=.slice pv2 V.length kv2) (e6:=e6) (e7:=e7) (e8:=e8) (e9:=e9) (e10:=e10) (pq:=pq) (pc:=pc) (nq:=qs.length) (nc:=cs.length) (kq:=kq) (kc:=kc) b0 χ1 (L.set j (kR x p1 c1 x.t.q.rdy)) hO1 (by omega) y (j:=j) (by omega) (fun i z hz=>by
  rw [hy];rw [List.getElem?_set] at hz
  split at hz
  ·rename_i e
   subst e
   injection hz with hz
   subst hz
   exact ⟨fun _=>rfl,fun _=>rfl⟩
  ·exact hX.uniq hx i z hz)
 have hss:∀ y,(L.set j (kR x p1 c1 x.t.q.rdy)).set j y=L.set j y:=fun y=>List.set_set ..
 have hset2:=fun (y:TkU) (hy:y.t.k=x.t.k)=>by
  have:=hset2 y hy
  rw [hss,hlen1] at this
  rw [show (L.set j y).length=L.length from cQ] at this
  exact this
 rw [hlen1] at hO1
 have htab:=uT (pq:=pq) (pc:=pc) (kq:=kq) (kc:=kc) hq hc hcap lq lc hp (L:=L.set j (kR x p1 c1 x.t.q.rdy)) (χ:=χ1) (Γ:=π::Γ) (pt:=pt) (kt:=kt) ⟨by rw [hlen1]; exact (show SlE mD 11 χ1 (.slice pt L.length kt) (L.set j (kR x p1 c1 x.t.q.rdy)) from by have:=hO1.at; unfold SlE; rw [hlen1]; exact this),hH1⟩ (by omega) htk1 hV2 hvl hre1 b0 e6 e7 e8 e9 e10
 rw [hlen1] at htab
 generalize L.set j (kR x p1 c1 x.t.q.rdy)=L1 at *
 refine AC ?_
 refine A9 (.q 0 (.q 2 (.q 3 (.q 4 (.l 1 .e (.l 5 .e (.q 6 (.q 7 (.q 8 (.q 9 (.q 10 .nil))))))))))) [] rfl (by kernel_rfl) Sel.nil ?_
 refine AP ?_;refine A7 ?_;refine Aa0 ?_
 focus ((refine BZ ?_; refine G5 rfl htab rfl rfl (fun z hz=>by simp only [aE] at hz; rcases hz with h|h|h|h|h|h; exact .inr (by simp [h]); exact .inl (by simp [h]); exact .inl (by simp [h]); exact .inr (by simp [h]); exact .inr (by simp [h]); exact .inl (by simp [h])) rfl rfl (by rintro v H' ⟨rfl,rfl⟩ a w hd hsw; exact ⟨hd,_,[],rfl,⟨rfl,rfl⟩,(hsw.rsub fQ).sel Sel.nil⟩) ?_; rintro _ _ ⟨bs,hs,pb,ph,kb,kh,σ,υ,rfl,pp1,ss1,pp2,ss2,oo1,oo2,lb,lh,rfl⟩; simp only [aG,aH]))
 focus ((refine BZ ?_; refine C8 rfl (aCz (aMj hq hc hcap lq lc pp1 pp2 oo1 oo2 lb lh) (hg1 pp1 ss1 pp2 ss2 lb lh)) rfl rfl rdZ rfl rfl ?_; rintro _ _ ⟨κu,⟨u,f,rfl,hfu⟩,rfl⟩; simp only [aG,aH]))
 refine AP ?_;refine C6 ?_;refine C6 ?_;refine BP ?_;refine Ac ?_
 cases f with
 | true =>
  obtain ⟨l,hF,hOu⟩:=hfu rfl
  have hK:=hg1 pp1 ss1 pp2 ss2 lb lh
  have hll:=(hF.rou hK).len
  obtain ⟨pu,cu,rfl⟩:=hOu.form
  have hrs:=aCw hU hb0 hOu.at hll
  refine AM ?_;refine Aa5 ?_;refine AQ rfl ?_;refine AC ?_
  refine A9 (.q 0 (.q 1 (.q 2 (.q 3 (.q 4 (.q 5 (.q 6 (.q 7 (.q 8 (.l 9 .e (.l 10 .b .nil))))))))))) [] rfl (by kernel_rfl) Sel.nil ?_
  refine Adn ?_;refine A7 ?_;refine Aa0 ?_;refine A4 ?_;refine Aaj ?_
  focus ((refine BZ ?_; refine C8 rfl hrs rfl rfl (fun z hz=>by simp only [aE,bD,or_false] at hz; rcases hz with rfl|rfl; (rcases aE.1 hγ with h|h; exact .inr (by simp [h]); exact .inl (by simp [h])); exact .inr (by simp)) rfl rfl ?_; rintro _ _ ⟨κk,⟨p2,c2,rfl,hOk⟩,rfl⟩; simp only [aG,aH]))
  have hs2:=hset2 (goU x p2 c2 l) rfl
  rw [hlen1] at hs2;refine BZ ?_
  refine CS rfl hs2 rfl rfl fU rdZ rfl rfl (fun _ _ _ w hw=>hw.sel Sel.nil) ?_
  rintro _ _ ⟨rfl,χ2,hO2,rfl⟩;simp only [aG,aH];refine BC ?_
  skip
  refine A9 (.p 0 (.q 1 (.q 2 (.q 3 (.q 4 (.q 5 (.q 6 (.q 7 (.l 8 .e (.l 9 .b (.q 10 (.q 11 (.q 12 (.l 13 .b .nil)))))))))))))) [] rfl (by kernel_rfl) Sel.nil ?_
  refine CG ?_;refine AP ?_;refine Acb ?_;refine Aaj ?_
  refine BY fun b=>?_
  focus ((refine BZ ?_; refine a_b rfl (CA (by_:=8) (s:=1) (news:=[int x.t.k]) rfl rfl rfl rfl rfl rfl rfl h8 fL (fR gN) rfl iF (by omega) (by simp only [maxLen]; omega) (by omega)) rfl rfl rfl (fun _ _ _ w hw=>hw.sel Sel.nil) ?_; rintro u1 _ ⟨μ1,hO8,rfl⟩; have o81:=kL _ _ _ _ hO8))
  refine Abo ?_;refine CH ?_;refine Adr ?_;refine BB ?_;rw [hss] at hO2
  refine DF (ρ:=π) (σ:=κk) fL fL (fun π' g1 g2=>?_)
  have hcap2:l.length<=c2:=by
   obtain ⟨_,_,e,hcap⟩:=hOk.formC
   simp only [aN] at e;rw [e.2.2]; exact hcap
  exact GB (H':=[sng b0 (.cells #[.slice pq qs.length kq,.slice pc cs.length kc,.slice none 0 0,.slice pt L.length kt,int 0,.slice pv2 V.length kv2,e6,e7,u1,e9,e10] 104 (0,0)),χ2,μ1,ω,π']) (gY rfl) fQ fK ⟨rfl,L.set j (goU x p2 c2 l),pv2,kv2,u1,e9,χ2,μ1,ω,π',cQ,hgo hK pp1 pp2 hF p2 c2 hcap2,fun i hi=>eQ (by have:=hX.num hx; omega),⟨hO2,fun y hy=>by
   rcases cY hy with hy|rfl
   ·obtain ⟨γ',h1,h2⟩:=hH y hy
    rcases aE.1 h1 with rfl|h1
    ·exact ⟨π',by simp,h2.mono g1⟩
    ·exact ⟨γ',by simp [h1],h2⟩
   ·exact ⟨π',by simp,hOk.at.mono g2⟩,hV2,hvc2,m8 ++ [x.t.k],m9,by rw [aB,aX]; exact hO8,h9,by rw [aB,bM]; omega⟩,by rw [cQ]⟩
 | false =>
  rcases Bool.eq_false_or_eq_true x.t.q.cus with hcu|hcu
  ·replace z7:=z7.trans (congrArg (fun b=>some (Value.bool b)) hcu)
   refine AM ?_;refine Aa5 ?_;refine AJ rfl ?_;refine Aa ?_;refine AG ?_;refine Adg ?_;refine Aaa ?_;refine AQ rfl ?_;refine AA ?_;refine CB ?_
   focus ((refine' CN _ rfl rfl rfl _; rotate_left; (apply E4; exact rfl; exact rfl)))
   exact E5 rfl rfl fQ Sel.nil ⟨rfl,rfl⟩
  ·replace z7:=z7.trans (congrArg (fun b=>some (Value.bool b)) hcu)
   refine AM ?_;refine Aa5 ?_;refine AJ rfl ?_;refine Aa ?_;refine AG ?_;refine Adg ?_;refine Aaa ?_;refine AJ rfl ?_;refine AC ?_
   refine A9 (.q 0 (.q 1 (.q 2 (.q 3 (.q 4 (.q 5 (.q 6 (.q 7 (.q 8 (.q 9 (.q 10 (.q 11 (.l 12 .e (.l 13 .b .nil)))))))))))))) [] rfl (by kernel_rfl) Sel.nil ?_
   refine Adn ?_;refine Aef ?_;refine A4 ?_;refine Ac3 ?_;refine A4 ?_;refine Aaj ?_
   focus ((refine BZ ?_; refine BQ rfl hst0 rfl rfl (fun z hz=>by rcases bI.1 hz with rfl; rcases aE.1 hγ with h|h; exact .inr (by simp [h]); exact .inl (by simp [h])) rfl rfl ?_; rintro _ ⟨p2,c2,rfl⟩))
   have hs2:=hset2 (kR x p2 c2 0) rfl
   rw [hlen1] at hs2;refine BZ ?_
   refine CS rfl hs2 rfl rfl fU rdZ rfl rfl (fun _ _ _ w hw=>hw.sel Sel.nil) ?_
   rintro _ _ ⟨rfl,χ2,hO2,rfl⟩;simp only [aG,aH];refine BC ?_
   skip
   refine A9 (.p 0 (.q 1 (.q 2 (.q 3 (.q 4 (.q 5 (.q 6 (.q 7 (.l 8 .e (.l 9 .b (.q 10 (.q 11 (.q 12 (.l 13 .b .nil)))))))))))))) [] rfl (by kernel_rfl) Sel.nil ?_
   refine CG ?_;refine AP ?_;refine Acb ?_;refine Aaj ?_
   refine BY fun b=>?_
   focus ((refine BZ ?_; refine a_b rfl (CA (by_:=8) (s:=1) (news:=[int x.t.k]) rfl rfl rfl rfl rfl rfl rfl h9 fL (fR gN) rfl iF (by omega) (by simp only [maxLen]; omega) (by omega)) rfl rfl rfl (fun _ _ _ w hw=>hw.sel Sel.nil) ?_; rintro u1 _ ⟨ω1,hO8,rfl⟩; have o81:=kL _ _ _ _ hO8))
   refine Abo ?_;refine CH ?_;refine Adr ?_;refine BB ?_;rw [hss] at hO2
   exact GB (H':=[sng b0 (.cells #[.slice pq qs.length kq,.slice pc cs.length kc,.slice none 0 0,.slice pt L.length kt,int 0,.slice pv2 V.length kv2,e6,e7,e8,u1,e10] 104 (0,0)),χ2,μ,ω1,π]) (gY rfl) fQ fK ⟨rfl,L.set j (kR x p2 c2 0),pv2,kv2,e8,u1,χ2,μ,ω1,π,cQ,hX.drop hx rfl p2 c2,fun i hi=>eQ (by have:=hX.num hx; omega),⟨hO2,fun y hy=>by
    rcases cY hy with hy|rfl
    ·exact hH y hy
    ·exact ⟨π,by simp,rA _ _ _⟩,hV2,hvc2,m8,m9 ++ [x.t.k],h8,by rw [aB,aX]; exact hO8,by rw [aB,bM]; omega⟩,by rw [cQ]⟩
end
end Go.Proofs.YtnijkofdlepfjaaGreat
