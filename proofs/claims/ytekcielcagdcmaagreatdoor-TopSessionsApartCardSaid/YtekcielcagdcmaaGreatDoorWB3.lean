/- Texts of this proof, one after the other; no conditions. -/
import Derived.Lib.AppendZerosOnto
import Derived.Lib.Overlaps
import Derived.WideKeyRuns
import Derived.Laws.Externs
import Derived.Test.YtekcielcagdcmaaGreatDoorWB2
import Derived.Test.YtekcielcagdcmaaGreatDoorWB1
import Derived.Test.YtekcielcagdcmaaGreatDoorWB0
set_option linter.all false
/- Copies into an owned block; zeros appended to a beginning of an owned block that has no room; slices.overlaps of two blocks. No conditions. -/
namespace Go.Eng
variable {C : Cx} {D : List Deferred} {R H : List PH} {L : Env} {K : List It}
variable {dst : Option Tmp} {ty : TypeId} {pos : String} {aft : Array Edge} {g : Option (Nat × Bool)}
theorem DL {x y : Operand} {t t2 e : TypeId} {s b o dl dc sl sc b2 o2 : Nat} {cur : Array Value} {news : List Value} {H' : List PH}
    (hx : evalE L x = some (.slice (some ⟨b, o, none⟩) dl dc)) (hy : evalE L y = some (.slice (some ⟨b2, o2, none⟩) sl sc)) (ht : elemP C.P t = some e) (hs : szP C.P e = some s)
    (htk : Take (sng b (.cells cur e (0, 0))) H H') (hc : Cells C.N R H b2 o2 news) (hn : news.length = Nat.min sl dl * s) (h1 : ∀ u ∈ news, u.oneCell' = true) (hfit : o + news.length ≤ cur.size) :
    Loud C R H L ⟨dst, .call ⟨.builtin .copy, #[x, y], #[t, t2]⟩, ty, pos, aft, g⟩ (fun u H2 => u = .int .i64 ((Nat.min sl dl : Nat) : Int) ∧ H2 = sng b (.cells (cur.toList.take o ++ news ++ cur.toList.drop (o + news.length)).toArray e (0, 0)) :: H') := by
  refine ⟨fun a w hxx hsat next Q hnx => ?_⟩
  obtain ⟨ti, hi, rfl⟩ : ∃ i, C.P.info? e = some i ∧ i.size = s := by
    unfold szP at hs
    cases hi : C.P.info? e with
    | none => simp [hi] at hs
    | some i => simp only [hi, Option.some.injEq] at hs; exact ⟨i, rfl, hs⟩
  have htu := und_elem ht
  have e1 := hxx x (by simp [Op.operands, Call.operands]) _ hx
  have e2 := hxx y (by simp [Op.operands, Call.operands]) _ hy
  have hg : w.heap[b]? = some (.cells cur e (0, 0)) := hsat.own htk
  have hf : (Builtin.firstCells ti.size (Nat.min sl dl) (.slice (some ⟨b2, o2, none⟩) sl sc)).run C.P w = .ok news.toArray w := run_firstCells_some (P := C.P) w ti.size (Nat.min sl dl) ⟨b2, o2, none⟩ sl sc news hn (hc.cell hsat)
  have hst := run_storeCells_at C.P b o e news 0 cur w hg (by simpa using hfit) h1
  have hr : (Builtin.copy_ #[t, t2] ty #[.slice (some ⟨b, o, none⟩) dl dc, .slice (some ⟨b2, o2, none⟩) sl sc]).run C.P w = .ok (.int .i64 ((Nat.min sl dl : Nat) : Int)) (w.setRow b (cur.toList.take o ++ news ++ cur.toList.drop (o + news.length)).toArray) := by
    simp [Builtin.copy_, run_underlying htu, Builtin.lenOf, sizeOf, typeInfo, hi, hf, goInt]
    simpa using congrArg (fun r => r.andThen fun _ w' => Result.ok (Value.int .i64 ((Nat.min sl dl : Nat) : Int)) w') hst
  generalize hnew : (cur.toList.take o ++ news ++ cur.toList.drop (o + news.length)).toArray = new at hr hnx
  have hexec : (execOp a.eval ⟨dst, .call ⟨.builtin .copy, #[x, y], #[t, t2]⟩, ty, pos, aft, g⟩).run C.P w = .ok (.value (.int .i64 ((Nat.min sl dl : Nat) : Int))) (w.setRow b new) := by
    simp [execOp, resolve, e1, e2, invoke, builtin, hr]
  refine wpIn_value (by intro c; simp) hexec (hnx _ _ _ ⟨rfl, rfl⟩ (hsat.turn htk ?_ (setRow_heap w b cur _ e _ hg) (fun k hk => setRow_other w b k _ hk)))
  simp
theorem EH {x y : Operand} {t tx e : TypeId} {s by_ b i k cap : Nat} {z : Value} {olds : List Value} (hx : evalE L x = some (.slice (some ⟨b, 0, none⟩) i cap)) (hy : evalE L y = some (.int .i64 (k : Int))) (ht : elemP C.P t = some e) (htx : kindP C.P tx = some .i64) (hs : szP C.P e = some s) (hz : zeroP C.P e = some z) (hb : bytesP C.P e = some by_)
    (hzs : z.cells.size = s) (hs0 : 0 < s) (hk : 0 < k) (hc : Cells C.N R H b 0 olds) (hol : olds.length = i * s) (hno : cap < i + k) (hmax : i + k ≤ maxLen) (hby : (i + k) * by_ ≤ 140737488355328) :
    Loud C R H L ⟨dst, .call ⟨.builtin .append, #[x, y], #[t, tx]⟩, ty, pos, aft, g⟩ (fun u H2 => ∃ b' cap' cur, (u = .slice (some ⟨b', 0, none⟩) (i + k) cap' ∧ H2 = sng b' (.cells cur e (0, 0)) :: H) ∧ i + k ≤ cap' ∧ cap' ≤ maxLen ∧ cur.size = cap' * s ∧ cur.toList.take (i * s) = olds) := by
  refine ⟨fun a w hxx hsat next Q hnx => ?_⟩
  obtain ⟨ti, hi, rfl, hiz, rfl⟩ := info_of hs hz hb
  have htu := und_elem ht
  have e1 := hxx x (by simp [Op.operands, Call.operands]) _ hx
  have e2 := hxx y (by simp [Op.operands, Call.operands]) _ hy
  have hold : (Builtin.firstCells ti.size i (.slice (some ⟨b, 0, none⟩) i cap)).run C.P w.drew = .ok olds.toArray w.drew := run_firstCells_some (P := C.P) w.drew ti.size i ⟨b, 0, none⟩ i cap olds hol (hc.cell hsat.drew)
  have hkb : k * ti.bytes ≤ (i + k) * ti.bytes := Nat.mul_le_mul_right _ (by omega)
  have hr := Lib.run_append_grow_zeros (P := C.P) w t tx ty e ti z .i64 .i64 htu (und_kindI htx) hi hiz (some ⟨b, 0, none⟩) i cap olds hold k hk hs0 hno (by simp only [maxLen] at hmax; omega) (by omega) (growslice_fits (by omega) hby)
  have hge := grownCap_ge w (i + k) cap e
  have hcm : grownCap w (i + k) cap e ≤ maxLen := grownCap_le_maxLen w (i + k) cap e hmax
  have hsat2 := hsat.drew.alloc (.cells (olds.toArray ++ Builtin.zeroCells z.cells k ++ Builtin.zeroCells z.cells (grownCap w (i + k) cap e - (i + k))) e)
  refine wpIn_value (by intro c; simp) ?_ (hnx _ _ _ ⟨w.heap.size, _, _, ⟨rfl, rfl⟩, hge, hcm, ?_, ?_⟩ (by simpa using hsat2))
  · simp [execOp, resolve, e1, e2, invoke, builtin, hr]
  · simp only [Array.size_append, size_zeroCells, hzs, List.size_toArray, hol, ← Nat.add_mul]
    congr 1
    omega
  · rw [← hol]
    simp
theorem EI {f : FuncId} {fn : Func} {x y z : Operand} {tS tR e : TypeId} {ts : Array TypeId} {s b1 o1 l1 c1 b2 o2 l2 c2 : Nat} {cu1 cu2 : Array Value} {t1 t2 : TypeId} {ρ1 ρ2 : PH}
    (hf : C.P.funcs[f]? = some fn) (hname : (fn.name == "runtime.NumGoroutine") = false) (hb : fn.body.isNone = true) (hn : Extern.findNext fn = none) (he : Extern.find fn = some (Extern.SlicesOverlaps.overlaps #[tS, tS] #[tR]))
    (hz : evalE L z = some (.func (.func f) #[] #[])) (hx : evalE L x = some (.slice (some ⟨b1, o1, none⟩) l1 c1)) (hy : evalE L y = some (.slice (some ⟨b2, o2, none⟩) l2 c2)) (ht : elemP C.P tS = some e) (hs : szP C.P e = some s)
    (e1 : ρ1 = sng b1 (.cells cu1 t1 (0, 0))) (e2 : ρ2 = sng b2 (.cells cu2 t2 (0, 0))) (m1 : ρ1 ∈ R) (m2 : ρ2 ∈ H) (hk : cu2.size ≠ 0) :
    Quiet C R H L ⟨dst, .call ⟨.value z, #[x, y], ts⟩, ty, pos, aft, g⟩ (.bool false) :=
  ⟨by intro c; simp, fun a w hxx hsat => by
    have f1 := hxx x (by simp [Op.operands, Call.operands]) _ hx
    have f2 := hxx y (by simp [Op.operands, Call.operands]) _ hy
    have f3 := hxx z (by simp [Op.operands, Call.operands]) _ hz
    subst e1; subst e2
    have g1 : w.heap[b1]? = some (.cells cu1 t1 (0, 0)) := hsat.r _ m1 _ _ (sng_self _ _)
    have g2 : w.heap[b2]? = some (.cells cu2 t2 (0, 0)) := hsat.h _ m2 _ _ (sng_self _ _)
    have hne : b1 ≠ b2 := fun h => by
      subst h
      rcases hsat.rd _ m1 _ m2 b1 with h | h <;> simp [sng] at h
    have hov := Lib.run_overlaps_apart (P := C.P) w tS tR e (und_elem ht) s (run_sizeOf hs) ⟨b1, o1, none⟩ ⟨b2, o2, none⟩ l1 c1 l2 c2 hne t1 t2 cu1.size cu2.size (by simp [World.shape?, g1]) (by simp [World.shape?, g2]) hk (by simp [World.frozen?, g1]) (by simp [World.frozen?, g1])
    have hcall := run_callFunc_extern hf hname hb hn he #[.slice (some ⟨b1, o1, none⟩) l1 c1, .slice (some ⟨b2, o2, none⟩) l2 c2] w
    rw [hov] at hcall
    simp [execOp, resolve, f1, f2, f3, Deferred.ofValue, invoke, hcall]⟩
end Go.Eng
namespace Go.Eng
def insL {α : Type} (l : List α) (k : Nat) (h : α) : List α := l.take k ++ h :: l.drop k
theorem insL_len {α : Type} (l : List α) (k : Nat) (h : α) : (insL l k h).length = l.length + 1 := by
  unfold insL;simp only [List.length_append, List.length_take, List.length_cons, List.length_drop];omega
theorem insL_end {α : Type} (l : List α) (h : α) : insL l l.length h = l ++ [h] := by simp [insL]
theorem cutP_at {b o c i s : Nat} (h : i < c) : cutP (some ⟨b, o, none⟩) c i s = some ⟨b, o + i * s, none⟩ := by
  unfold cutP
  rw [if_neg (by omega)]
  simp [addr_add]
theorem cutP_atE {b o c i s : Nat} (s' : Nat) (h : i < c) (hs : s = s') : cutP (some ⟨b, o, none⟩) c i s = some ⟨b, o + i * s', none⟩ := by subst hs; exact cutP_at h
theorem rdN_sng {b : Nat} {vs : List Value} {t : TypeId} {fr : Nat × Nat} : RdN (sng b (.cells vs.toArray t fr)) b 0 vs := fun j v hv => by
  rw [rdc_sng, Nat.zero_add]
  simpa using hv
theorem rdN_take {b : Nat} {cur : Array Value} {t : TypeId} {fr : Nat × Nat} {o : Nat} {vs : List Value} (h : ∀ j v, vs[j]? = some v → cur.toList[o + j]? = some v) : RdN (sng b (.cells cur t fr)) b o vs := fun j v hv => by
  rw [rdc_sng, ← Array.getElem?_toList];exact h j v hv
theorem ins_cells {α : Type} {enc : α → List Value} {s : Nat} (he : ∀ x, (enc x).length = s) (l : List α) (k : Nat) (h : α) (hk : k ≤ l.length) (c1 : List Value) (hc1 : c1.take (k * s) = (l.take k).flatMap enc) (rest : List Value) :
    ((c1.take (k * s) ++ enc h ++ (l.drop k).flatMap enc) ++ rest).take ((l.length + 1) * s) = (insL l k h).flatMap enc := by
  have hl : (c1.take (k * s) ++ enc h ++ (l.drop k).flatMap enc).length = (l.length + 1) * s := by
    rw [hc1, List.length_append, List.length_append, flat_len he, flat_len he, he, List.length_take, List.length_drop, Nat.min_eq_left hk]
    have : (l.length + 1) * s = (k + 1 + (l.length - k)) * s := by congr 1; omega
    rw [this, Nat.add_mul, Nat.add_mul]; omega
  rw [← hl, List.take_left, hc1];unfold insL;rw [List.flatMap_append, List.flatMap_cons, List.append_assoc]
end Go.Eng
namespace Go.Step
open Go.Eng
theorem cmpI_cases (a b:Int):(a<b∧cmpI a b = -1)∨(a=b∧cmpI a b=0)∨(b<a∧cmpI a b=1):=by
  unfold cmpI
  by_cases h:a<b
  · exact .inl ⟨h,by rw [if_pos h]⟩
  · by_cases h2:b<a
    · exact .inr (.inr ⟨h2,by rw [if_neg h,if_pos h2]⟩)
    · exact .inr (.inl ⟨by omega,by rw [if_neg h,if_neg h2]⟩)
theorem orI_cmp (a b:Int) (l:List Int):(a<b∧orI (cmpI a b::l) = -1)∨(a=b∧orI (cmpI a b::l)=orI l)∨(b<a∧orI (cmpI a b::l)=1):=by
  have e:orI (cmpI a b::l)=if cmpI a b≠0 then cmpI a b else orI l:=rfl
  rcases cmpI_cases a b with ⟨h1,h2⟩|⟨h1,h2⟩|⟨h1,h2⟩
  · exact .inl ⟨h1,by rw [e,h2]; rfl⟩
  · exact .inr (.inl ⟨h1,by rw [e,h2]; rfl⟩)
  · exact .inr (.inr ⟨h1,by rw [e,h2]; rfl⟩)
end Go.Step
namespace Go.Step
def nx (fr to:Int):List Lv→Int
  | []=>to
  | l::f=>if fr<l.a then min l.a to else nx fr to f
end Go.Step
namespace Go.Step
abbrev Pt:=(Int × Int) × Int
/-! times,merged -/
structure TInv (f g:List Lv) (i k:Nat) (out:List Int):Prop where
  sa:SA out
  mem:∀ x,x∈out↔∃ l∈f.take i ++ g.take k,l.a=x
  f:∀ x∈out,∀ l∈f.drop i,x≤l.a
  g:∀ x∈out,∀ l∈g.drop k,x≤l.a
end Go.Step
namespace Go.Step
end Go.Step
namespace Go.Step
end Go.Step
namespace Go.Step
end Go.Step
namespace Go.Step
end Go.Step
namespace Go.Step
def Chn (a:Int):List Pt→Int→Prop
  | [],b=>a=b
  | p::ps,b=>p.1.1=a∧a<p.1.2∧Chn p.1.2 ps b
def Cov (l:List (Int × Int)) (t:Int):Prop:=∃ s∈l,s.1≤t∧t<s.2
structure Apart (lo a:Int) (l:List (Int × Int)):Prop where
  ok:∀ s∈l,lo≤s.1∧s.1<s.2∧s.2≤a
  sep:l.Pairwise (fun s t=>s.2<t.1)
end Go.Step
namespace Go.Step
structure InvF (Q s:Int) (G:Int→Int) (T v:Int) (st:Int × List (Int × Int)):Prop where
  ap:Apart 0 T st.2
  fr:st.1 = -1∨(0≤st.1∧st.1≤T∧∀ u∈st.2,u.2<st.1)
  cov:∀ t,0≤t→t<T→((Cov st.2 t∨(0≤st.1∧st.1≤t))↔G t+s≤Q)
  now:0≤st.1↔v+s≤Q
end Go.Step
namespace Go.Step
end Go.Step
namespace Go.Step
structure Bk where
  c:Int
  a:Int
  b:Int
  k:Int
deriving DecidableEq
def okBk (cs:List Ct) (x:Bk):Prop:=(0≤x.c∧x.c<cs.length∧0≤x.k∧x.k≤1152921504606846976)∧∃ c,cs[x.c.toNat]?=some c∧c.s≤x.a∧x.a<x.b∧x.b≤c.e
def okBkB (cs:List Ct) (x:Bk):Bool:=decide (0≤x.c∧x.c<cs.length∧0≤x.k∧x.k≤1152921504606846976) && (match cs[x.c.toNat]? with
  | some c=>decide (c.s≤x.a∧x.a<x.b∧x.b≤c.e)
  | none=>false)
theorem okBkB_iff (cs:List Ct) (x:Bk):okBkB cs x=true↔okBk cs x:=by
  unfold okBkB okBk;rw [Bool.and_eq_true,decide_eq_true_iff]
  cases h:cs[x.c.toNat]? with
  | none=>simp
  | some c=>simp
def cmpBk (x y:Bk):Int:=orI [cmpI x.c y.c,cmpI x.a y.a]
theorem cmpBk_lt (x y:Bk):cmpBk x y<0↔x.c<y.c∨(x.c=y.c∧x.a<y.a):=by
  unfold cmpBk
  rcases orI_cmp x.c y.c [cmpI x.a y.a] with ⟨h1,e⟩|⟨h1,e⟩|⟨h1,e⟩
  · rw [e]; omega
  · rw [e]
    rcases orI_cmp x.a y.a [] with ⟨h2,e⟩|⟨h2,e⟩|⟨h2,e⟩
    · rw [e]; omega
    · rw [e]; simp only [orI]; omega
    · rw [e]; omega
  · rw [e]; omega
def bk2E (p x:Bk):Int:=if ¬ cmpBk p x<0 then 9 else if p.c=x.c∧x.a<p.b then 14 else 0
def bkE (cs:List Ct) (l:List Bk) (i:Nat):Int:=match l[i]? with
  | some x=>if okBkB cs x=false then 2 else if i=0 then 0 else bk2E (l.getD (i-1) x) x
  | none=>0
theorem bkE_at {cs:List Ct} {l:List Bk} {i:Nat} {x:Bk} (e:l[i]?=some x):bkE cs l i=if okBkB cs x=false then 2 else if i=0 then 0 else bk2E (l.getD (i-1) x) x:=by unfold bkE; rw [e]
def chkB (qs:List Int) (cs:List Ct) (l:List Bk):Int:=
  if chkPl qs cs≠0 then 1 else if 512<l.length then 4 else firstE (bkE cs l) l.length
def busyL (l:List Bk) (c:Int):List (Int × Int):=(l.filter (fun x=>decide (x.c=c))).map (fun x=>(x.a,x.b))
theorem busyL_next (c:Int) {l:List Bk} {k:Nat} {x:Bk} (h:l[k]?=some x):busyL (l.take (k+1)) c=busyL (l.take k) c ++ (if x.c=c then [(x.a,x.b)] else []):=by
  obtain ⟨hk,rfl⟩:=List.getElem?_eq_some_iff.1 h
  unfold busyL;rw [List.take_succ_eq_append_getElem hk,List.filter_append,List.map_append]
  congr 1
  by_cases e:l[k].c=c
  · simp [e]
  · simp [e]
theorem busyL_len (l:List Bk) (c:Int):(busyL l c).length≤l.length:=by
  unfold busyL;rw [List.length_map];exact List.length_filter_le _ _
def bookedB (l:List Bk) (c t:Int):Bool:=(busyL l c).any (fun x=>decide (x.1≤t) && decide (t<x.2))
theorem bkE_ok {cs:List Ct} {l:List Bk} (h:firstE (bkE cs l) l.length=0):∀ x∈l,okBk cs x:=fun x hx=>by
  obtain ⟨i,hi,rfl⟩:=List.getElem_of_mem hx
  have h2:=firstE_zero h i hi
  rw [bkE_at (List.getElem?_eq_getElem hi)] at h2
  cases hc:okBkB cs l[i] with
  | true=>exact (okBkB_iff _ _).1 hc
  | false=>rw [if_pos hc] at h2; omega
theorem chkB_ok {qs:List Int} {cs:List Ct} {bs:List Bk} (h:chkB qs cs bs=0):bs.length≤512∧firstE (bkE cs bs) bs.length=0:=by
  unfold chkB at h
  by_cases h1:chkPl qs cs=0
  · rw [if_neg (by simpa using h1)] at h
    by_cases h2:512<bs.length
    · rw [if_pos h2] at h; omega
    · rw [if_neg h2] at h; exact ⟨by omega,h⟩
  · rw [if_pos h1] at h; omega
end Go.Step
namespace Go.Proofs.YtekcielcagdcmaaGreatDoor
open Go.Eng Go.Step
set_option maxRecDepth 100000
set_option maxHeartbeats 64000000
theorem bkValid_spec (τ:PH) (pq pc:Option Addr) (nq kq kc:Nat) (cs:List Ct) (x:Bk) (hc:CtAt τ (.slice pc cs.length kc) cs) :
  Ans Tryz.prog (fv 21) [.agg #[.slice pq nq kq,.slice pc cs.length kc],.agg #[int x.c,int x.a,int x.b,int x.k]] [τ] (fun r=>r=.bool (okBkB cs x)):=by
 obtain ⟨_,_,e,hrc⟩:=hc.val encC_len
 simp only [Value.slice.injEq] at e
 obtain ⟨rfl,_,rfl⟩:=e
 refine spec_in (cap:=[]) Tryz.func21 rfl rfl Tryz.ntmps21 rfl envZ (fun N β=>?_)
 refine Aa ?_;refine BJ (BL rfl) rfl rfl rfl ?_;rintro _ _ ⟨b2,rfl,rfl⟩;refine AS (ρ:=sng b2 _) takeZ ?_
 have cp:=rdB b2 33 [.slice pq nq kq,.slice pc cs.length kc]
 have cp1:=rdC cp 1
 refine BJ (BL rfl) rfl rfl rfl ?_;rintro _ _ ⟨b3,rfl,rfl⟩;refine AS (ρ:=sng b3 _) takeZ ?_
 have cx:=rdB b3 48 [int x.c,int x.a,int x.b,int x.k]
 have cx0:=rdC cx 0
 have cx1:=rdC cx 1
 have cx2:=rdC cx 2
 have cx3:=rdC cx 3
 by_cases hin:0≤x.c∧x.c<cs.length∧0≤x.k∧x.k≤1152921504606846976
 ·obtain ⟨nn,hnn⟩:∃ nn:Nat,x.c=nn:=⟨x.c.toNat,by omega⟩
  have hlt:nn<cs.length:=by omega
  have hx:=List.getElem?_eq_getElem hlt
  obtain ⟨b1,o1,rfl,hrd⟩:=ctRow hrc hx
  have hok:okBkB cs x=decide (cs[nn].s≤x.a∧x.a<x.b∧x.b≤cs[nn].e):=by
   unfold okBkB;rw [decide_eq_true hin,Bool.true_and,hnn,Int.toNat_natCast,hx]
  rw [hok]
  have cn:rdc (sng b3 (.cells #[int x.c,int x.a,int x.b,int x.k] 48 (0,0))) b3 0=some (int nn):=by rw [rdc_sng,← hnn]; rfl
  clear cx0 hok
  generalize cs[nn]=c at hrd
  refine Adr ?_;refine BK ?_;refine Ab3 ?_;refine BD ?_;refine CP ?_;refine Aa5 ?_;refine BK ?_;refine Aa5 ?_;refine BO ?_;refine Aa4 ?_;refine Aam ?_;refine Aad ?_;refine Ab4 ?_;refine A4 ?_; rintro _ _ ⟨b,rfl,rfl⟩;refine AY ?_; rintro _ _ ⟨rfl,rfl⟩;refine Ac4 ?_;refine Aad ?_
  by_cases h1:c.s≤x.a
  ·by_cases h2:x.a<x.b
   ·by_cases h3:x.b≤c.e
    ·rw [decide_eq_true ⟨h1,h2,h3⟩]
     refine C9 ?_;refine Ab3 ?_;refine B7 ?_;refine AV ?_;refine Ab3 ?_;refine EE ?_;refine Abm ?_;exact A9 ⟨rfl,rfl⟩
    ·rw [decide_eq_false (fun h=>h3 h.2.2)]
     refine C9 ?_;refine Ab3 ?_;refine B7 ?_;refine AV ?_;refine Ab3 ?_;refine FH ?_;refine Abm ?_;exact A9 ⟨rfl,rfl⟩
   ·rw [decide_eq_false (fun h=>h2 h.2.1)]
    refine C9 ?_;refine Ab3 ?_;refine BK ?_;refine AV ?_;refine Acf ?_;refine Ac2 ?_;exact A9 ⟨rfl,rfl⟩
  ·rw [decide_eq_false (fun h=>h1 h.1)]
   refine CP ?_;refine Acf ?_;refine AP ?_;refine Acf ?_;refine Ac2 ?_;exact A9 ⟨rfl,rfl⟩
 ·have hok:okBkB cs x=false:=by
   unfold okBkB;rw [decide_eq_false hin,Bool.false_and]
  rw [hok]
  by_cases h1:x.c<0
  ·refine AC ?_
   refine Acb ?_;refine B7 ?_;refine Adj ?_;refine Ack ?_;refine Ack ?_;refine Abk ?_;refine Aal ?_;exact A9 ⟨rfl,rfl⟩
  by_cases h2:(cs.length:Int)≤x.c
  ·refine AC ?_
   refine Acb ?_;refine BK ?_;refine Ab3 ?_;refine BD ?_;refine C9 ?_;refine AP ?_;refine Aa3 ?_;refine Ack ?_;refine Abk ?_;refine Aal ?_;exact A9 ⟨rfl,rfl⟩
  by_cases h3:x.k<0
  ·refine AC ?_
   refine Acb ?_;refine BK ?_;refine Ab3 ?_;refine BD ?_;refine CP ?_;refine Aa5 ?_;refine B7 ?_;refine AP ?_;refine Aa3 ?_;refine Abk ?_;refine Aal ?_;exact A9 ⟨rfl,rfl⟩
  by_cases h4:1152921504606846976<x.k
  ·refine AC ?_
   refine Acb ?_;refine BK ?_;refine Ab3 ?_;refine BD ?_;refine CP ?_;refine Aa5 ?_;refine BK ?_;refine Aa5 ?_;refine Ado ?_;refine Acd ?_;exact A9 ⟨rfl,rfl⟩
  ·exfalso; omega
def encB (x:Bk):List Value:=[int x.c,int x.a,int x.b,int x.k]
theorem encB_len (x:Bk):(encB x).length=4:=rfl
abbrev BkAt (ρ:PH) (v:Value) (l:List Bk):Prop:=SlE encB 4 ρ v l
theorem bkRow {ρ:PH} {p:Option Addr} {l:List Bk} (h:RowsE encB 4 ρ p l) {i:Nat} {x:Bk} (hx:l[i]?=some x) :
  ∃ b o,p=some ⟨b,o,none⟩∧RdN ρ b (o+i*4) [int x.c,int x.a,int x.b,int x.k]∧rdc ρ b (o+i*4)=some (int x.c)∧rdc ρ b (o+i*4+1)=some (int x.a)∧rdc ρ b (o+i*4+2)=some (int x.b)∧rdc ρ b (o+i*4+3)=some (int x.k):=by
 obtain ⟨b,o,e,hr⟩:=h i x hx
 exact ⟨b,o,e,hr,hr.get0,hr.get (j:=1) rfl,hr.get (j:=2) rfl,hr.get (j:=3) rfl⟩
theorem bkCompare_spec (x y:Bk):Ans Tryz.prog (fv 43) [.agg #[int x.c,int x.a,int x.b,int x.k],.agg #[int y.c,int y.a,int y.b,int y.k]] [] (fun r=>r=int (cmpBk x y)):=by
 refine spec_in (cap:=[]) Tryz.func43 rfl rfl Tryz.ntmps43 rfl envZ (fun N β=>?_)
 refine Aa ?_;refine CW ?_; rintro _ _ ⟨b,rfl,rfl⟩;refine CW ?_; rintro _ _ ⟨b,rfl,rfl⟩;refine Ad ?_
 refine BB (.q 0 (.q 1 (.q 2 (.q 3 (.q 5 (.q 6 (.q 7 (.q 8 (.l 4 .e (.l 9 .e (.l 10 .e (.l 11 .e (.q 12 .nil))))))))))))) [] rfl (by kernel_rfl) selZ ?_
 refine Adk ?_;refine Adk ?_
 focus ((refine BQ (CI rfl (cmpI_spec _ _) rfl rfl rdZ rfl rfl ?_); rintro _ rfl))
 focus ((refine BQ (CI rfl (cmpI_spec _ _) rfl rfl rdZ rfl rfl ?_); rintro _ rfl))
 refine DT ?_; rintro _ _ ⟨b,rfl,rfl⟩
 revert b; intro bo
 refine BQ (CI rfl (or_spec (sng bo _) _ [cmpI x.c y.c,cmpI x.a y.a] (slE_sng Eng.encI_len) (by simp)) rfl rfl rdZ rfl rfl ?_)
 rintro _ rfl;refine Aaq ?_
 skip
 exact A9 ⟨rfl,rfl⟩
theorem bkCheck_spec (ρ τ σ:PH) (pq pc:Option Addr) (kq kc:Nat) (qs:List Int) (cs:List Ct) (v:Value) (l:List Bk) (hq:IntsAt ρ (.slice pq qs.length kq) qs) (hc:CtAt τ (.slice pc cs.length kc) cs) (hcap:cs.length≤kc) (lq:qs.length≤9223372036854775807) (lc:cs.length≤9223372036854775807) (hv:BkAt σ v l) (hl:l.length≤9223372036854775807) :
  Ans Tryz.prog (fv 20) [.agg #[.slice pq qs.length kq,.slice pc cs.length kc],v] [ρ,τ,σ] (fun r=>r=int (chkB qs cs l)):=by
 have hv2:=hv
 obtain ⟨q,c,rfl,hr⟩:=hv.val encB_len
 refine spec_in (cap:=[]) Tryz.func20 rfl rfl Tryz.ntmps20 rfl envZ (fun N β=>?_)
 refine Aa ?_;refine BJ (BL rfl) rfl rfl rfl ?_;rintro _ _ ⟨b1,rfl,rfl⟩;refine AS (ρ:=sng b1 _) takeZ ?_
 have c1:=rdB b1 33 [.slice pq qs.length kq,.slice pc cs.length kc]
 refine Ads ?_;refine AT (planCheck_spec ρ τ pq pc kq kc qs cs hq hc hcap lq lc) rfl rfl rdZ rfl rfl ?_;rintro _ rfl;unfold chkB
 by_cases hp:chkPl qs cs=0
 rotate_left
 ·rw [if_pos hp]
  generalize chkPl qs cs=z at hp
  refine C8 ?_;refine Acd ?_;exact A9 ⟨rfl,rfl⟩
 rw [if_neg (fun h=>h hp),hp]
 by_cases hbig:512<l.length
 ·rw [if_pos hbig]
  refine Add ?_;refine BD ?_;refine DA ?_;refine Acd ?_;exact A9 ⟨rfl,rfl⟩
 rw [if_neg hbig];refine Add ?_;refine BD ?_;refine Adg ?_;refine Aah ?_;refine Aby ?_
 refine BU [1,2,13,14] (0:Nat) (fun k=>k≤l.length∧firstE (bkE cs l) k=0) (fun k=>[(15,int k)]) (fun _=>[]) (fun k=>l.length-k) pickZ ⟨by omega,rfl⟩ covZ selZ ?_
 rintro k ⟨hk,hI⟩
 by_cases hlt:k<l.length
 ·have hx:=List.getElem?_eq_getElem hlt
  obtain ⟨b2,o2,rfl,hrd,g0,g1,g2,g3⟩:=bkRow hr hx
  have hE:=bkE_at (cs:=cs) hx
  generalize l[k]=x at hrd g0 g1 g2 g3 hE
  refine Abn ?_;refine Aab ?_;refine Ab4 ?_;refine A4 ?_; rintro _ _ ⟨b,rfl,rfl⟩;refine AC ?_;refine AY ?_; rintro _ _ ⟨rfl,rfl⟩;refine Aap ?_;refine Aau ?_;refine AQ ?_
  revert b; intro b6
  refine AT (bkValid_spec τ pq pc qs.length kq kc cs x hc) rfl rfl rdZ rfl rfl ?_;rintro _ rfl
  cases hok:okBkB cs x with
  | false =>
   rw [if_pos hok] at hE
   have hh:=firstE_hit hI (by rw [hE]; decide) _ hlt
   rw [hh,hE];refine BE ?_;refine Acd ?_;exact A9 ⟨rfl,rfl⟩
  | true =>
  rw [if_neg (by rw [hok]; simp)] at hE
  by_cases h0:k=0
  ·subst h0
   rw [if_pos rfl] at hE;refine Abr ?_;refine Aah ?_;refine CN ?_;refine Aai ?_;refine BR rfl ?_;refine AA ?_;refine Abe ?_
   exact BG (0+1) ⟨by omega,firstE_ok hI hE⟩ (by omega) covZ selZ
  ·have hlt':k-1<l.length:=by omega
   have hx':=List.getElem?_eq_getElem hlt'
   obtain ⟨_,_,e,hrd',p0,p1,p2,p3⟩:=bkRow hr hx'
   simp only [Option.some.injEq,Addr.mk.injEq,and_true] at e
   obtain ⟨rfl,rfl⟩:=e
   rw [if_neg h0,List.getD_eq_getElem?_getD,hx',Option.getD_some] at hE
   generalize l[k-1]=p at hrd' p0 p1 p2 p3 hE
   have hle:=bkCompare_spec p x
   unfold bk2E at hE
   generalize cmpBk p x=z at hle hE
   refine Abr ?_;refine Aah ?_;refine Ab8 ?_;refine Acv ?_
   refine BB (.q 0 (.q 1 (.q 2 (.q 3 (.q 4 (.q 5 (.l 6 .e (.q 7 .nil)))))))) [sng b6 _] rfl (by kernel_rfl) selZ ?_
   refine Adt ?_;refine BP ?_;refine BP ?_;refine BQ (CI rfl hle rfl rfl rdZ rfl rfl ?_);rintro _ rfl
   by_cases hc9:z<0
   rotate_left
   ·rw [if_pos hc9] at hE
    have hh:=firstE_hit hI (by rw [hE]; decide) _ hlt
    rw [hh,hE];refine EX ?_;refine Aci ?_;refine Aal ?_;exact A9 ⟨rfl,rfl⟩
   rw [if_neg (fun h=>h hc9)] at hE
   refine EY ?_;refine Ab0 ?_;refine AD ?_
   refine BB P0Z [sng b6 _] rfl (by kernel_rfl) selZ ?_
   by_cases e1:p.c=x.c
   ·by_cases e2:x.a<p.b
    ·rw [if_pos ⟨e1,e2⟩] at hE
     have hh:=firstE_hit hI (by rw [hE]; decide) _ hlt
     rw [hh,hE];refine Adt ?_;refine Ac1 ?_;refine Aan ?_;refine ED ?_;refine Ab2 ?_;refine Adt ?_;refine Acw ?_;refine F3 ?_;refine BY ?_;refine Aci ?_;refine Aal ?_;exact A9 ⟨rfl,rfl⟩
    ·rw [if_neg (by omega)] at hE
     refine Adt ?_;refine Ac1 ?_;refine Aan ?_;refine ED ?_;refine Ab2 ?_;refine Adt ?_;refine Acw ?_;refine DR ?_;refine BY ?_;refine Adu ?_
     exact BG (k+1) ⟨by omega,firstE_ok hI hE⟩ (by omega) covZ selZ
   ·rw [if_neg (by omega)] at hE
    refine Adt ?_;refine Ac1 ?_;refine Aan ?_;refine D9 ?_;refine Acx ?_;refine Acj ?_;refine Adu ?_
    exact BG (k+1) ⟨by omega,firstE_ok hI hE⟩ (by omega) covZ selZ
 have hke:k=l.length:=by omega
 subst hke;rw [hI];refine Ab5 ?_;refine Aal ?_;exact A9 ⟨rfl,rfl⟩
def encS (x:Int × Int):List Value:=[int x.1,int x.2]
theorem encS_len (x:Int × Int):(encS x).length=2:=rfl
abbrev SpAt (ρ:PH) (v:Value) (l:List (Int × Int)):Prop:=SlE encS 2 ρ v l
theorem spRow {ρ:PH} {p:Option Addr} {l:List (Int × Int)} (h:RowsE encS 2 ρ p l) {i:Nat} {x:Int × Int} (hx:l[i]?=some x) :
  ∃ b o,p=some ⟨b,o,none⟩∧RdN ρ b (o+i*2) [int x.1,int x.2]∧rdc ρ b (o+i*2)=some (int x.1)∧rdc ρ b (o+i*2+1)=some (int x.2):=by
 obtain ⟨b,o,e,hr⟩:=h i x hx
 exact ⟨b,o,e,hr,hr.get0,hr.get (j:=1) rfl⟩
structure TbAt (ρ τ σ υ:PH) (pq pc pb ph:Option Addr) (kq kc kb kh:Nat) (qs:List Int) (cs:List Ct) (bs:List Bk) (hs:List Hd):Prop where
 hq:IntsAt ρ (.slice pq qs.length kq) qs
 hc:CtAt τ (.slice pc cs.length kc) cs
 hcap:cs.length≤kc
 lq:qs.length≤9223372036854775807
 lc:cs.length≤9223372036854775807
 hb:BkAt σ (.slice pb bs.length kb) bs
 lb:bs.length≤9223372036854775807
 hh:HdAt υ (.slice ph hs.length kh) hs
 lh:hs.length≤9223372036854775807
theorem TbAt.rc {ρ τ σ υ:PH} {pq pc pb ph:Option Addr} {kq kc kb kh:Nat} {qs:List Int} {cs:List Ct} {bs:List Bk} {hs:List Hd} (hT:TbAt ρ τ σ υ pq pc pb ph kq kc kb kh qs cs bs hs):RowsE encC 7 τ pc cs:=by
 obtain ⟨_,_,e,h⟩:=hT.hc.val encC_len
 simp only [Value.slice.injEq] at e;rw [e.1]; exact h
theorem indexS_spec (ρ:PH) (Rs:List PH) (v fn:Value) (l:List (Int × Int)) (p:(Int × Int)→Bool) (hv:SlE encS 2 ρ v l) (hl:l.length≤9223372036854775807) (hfn:∀ (i:Nat) (x:(Int × Int)),l[i]?=some x→Ans Tryz.prog fn [.agg (encS x).toArray] Rs (fun r=>r=.bool (p x))) :
  Ans Tryz.prog (fv 44) [v,fn] (ρ::Rs) (fun r=>(∃ (i:Nat) (x:(Int × Int)),l[i]?=some x∧p x=true∧(∀ (j:Nat) (y:(Int × Int)),j<i→l[j]?=some y→p y=false)∧r=int i)∨((∀ x∈l,p x=false)∧r=int (-1))):=by
 obtain ⟨q,c,rfl,hr⟩:=hv.val encS_len
 refine spec_in (cap:=[]) Tryz.func44 rfl rfl Tryz.ntmps44 rfl envZ (fun N β=>?_)
 refine Ab6 ?_;refine Aby ?_
 refine BU [0,1,7] (0:Nat) (fun k=>k≤l.length∧∀ (i:Nat) (x:(Int × Int)),i<k→l[i]?=some x→p x=false) (fun k=>[(8,int k)]) (fun _=>[]) (fun k=>l.length-k) pickZ ⟨by omega,fun i x h=>by omega⟩ covZ selZ ?_
 rintro k ⟨hk,hI⟩
 by_cases hlt:k<l.length
 ·have hx:=List.getElem?_eq_getElem hlt
  obtain ⟨b1,o1,rfl,hrd⟩:=hr k _ hx
  have hrd2:RdN ρ b1 (o1+k*2) (encS l[k]):=hrd
  have hf:=hfn k _ hx
  refine Abn ?_;refine Abi ?_;refine Adq ?_;refine Ab4 ?_
  refine AT hf rfl rfl (fun τ hτ=>.inl (by simp [hτ])) rfl rfl ?_
  rintro _ rfl
  cases hp:p l[k] with
  | true =>
   refine Aai ?_;refine Abi ?_;exact AK (res1 rfl rfl) rsubZ selZ ⟨rfl,.inl ⟨k,l[k],hx,hp,hI,rfl⟩⟩
  | false =>
   refine Aag ?_;refine Abf ?_
   refine BG (k+1) ⟨by omega,fun i x hi hix=>?_⟩ (by omega) covZ selZ
   by_cases e:i=k
   ·subst e; rw [hx] at hix; injection hix with hix; rw [← hix]; exact hp
   ·exact hI i x (by omega) hix
 ·refine AD ?_
  refine AA ?_;refine Abw ?_;refine Aal ?_
  refine AK (res1 rfl rfl) rsubZ selZ ⟨rfl,.inr ⟨fun x hx=>?_,rfl⟩⟩
  obtain ⟨i,hi,rfl⟩:=List.getElem_of_mem hx
  exact hI i _ (by omega) (List.getElem?_eq_getElem hi)
theorem contS_spec (ρ:PH) (Rs:List PH) (v fn:Value) (l:List (Int × Int)) (p:(Int × Int)→Bool) (hv:SlE encS 2 ρ v l) (hl:l.length≤9223372036854775807) (hfn:∀ (i:Nat) (x:(Int × Int)),l[i]?=some x→Ans Tryz.prog fn [.agg (encS x).toArray] Rs (fun r=>r=.bool (p x))) :
  Ans Tryz.prog (fv 22) [v,fn] (ρ::Rs) (fun r=>r=.bool (l.any p)):=by
 have hix:=indexS_spec ρ Rs v fn l p hv hl hfn
 obtain ⟨q,c,rfl,hr⟩:=hv.val encS_len
 refine spec_in (cap:=[]) Tryz.func22 rfl rfl Tryz.ntmps22 rfl envZ (fun N β=>?_)
 refine Acu ?_
 refine AT hix rfl rfl (fun τ hτ=>.inl (List.mem_cons_of_mem _ hτ)) rfl rfl ?_
 rintro _ (⟨i,x,hi,hp,_,rfl⟩|⟨hall2,rfl⟩)
 ·have hfl:l.any p=true:=List.any_eq_true.2 ⟨x,List.mem_of_getElem? hi,hp⟩
  refine C9 ?_;refine Aaa ?_
  exact AK (res1 rfl rfl) rsubZ selZ ⟨rfl,by rw [hfl]⟩
 ·have hfl:l.any p=false:=List.any_eq_false.2 (fun x hx=>by rw [hall2 x hx]; simp)
  refine CP ?_;refine Aaa ?_
  exact AK (res1 rfl rfl) rsubZ selZ ⟨rfl,by rw [hfl]⟩
theorem busy_spec (ρ:PH) (v:Value) (l:List Bk) (c:Int) (hv:BkAt ρ v l) (hl:l.length≤1000) :
  Makes Tryz.prog (fv 23) [v,int c] [ρ] (fun r σ=>OwnS 77 2 r (busyL l c).length ((busyL l c).flatMap encS) σ):=by
 obtain ⟨q,cc,rfl,hr⟩:=hv.val encB_len
 refine spec_in (cap:=[]) Tryz.func23 rfl rfl Tryz.ntmps23 rfl envZ (fun N β=>?_)
 refine CG ?_;refine Aal ?_;refine Ab6 ?_;refine Aby ?_
 refine BU [1,8,9] (X:=Nat × (Value × PH)) (0,(.slice none 0 0,emp)) (fun x=>x.1≤l.length∧OwnS 77 2 x.2.1 (busyL (l.take x.1) c).length ((busyL (l.take x.1) c).flatMap encS) x.2.2) (fun x=>[(10,int x.1),(5,x.2.1)]) (fun x=>[x.2.2]) (fun x=>l.length-x.1) pickZ ⟨by dsimp only; omega,OwnS.nil _ _⟩ covZ selZ ?_
 rintro ⟨k,u,σ⟩ ⟨hk,hO⟩
 dsimp only at hk hO ⊢
 by_cases hlt:k<l.length
 ·have hx:=List.getElem?_eq_getElem hlt
  have hn:=busyL_next c hx
  have hrl:=busyL_len (l.take k) c
  rw [List.length_take,Nat.min_eq_left hk] at hrl
  obtain ⟨b1,o1,rfl,hRd1,g0,g1,g2,g3⟩:=bkRow hr hx
  generalize l[k]=x at hRd1 g0 g1 g2 g3 hn
  by_cases hc:x.c=c
  rotate_left
  ·rw [if_neg hc,List.append_nil] at hn
   refine Ade ?_;refine A4 ?_; rintro _ _ ⟨b,rfl,rfl⟩;refine AY ?_; rintro _ _ ⟨rfl,rfl⟩;refine Ac4 ?_;refine AB ?_;refine Ab8 ?_;refine Abf ?_
   exact BG (k+1,(u,σ)) ⟨by dsimp only; omega,by dsimp only; rw [hn]; exact hO⟩ (by dsimp only; omega) covZ selZ
  ·rw [if_pos hc] at hn
   refine Ade ?_;refine A4 ?_; rintro _ _ ⟨b,rfl,rfl⟩;refine AY ?_; rintro _ _ ⟨rfl,rfl⟩;refine Ac4 ?_;refine AB ?_;refine CN ?_;refine Aai ?_;refine AA ?_;refine Ab3 ?_;refine B6 ?_;refine BN ?_; rintro _ _ ⟨b,rfl,rfl⟩
   refine BJ (CU (by_:=16) (s:=2) (news:=[int x.a,int x.b]) rfl rfl rfl rfl rfl rfl rfl hO takeZ (cells_own memZ) rfl oneZ (by omega) (by simp only [maxLen]; omega) (by omega)) rfl rfl rfl ?_
   rintro u1 _ ⟨σ1,hO1,rfl⟩;refine Aaa ?_;refine Abf ?_
   refine BG (k+1,(u1,σ1)) ⟨by dsimp only; omega,?_⟩ (by dsimp only; omega) covZ selZ
   dsimp only
   rw [hn,List.length_append,List.flatMap_append];exact hO1
 ·have hke:k=l.length:=by omega
  subst hke;rw [List.take_length] at hO;refine Ab5 ?_;refine Abi ?_;exact AK (res1 rfl rfl) rsubZ selZ ⟨σ,hO,rfl⟩
end Go.Proofs.YtekcielcagdcmaaGreatDoor
namespace Go.Step
structure Dm where
  s:Int
  d:Int
  v:Int
  r:Int
  e:Int
deriving DecidableEq
def okDm (nq:Nat) (d:Dm):Prop:=(0≤d.s∧d.s<nq)∧(0≤d.d∧d.d<nq)∧d.s≠d.d∧(1≤d.v∧d.v≤1099511627776)∧(0≤d.r∧d.r<d.e∧d.e≤1099511627776∧d.e-d.r≤100)
instance (nq:Nat) (d:Dm):Decidable (okDm nq d):=inferInstanceAs (Decidable (_∧_))
def roomT (qs:List Int) (hs:List Hd) (d:Dm) (n t:Int):Int:=if n=d.s∨n=d.d then 1099511627776 else qs.getD n.toNat 0-stored hs n t
end Go.Step
namespace Go.Proofs.YtekcielcagdcmaaGreatDoor
open Go.Eng Go.Step
set_option maxRecDepth 100000
set_option maxHeartbeats 64000000
theorem chkPl_ct {qs:List Int} {cs:List Ct} (h:chkPl qs cs=0):cs.length≤64∧∀ c∈cs,chkCt c=0∧c.f<qs.length∧c.t<qs.length:=by
 unfold chkPl at h
 by_cases h1:qs.length<1∨16<qs.length∨64<cs.length
 ·rw [if_pos h1] at h; omega
 rw [if_neg h1] at h
 by_cases h2:firstE (quoE qs) qs.length=0
 ·rw [if_neg (by simpa using h2)] at h
  refine ⟨by omega,fun c hc=>?_⟩
  obtain ⟨i,hi,rfl⟩:=List.getElem_of_mem hc
  have h3:=firstE_zero h i hi
  rw [ctE_at (List.getElem?_eq_getElem hi)] at h3
  by_cases h4:chkCt cs[i]=0
  ·rw [if_neg (by simpa using h4)] at h3
   by_cases h5:(qs.length:Int)≤cs[i].f∨(qs.length:Int)≤cs[i].t
   ·rw [if_pos h5] at h3; omega
   ·exact ⟨h4,by omega,by omega⟩
  ·rw [if_pos h4] at h3; exact absurd h3 h4
 ·rw [if_pos h2] at h; exact absurd h h2
end Go.Proofs.YtekcielcagdcmaaGreatDoor
namespace Go.Step
end Go.Step
namespace Go.Step
def okSp (x:Int × Int):Prop:=x.1<x.2 ∧ -1152921504606846976≤x.1∧x.2≤1152921504606846976
instance (x:Int × Int):Decidable (okSp x):=inferInstanceAs (Decidable (_∧_))
def spE (l:List (Int × Int)) (i:Nat):Int:=match l[i]? with
  | some x=>if ¬ okSp x then 2 else if 0<i∧x.1≤(l.getD (i-1) x).2 then 9 else 0
  | none=>0
theorem spE_at {l:List (Int × Int)} {i:Nat} {x:Int × Int} (e:l[i]?=some x):spE l i=if ¬ okSp x then 2 else if 0<i∧x.1≤(l.getD (i-1) x).2 then 9 else 0:=by unfold spE; rw [e]
def chkI (l:List (Int × Int)):Int:=if 1000<l.length then 4 else firstE (spE l) l.length
def inSp (t:Int) (x:Int × Int):Bool:=decide (x.1≤t) && decide (t<x.2)
end Go.Step
namespace Go.Step
abbrev Cu:=List (List (Int × Int))
def cuAt (c:Cu) (n:Int):List (Int × Int):=c.getD n.toNat []
end Go.Step
namespace Go.Step
theorem chkI_at {l:List (Int × Int)} (h:chkI l=0) {i:Nat} (hi:i<l.length):l[i].1<l[i].2∧(∀ h0:0<i,l[i-1].2<l[i].1):=by
  unfold chkI at h
  split at h
  · simp at h
  have h2:=firstE_zero h i hi
  rw [spE_at (List.getElem?_eq_getElem hi)] at h2
  split at h2
  · simp at h2
  rename_i h3
  split at h2
  · simp at h2
  rename_i h4
  have h5:okSp l[i]:=Decidable.not_not.1 h3
  refine ⟨h5.1,fun h0=>?_⟩
  rw [List.getD_eq_getElem?_getD,List.getElem?_eq_getElem (by omega),Option.getD_some] at h4
  omega
theorem chkI_hi {l:List (Int × Int)} (h:chkI l=0):∀ (k:Nat) {i:Nat} (hi:i+k<l.length),l[i].2≤l[i+k].2
  | 0,i,hi=>Int.le_refl _
  | k+1,i,hi=>by
    have h1:=chkI_hi h k (i:=i) (by omega)
    have h2:=(chkI_at h (i:=i+(k+1)) hi).1
    have h3:=(chkI_at h hi).2 (by omega)
    have e:i+(k+1)-1=i+k:=by omega
    simp only [e] at h3;omega
end Go.Step
namespace Go.Step
abbrev Iv:=List (Int × Int)
def NormI (l:Iv):Prop:=(∀ x∈l,x.1<x.2)∧l.Pairwise (fun x y=>x.2<y.1)
def memI (l:Iv) (t:Int):Bool:=l.any (inSp t)
theorem inSp_iff {t:Int} {x:Int × Int}:inSp t x=true↔x.1≤t∧t<x.2:=by simp [inSp]
theorem memI_iff {l:Iv} {t:Int}:memI l t=true↔∃ x∈l,x.1≤t∧t<x.2:=by simp [memI,inSp]
theorem memI_cons (x:Int × Int) (l:Iv) (t:Int):memI (x::l) t=(inSp t x || memI l t):=rfl
theorem memI_append (a b:Iv) (t:Int):memI (a ++ b) t=(memI a t || memI b t):=by unfold memI; rw [List.any_append]
theorem NormI.nil:NormI []:=⟨by simp,.nil⟩
theorem NormI.tail {x:Int × Int} {l:Iv} (h:NormI (x::l)):NormI l:=⟨fun y hy=>h.1 y (by simp [hy]),(List.pairwise_cons.1 h.2).2⟩
theorem NormI.hd {x:Int × Int} {l:Iv} (h:NormI (x::l)):x.1<x.2∧∀ y∈l,x.2<y.1:=⟨h.1 x (by simp),(List.pairwise_cons.1 h.2).1⟩
theorem NormI.cons {x:Int × Int} {l:Iv} (h:NormI l) (h1:x.1<x.2) (h2:∀ y∈l,x.2<y.1):NormI (x::l):=
  ⟨fun y hy=>by
    rcases List.mem_cons.1 hy with rfl|hy
    · exact h1
    · exact h.1 y hy,List.pairwise_cons.2 ⟨h2,h.2⟩⟩
theorem memI_lo {x:Int × Int} {l:Iv} {t:Int} (h:NormI (x::l)) (hm:memI (x::l) t=true):x.1≤t:=by
  obtain ⟨y,hy,h1,h2⟩:=memI_iff.1 hm
  rcases List.mem_cons.1 hy with rfl|hy
  · exact h1
  · have a:=h.hd.1
    have b:=h.hd.2 y hy
    omega
theorem memI_lo2 {x:Int × Int} {l:Iv} {t:Int} (h:NormI (x::l)) (hm:memI l t=true):x.2<t:=by
  obtain ⟨y,hy,h1,h2⟩:=memI_iff.1 hm
  have b:=h.hd.2 y hy
  omega
theorem memI_first {x:Int × Int} {l:Iv} (h:x.1<x.2):memI (x::l) x.1=true:=memI_iff.2 ⟨x,by simp,by omega,h⟩
theorem normI_ext:∀ {a b:Iv},NormI a→NormI b→(∀ t,memI a t=memI b t)→a=b
  | [],[],_,_,_=>rfl
  | [],y::b,_,hb,h=>by
    have:=h y.1
    rw [memI_first hb.hd.1] at this
    exact absurd this (by simp [memI])
  | x::a,[],ha,_,h=>by
    have:=h x.1
    rw [memI_first ha.hd.1] at this
    exact absurd this (by simp [memI])
  | x::a,y::b,ha,hb,h=>by
    have e1:x.1=y.1:=by
      have h1:=memI_lo hb (t:=x.1) (by rw [← h]; exact memI_first ha.hd.1)
      have h2:=memI_lo ha (t:=y.1) (by rw [h]; exact memI_first hb.hd.1)
      omega
    have hx:=ha.hd.1
    have hy:=hb.hd.1
    have e2:x.2=y.2:=by
      apply Int.le_antisymm
      · apply Int.not_lt.1
        intro hlt
        have h1:=h y.2
        rw [memI_cons,memI_cons,(inSp_iff (t:=y.2) (x:=x)).2 ⟨by omega,hlt⟩,Bool.true_or] at h1
        rcases (Bool.or_eq_true _ _).mp h1.symm with h2|h2
        · have:=(inSp_iff.1 h2).2; omega
        · have:=memI_lo2 hb h2; omega
      · apply Int.not_lt.1
        intro hlt
        have h1:=h x.2
        rw [memI_cons,memI_cons,(inSp_iff (t:=x.2) (x:=y)).2 ⟨by omega,hlt⟩,Bool.true_or] at h1
        rcases (Bool.or_eq_true _ _).mp h1 with h2|h2
        · have:=(inSp_iff.1 h2).2; omega
        · have:=memI_lo2 ha h2; omega
    have exy:x=y:=Prod.ext e1 e2
    subst exy
    congr 1
    refine normI_ext ha.tail hb.tail (fun t=>?_)
    by_cases ht:x.2<t
    · have h1:=h t
      have h2:inSp t x=false:=by
        cases e:inSp t x with
        | false=>rfl
        | true=>have:=(inSp_iff.1 e).2; omega
      rw [memI_cons,memI_cons,h2,Bool.false_or,Bool.false_or] at h1;exact h1
    · have h1:memI a t=false:=by
        cases e:memI a t with
        | false=>rfl
        | true=>exact absurd (memI_lo2 ha e) ht
      have h2:memI b t=false:=by
        cases e:memI b t with
        | false=>rfl
        | true=>exact absurd (memI_lo2 hb e) ht
      rw [h1,h2]
/-! sets that are checked -/
theorem chkI_norm {l:Iv} (h:chkI l=0):l.length≤1000∧NormI l∧∀ x∈l,okSp x:=by
  have h1:l.length≤1000:=by
    unfold chkI at h
    split at h
    · simp at h
    · omega
  refine ⟨h1,⟨fun x hx=>?_,List.pairwise_iff_getElem.2 (fun i j hi hj hij=>?_)⟩,fun x hx=>?_⟩
  · obtain ⟨i,hi,rfl⟩:=List.getElem_of_mem hx
    exact (chkI_at h hi).1
  · have a:=chkI_hi h (j-1-i) (i:=i) (by omega)
    have b:=(chkI_at h hj).2 (by omega)
    have e:i+(j-1-i)=j-1:=by omega
    simp only [e] at a;omega
  · obtain ⟨i,hi,rfl⟩:=List.getElem_of_mem hx
    unfold chkI at h
    rw [if_neg (by omega)] at h
    have h2:=firstE_zero h i hi
    rw [spE_at (List.getElem?_eq_getElem hi)] at h2
    split at h2
    · simp at h2
    · rename_i h3; exact Decidable.not_not.1 h3
theorem chkI_of {l:Iv} (h1:l.length≤1000) (h2:NormI l) (h3:∀ x∈l,okSp x):chkI l=0:=by
  unfold chkI
  rw [if_neg (by omega)]
  refine firstE_all (fun k hk=>?_)
  rw [spE_at (List.getElem?_eq_getElem hk),if_neg (fun h=>h (h3 _ (List.getElem_mem hk)))]
  by_cases h0:0<k
  · have h4:=List.pairwise_iff_getElem.1 h2.2 (k-1) k (by omega) hk (by omega)
    rw [if_neg]
    rw [List.getD_eq_getElem?_getD,List.getElem?_eq_getElem (by omega),Option.getD_some]
    omega
  · rw [if_neg (fun h=>h0 h.1)]
/-! one more span -/
/-! intersection,span by span -/
/-! ends of spans -/
def tog (l:Iv):List Int:=l.flatMap (fun x=>[x.1,x.2])
theorem tog_len:∀ l:Iv,(tog l).length=2*l.length
  | []=>rfl
  | x::l=>by
    have:=tog_len l
    show (x.1::x.2::tog l).length=_
    simp only [List.length_cons];omega
theorem tog_get:∀ (l:Iv) (i:Nat) (x:Int × Int),l[i]?=some x→(tog l)[2*i]?=some x.1∧(tog l)[2*i+1]?=some x.2
  | [],i,x,h=>by simp at h
  | y::l,0,x,h=>by
    simp only [List.getElem?_cons_zero,Option.some.injEq] at h;subst h;exact ⟨rfl,rfl⟩
  | y::l,i+1,x,h=>by
    have:=tog_get l i x (by simpa using h)
    show (y.1::y.2::tog l)[2*(i+1)]?=_∧(y.1::y.2::tog l)[2*(i+1)+1]?=_
    rw [show 2*(i+1)=2*i+1+1 by omega]
    exact this
def parT:List Int→Int→Bool
  | [],_=>false
  | e::E,t=>if e≤t then !(parT E t) else parT E t
theorem parT_tog:∀ {l:Iv},NormI l→∀ t,parT (tog l) t=memI l t
  | [],_,t=>rfl
  | x::l,h,t=>by
    have ih:=parT_tog h.tail t
    have hx:=h.hd.1
    show (if x.1≤t then !(if x.2≤t then !(parT (tog l) t) else parT (tog l) t) else (if x.2≤t then !(parT (tog l) t) else parT (tog l) t))=(inSp t x || memI l t)
    rw [ih]
    have h1:t≤x.2→memI l t=false:=fun hle=>by
      cases e:memI l t with
      | false=>rfl
      | true=>have:=memI_lo2 h e; omega
    have h2:inSp t x=decide (x.1≤t∧t<x.2):=by rw [Bool.eq_iff_iff,inSp_iff,decide_eq_true_eq]
    rw [h2]
    by_cases c1:x.1≤t
    · by_cases c2:x.2≤t
      · rw [if_pos c1,if_pos c2,decide_eq_false (by omega),Bool.not_not,Bool.false_or]
      · rw [if_pos c1,if_neg c2,decide_eq_true (by omega),h1 (by omega)]; rfl
    · rw [if_neg c1,if_neg (by omega),decide_eq_false (by omega),Bool.false_or]
def oddB (n:Nat):Bool:=decide (n % 2=1)
theorem oddB_succ (n:Nat):oddB (n+1) = !(oddB n):=by
  unfold oddB
  by_cases h:n % 2=1
  · rw [decide_eq_true h,decide_eq_false (by omega)]; rfl
  · rw [decide_eq_false h,decide_eq_true (by omega)]; rfl
theorem parT_snoc (t x:Int):∀ O:List Int,parT (O ++ [t]) x=if t≤x then !(parT O x) else parT O x
  | []=>by simp [parT]
  | o::O=>by
    have ih:=parT_snoc t x O
    show (if o≤x then !(parT (O ++ [t]) x) else parT (O ++ [t]) x)=if t≤x then !(if o≤x then !(parT O x) else parT O x) else (if o≤x then !(parT O x) else parT O x)
    rw [ih]
    split <;> split <;> rfl
theorem parT_all {x:Int}:∀ {O:List Int},(∀ o∈O,o≤x)→parT O x=oddB O.length
  | [],_=>rfl
  | o::O,h=>by
    show (if o≤x then !(parT O x) else parT O x)=oddB (O.length+1)
    rw [if_pos (h o (by simp)),parT_all (fun p hp=>h p (by simp [hp])),oddB_succ]
theorem parT_none {x:Int}:∀ {O:List Int},(∀ o∈O,x<o)→parT O x=false
  | [],_=>rfl
  | o::O,h=>by
    show (if o≤x then !(parT O x) else parT O x)=false
    have:=h o (by simp)
    rw [if_neg (by omega),parT_none (fun p hp=>h p (by simp [hp]))]
def mrg:List Int→Bool→List Int→Bool→List (Int × Bool × Bool)
  | [],_,[],_=>[]
  | a::A,p,[],q=>(a,!p,q)::mrg A (!p) [] q
  | [],p,b::B,q=>(b,p,!q)::mrg [] p B (!q)
  | a::A,p,b::B,q=>if a<b then (a,!p,q)::mrg A (!p) (b::B) q else if b<a then (b,p,!q)::mrg (a::A) p B (!q) else (a,!p,!q)::mrg A (!p) B (!q)
termination_by A _ B _=>A.length+B.length
def mcomb1 (f:Bool→Bool→Bool) (O:List Int) (e:Int × Bool × Bool):List Int:=if f e.2.1 e.2.2=oddB O.length then O else O ++ [e.1]
def mcomb (f:Bool→Bool→Bool) (S:List (Int × Bool × Bool)) (O:List Int):List Int:=S.foldl (mcomb1 f) O
theorem comb1_odd (f:Bool→Bool→Bool) (O:List Int) (e:Int × Bool × Bool):oddB (mcomb1 f O e).length=f e.2.1 e.2.2:=by
  unfold mcomb1
  split
  · rename_i h; exact h.symm
  · rename_i h
    rw [List.length_append,List.length_singleton,oddB_succ]
    cases h1:oddB O.length <;> cases h2:f e.2.1 e.2.2 <;> simp_all
structure Cm (f:Bool→Bool→Bool) (A:List Int) (p:Bool) (B:List Int) (q:Bool) (O O':List Int):Prop where
  asc:O'.Pairwise (· < ·)
  hi:∀ x,(∀ o∈O,o≤x)→parT O' x=f (p ^^ parT A x) (q ^^ parT B x)
  lo:∀ x,(∀ a∈A,x<a)→(∀ b∈B,x<b)→parT O' x=parT O x
  len:O'.length≤O.length+A.length+B.length
theorem Cm.step {f:Bool→Bool→Bool} {A A1:List Int} {p p1:Bool} {B B1:List Int} {q q1:Bool} {O O':List Int} {t:Int}
    (h:Cm f A1 p1 B1 q1 (mcomb1 f O (t,p1,q1)) O') (ho:oddB O.length=f p q) (hA:∀ a∈A,t≤a) (hB:∀ b∈B,t≤b) (hOt:∀ o∈O,o<t)
    (eA:∀ x,t≤x→(p1 ^^ parT A1 x)=(p ^^ parT A x)) (eB:∀ x,t≤x→(q1 ^^ parT B1 x)=(q ^^ parT B x)) (sA:∀ a∈A1,t<a) (sB:∀ b∈B1,t<b) (hl:A1.length+B1.length+1≤A.length+B.length) (hin:t∈A∨t∈B):Cm f A p B q O O':=by
  have hmem:∀ o∈mcomb1 f O (t,p1,q1),o≤t:=fun o ho=>by
    unfold mcomb1 at ho
    split at ho
    · have:=hOt o ho; omega
    · rcases List.mem_append.1 ho with h|h
      · have:=hOt o h; omega
      · have:=List.mem_singleton.1 h; omega
  have hpre:∀ x,x<t→parT (mcomb1 f O (t,p1,q1)) x=parT O x:=fun x hx=>by
    unfold mcomb1
    split
    · rfl
    · rw [parT_snoc,if_neg (by dsimp only; omega)]
  have hcl:(mcomb1 f O (t,p1,q1)).length≤O.length+1:=by
    unfold mcomb1
    split
    · omega
    · simp
  refine ⟨h.asc,fun x hx=>?_,fun x hx hy=>?_,by have:=h.len; omega⟩
  · by_cases ht:t≤x
    · rw [h.hi x (fun o ho=>Int.le_trans (hmem o ho) ht),eA x ht,eB x ht]
    · rw [h.lo x (fun a ha=>by have:=sA a ha; omega) (fun b hb=>by have:=sB b hb; omega),hpre x (by omega),parT_all hx,parT_none (fun a ha=>by have:=hA a ha; omega),parT_none (fun b hb=>by have:=hB b hb; omega),Bool.xor_false,Bool.xor_false,ho]
  · have ht:x<t:=by
      rcases hin with h|h
      · exact hx t h
      · exact hy t h
    rw [h.lo x (fun a ha=>by have:=sA a ha; omega) (fun b hb=>by have:=sB b hb; omega),hpre x ht]
theorem comb1_asc {f:Bool→Bool→Bool} {O:List Int} {e:Int × Bool × Bool} (h:O.Pairwise (· < ·)) (ho:∀ o∈O,o<e.1):(mcomb1 f O e).Pairwise (· < ·):=by
  unfold mcomb1
  split
  · exact h
  · rw [List.pairwise_append]
    exact ⟨h,List.pairwise_singleton _ _,fun a ha b hb=>by rw [List.mem_singleton.1 hb]; exact ho a ha⟩
theorem comb1_lt {f:Bool→Bool→Bool} {O:List Int} {e:Int × Bool × Bool} {S:List Int} (ho:∀ o∈O,∀ a∈S,o<a) (he:∀ a∈S,e.1<a):∀ o∈mcomb1 f O e,∀ a∈S,o<a:=fun o h a ha=>by
  unfold mcomb1 at h
  split at h
  · exact ho o h a ha
  · rcases List.mem_append.1 h with h|h
    · exact ho o h a ha
    · rw [List.mem_singleton.1 h]; exact he a ha
theorem comb_ok (f:Bool→Bool→Bool):∀ (n:Nat) (A:List Int) (p:Bool) (B:List Int) (q:Bool) (O:List Int),A.length+B.length≤n→A.Pairwise (· < ·)→B.Pairwise (· < ·)→O.Pairwise (· < ·)→(∀ o∈O,∀ a∈A,o<a)→(∀ o∈O,∀ b∈B,o<b)→oddB O.length=f p q→Cm f A p B q O (mcomb f (mrg A p B q) O):=by
  have flip:∀ (p z:Bool),(!p ^^ z)=(p ^^ !z):=by decide
  intro n
  induction n with
  | zero =>
    intro A p B q O hn _ _ hO _ _ ho
    obtain rfl:A=[]:=List.eq_nil_of_length_eq_zero (by omega)
    obtain rfl:B=[]:=List.eq_nil_of_length_eq_zero (by omega)
    unfold mrg
    exact ⟨hO,fun x hx=>by rw [show mcomb f [] O=O from rfl,parT_all hx,ho]; simp [parT],fun _ _ _=>rfl,by show O.length≤_; omega⟩
  | succ n ih =>
    intro A p B q O hn hA hB hO hOA hOB ho
    match A,B,hn,hA,hB,hOA,hOB with
    | [],[],_,_,_,_,_ =>
      unfold mrg
      exact ⟨hO,fun x hx=>by rw [show mcomb f [] O=O from rfl,parT_all hx,ho]; simp [parT],fun _ _ _=>rfl,by show O.length≤_; omega⟩
    | a::A,[],hn,hA,hB,hOA,hOB =>
      unfold mrg
      obtain ⟨a1,a2⟩:=List.pairwise_cons.1 hA
      refine Cm.step (t:=a) (ih A (!p) [] q (mcomb1 f O (a,!p,q)) (by simp at hn ⊢; omega) a2 hB (comb1_asc hO (fun o h=>hOA o h a (by simp))) (comb1_lt (fun o h x hx=>hOA o h x (by simp [hx])) a1) (fun _ _ _ h=>by simp at h) (comb1_odd f O _)) ho (fun x hx=>?_) (fun _ h=>by simp at h) (fun o h=>hOA o h a (by simp)) (fun x hx=>?_) (fun _ _=>rfl) a1 (fun _ h=>by simp at h) (by simp) (.inl (by simp))
      · rcases List.mem_cons.1 hx with rfl|hx
        · exact Int.le_refl _
        · exact Int.le_of_lt (a1 x hx)
      · show (!p ^^ parT A x)=(p ^^ if a≤x then !(parT A x) else parT A x)
        rw [if_pos hx,flip]
    | [],b::B,hn,hA,hB,hOA,hOB =>
      unfold mrg
      obtain ⟨b1,b2⟩:=List.pairwise_cons.1 hB
      refine Cm.step (t:=b) (ih [] p B (!q) (mcomb1 f O (b,p,!q)) (by simp at hn ⊢; omega) hA b2 (comb1_asc hO (fun o h=>hOB o h b (by simp))) (fun _ _ _ h=>by simp at h) (comb1_lt (fun o h x hx=>hOB o h x (by simp [hx])) b1) (comb1_odd f O _)) ho (fun _ h=>by simp at h) (fun x hx=>?_) (fun o h=>hOB o h b (by simp)) (fun _ _=>rfl) (fun x hx=>?_) (fun _ h=>by simp at h) b1 (by simp) (.inr (by simp))
      · rcases List.mem_cons.1 hx with rfl|hx
        · exact Int.le_refl _
        · exact Int.le_of_lt (b1 x hx)
      · show (!q ^^ parT B x)=(q ^^ if b≤x then !(parT B x) else parT B x)
        rw [if_pos hx,flip]
    | a::A,b::B,hn,hA,hB,hOA,hOB =>
      obtain ⟨a1,a2⟩:=List.pairwise_cons.1 hA
      obtain ⟨b1,b2⟩:=List.pairwise_cons.1 hB
      have la:∀ x∈a::A,a≤x:=fun x hx=>by
        rcases List.mem_cons.1 hx with rfl|hx
        · exact Int.le_refl _
        · exact Int.le_of_lt (a1 x hx)
      have lb:∀ x∈b::B,b≤x:=fun x hx=>by
        rcases List.mem_cons.1 hx with rfl|hx
        · exact Int.le_refl _
        · exact Int.le_of_lt (b1 x hx)
      unfold mrg
      split
      · rename_i hc
        refine Cm.step (t:=a) (ih A (!p) (b::B) q (mcomb1 f O (a,!p,q)) (by simp at hn ⊢; omega) a2 hB (comb1_asc hO (fun o h=>hOA o h a (by simp))) (comb1_lt (fun o h x hx=>hOA o h x (by simp [hx])) a1) (comb1_lt hOB (fun x hx=>by have:=lb x hx; dsimp only; omega)) (comb1_odd f O _)) ho la (fun x hx=>by have:=lb x hx; omega) (fun o h=>hOA o h a (by simp)) (fun x hx=>?_) (fun _ _=>rfl) a1 (fun x hx=>by have:=lb x hx; omega) (by simp only [List.length_cons]; omega) (.inl (by simp))
        show (!p ^^ parT A x)=(p ^^ if a≤x then !(parT A x) else parT A x)
        rw [if_pos hx,flip]
      · rename_i hc
        split
        · rename_i hc2
          refine Cm.step (t:=b) (ih (a::A) p B (!q) (mcomb1 f O (b,p,!q)) (by simp at hn ⊢; omega) hA b2 (comb1_asc hO (fun o h=>hOB o h b (by simp))) (comb1_lt hOA (fun x hx=>by have:=la x hx; dsimp only; omega)) (comb1_lt (fun o h x hx=>hOB o h x (by simp [hx])) b1) (comb1_odd f O _)) ho (fun x hx=>by have:=la x hx; omega) lb (fun o h=>hOB o h b (by simp)) (fun _ _=>rfl) (fun x hx=>?_) (fun x hx=>by have:=la x hx; omega) b1 (by simp only [List.length_cons]; omega) (.inr (by simp))
          show (!q ^^ parT B x)=(q ^^ if b≤x then !(parT B x) else parT B x)
          rw [if_pos hx,flip]
        · rename_i hc2
          have hab:a=b:=by omega
          subst hab
          refine Cm.step (t:=a) (ih A (!p) B (!q) (mcomb1 f O (a,!p,!q)) (by simp at hn ⊢; omega) a2 b2 (comb1_asc hO (fun o h=>hOA o h a (by simp))) (comb1_lt (fun o h x hx=>hOA o h x (by simp [hx])) a1) (comb1_lt (fun o h x hx=>hOB o h x (by simp [hx])) b1) (comb1_odd f O _)) ho la lb (fun o h=>hOA o h a (by simp)) (fun x hx=>?_) (fun x hx=>?_) a1 b1 (by simp only [List.length_cons]; omega) (.inl (by simp))
          · show (!p ^^ parT A x)=(p ^^ if a≤x then !(parT A x) else parT A x)
            rw [if_pos hx,flip]
          · show (!q ^^ parT B x)=(q ^^ if a≤x then !(parT B x) else parT B x)
            rw [if_pos hx,flip]
theorem tog_asc:∀ {l:Iv},NormI l→(tog l).Pairwise (· < ·)∧∀ lo,(∀ x∈l,lo<x.1)→∀ e∈tog l,lo<e
  | [],_=>⟨.nil,fun _ _ _ h=>by simp [tog] at h⟩
  | x::l,h=>by
    obtain ⟨h1,h2⟩:=tog_asc h.tail
    have e:tog (x::l)=x.1::x.2::tog l:=rfl
    have hx:=h.hd.1
    have h3:=h2 x.2 h.hd.2
    rw [e]
    refine ⟨List.pairwise_cons.2 ⟨fun a ha=>?_,List.pairwise_cons.2 ⟨h3,h1⟩⟩,fun lo hlo a ha=>?_⟩
    · rcases List.mem_cons.1 ha with rfl|ha
      · exact hx
      · have:=h3 a ha; omega
    · have:=hlo x (by simp)
      rcases List.mem_cons.1 ha with rfl|ha
      · exact this
      · rcases List.mem_cons.1 ha with rfl|ha
        · omega
        · have:=h3 a ha; omega
def spans:List Int→Iv
  | []=>[]
  | [a]=>[(a,0)]
  | a::b::E=>(a,b)::spans E
theorem spans_len:∀ E:List Int,(spans E).length=(E.length+1) / 2
  | []=>rfl
  | [_]=>by simp [spans]
  | a::b::E=>by
    have:=spans_len E
    simp only [spans,List.length_cons];omega
theorem spans_even (t:Int):∀ {E:List Int},oddB E.length=false→spans (E ++ [t])=spans E ++ [(t,0)]
  | [],_=>rfl
  | [_],h=>by simp [oddB] at h
  | a::b::E,h=>by
    have h':oddB E.length=false:=by
      simp only [List.length_cons,oddB_succ,Bool.not_not] at h;exact h
    show (a,b)::spans (E ++ [t])=_
    rw [spans_even t h']
    rfl
theorem spans_odd (t:Int):∀ {E:List Int},oddB E.length=true→∃ l a,spans E=l ++ [(a,0)]∧spans (E ++ [t])=l ++ [(a,t)]
  | [],h=>by simp [oddB] at h
  | [a],_=>⟨[],a,rfl,rfl⟩
  | a::b::E,h=>by
    have h':oddB E.length=true:=by
      simp only [List.length_cons,oddB_succ,Bool.not_not] at h;exact h
    obtain ⟨l,c,h1,h2⟩:=spans_odd t h'
    refine ⟨(a,b)::l,c,?_,?_⟩
    · show (a,b)::spans E=_
      rw [h1]; rfl
    · show (a,b)::spans (E ++ [t])=_
      rw [h2]; rfl
theorem spans_norm:∀ {E:List Int},oddB E.length=false→E.Pairwise (· < ·)→NormI (spans E)∧tog (spans E)=E
  | [],_,_=>⟨NormI.nil,rfl⟩
  | [_],h,_=>by simp [oddB] at h
  | a::b::E,h,hp=>by
    have h':oddB E.length=false:=by
      simp only [List.length_cons,oddB_succ,Bool.not_not] at h;exact h
    obtain ⟨p1,p2⟩:=List.pairwise_cons.1 hp
    obtain ⟨p3,p4⟩:=List.pairwise_cons.1 p2
    obtain ⟨h1,h2⟩:=spans_norm h' p4
    refine ⟨h1.cons (p1 b (by simp)) (fun y hy=>?_),?_⟩
    · have:y.1∈tog (spans E):=by
        unfold tog;rw [List.mem_flatMap]
        exact ⟨y,hy,by simp⟩
      rw [h2] at this;exact p3 _ this
    · show a::b::tog (spans E)=_
      rw [h2]
def combI (f:Bool→Bool→Bool) (a b:Iv):Iv:=spans (mcomb f (mrg (tog a) false (tog b) false) [])
theorem combI_ok {f:Bool→Bool→Bool} (hf:f false false=false) {a b:Iv} (ha:NormI a) (hb:NormI b):NormI (combI f a b)∧(∀ t,memI (combI f a b) t=f (memI a t) (memI b t))∧(combI f a b).length≤a.length+b.length:=by
  have h:=comb_ok f _ (tog a) false (tog b) false [] (Nat.le_refl _) (tog_asc ha).1 (tog_asc hb).1 .nil (fun _ h=>by simp at h) (fun _ h=>by simp at h) hf.symm
  have hx:∀ x,parT (mcomb f (mrg (tog a) false (tog b) false) []) x=f (memI a x) (memI b x):=fun x=>by
    rw [h.hi x (fun _ h=>by simp at h),parT_tog ha,parT_tog hb,Bool.false_xor,Bool.false_xor]
  have hlen:=h.len
  rw [tog_len,tog_len] at hlen
  have hodd:oddB (mcomb f (mrg (tog a) false (tog b) false) []).length=false:=by
    obtain ⟨B,hB⟩:∃ B:Int,(∀ e∈mcomb f (mrg (tog a) false (tog b) false) [],e≤B)∧(∀ x∈a,x.2≤B)∧(∀ x∈b,x.2≤B):=by
      have hi:∀ E:List Int,∃ B,∀ e∈E,e≤B:=fun E=>by
        induction E with
        | nil=>exact ⟨0,by simp⟩
        | cons e E ih =>
          obtain ⟨B,h⟩:=ih
          exact ⟨max B e, fun x hx => by rcases List.mem_cons.1 hx with rfl | hx; · omega
                                         · have:=h x hx; omega⟩
      obtain ⟨B1,h1⟩:=hi (mcomb f (mrg (tog a) false (tog b) false) [])
      obtain ⟨B2,h2⟩:=hi (a.map Prod.snd)
      obtain ⟨B3,h3⟩:=hi (b.map Prod.snd)
      refine ⟨max B1 (max B2 B3),fun e he=>?_,fun x hx=>?_,fun x hx=>?_⟩
      · have:=h1 e he; omega
      · have:=h2 x.2 (List.mem_map.2 ⟨x,hx,rfl⟩); omega
      · have:=h3 x.2 (List.mem_map.2 ⟨x,hx,rfl⟩); omega
    obtain ⟨h1,h2,h3⟩:=hB
    rw [← parT_all h1,hx]
    have n1:memI a B=false:=by
      cases e:memI a B with
      | false=>rfl
      | true=>obtain ⟨x,hx,_,h5⟩:=memI_iff.1 e; have:=h2 x hx; omega
    have n2:memI b B=false:=by
      cases e:memI b B with
      | false=>rfl
      | true=>obtain ⟨x,hx,_,h5⟩:=memI_iff.1 e; have:=h3 x hx; omega
    rw [n1,n2,hf]
  obtain ⟨h1,h2⟩:=spans_norm hodd h.asc
  refine ⟨h1,fun t=>?_,?_⟩
  · show memI (spans (mcomb f (mrg (tog a) false (tog b) false) [])) t=_
    rw [← parT_tog h1,h2,hx]
  · unfold combI
    rw [spans_len];simp only [List.length_nil] at hlen;omega
def unionI (a b:Iv):Iv:=combI (fun x y=>x || y) a b
end Go.Step
namespace Go.Step
theorem oddB_cases (p:Nat):(oddB p=true∧p=2*(p / 2)+1)∨(oddB p=false∧p=2*(p / 2)):=by
  unfold oddB
  by_cases h:p % 2=1
  · exact .inl ⟨decide_eq_true h,by omega⟩
  · exact .inr ⟨decide_eq_false h,by omega⟩
def nxtT (A B:List Int) (p q:Nat):Int:=if p<A.length then (if q<B.length∧B.getD q 0<A.getD p 0 then B.getD q 0 else A.getD p 0) else B.getD q 0
def stp (A:List Int) (t:Int) (p:Nat):Nat:=if p<A.length∧A.getD p 0=t then p+1 else p
theorem stp_le {A:List Int} {t:Int} {p:Nat} (h:p≤A.length):p≤stp A t p∧stp A t p≤A.length:=by
  unfold stp
  split <;> omega
theorem drop_at {A:List Int} {p:Nat} (h:p<A.length):A.drop p=A.getD p 0::A.drop (p+1):=by
  rw [List.drop_eq_getElem_cons h,List.getD_eq_getElem?_getD,List.getElem?_eq_getElem h]; rfl
theorem mrg_cc (a:Int) (A:List Int) (p:Bool) (b:Int) (B:List Int) (q:Bool):mrg (a::A) p (b::B) q=if a<b then (a,!p,q)::mrg A (!p) (b::B) q else if b<a then (b,p,!q)::mrg (a::A) p B (!q) else (a,!p,!q)::mrg A (!p) B (!q):=by
  conv=>lhs; unfold mrg
theorem mrg_cn (a:Int) (A:List Int) (p q:Bool):mrg (a::A) p [] q=(a,!p,q)::mrg A (!p) [] q:=by
  conv=>lhs; unfold mrg
theorem mrg_nc (b:Int) (B:List Int) (p q:Bool):mrg [] p (b::B) q=(b,p,!q)::mrg [] p B (!q):=by
  conv=>lhs; unfold mrg
theorem mrg_at {A B:List Int} {p q:Nat} (hp:p≤A.length) (hq:q≤B.length) (h:p<A.length∨q<B.length) :
    mrg (A.drop p) (oddB p) (B.drop q) (oddB q)=(nxtT A B p q,oddB (stp A (nxtT A B p q) p),oddB (stp B (nxtT A B p q) q))::mrg (A.drop (stp A (nxtT A B p q) p)) (oddB (stp A (nxtT A B p q) p)) (B.drop (stp B (nxtT A B p q) q)) (oddB (stp B (nxtT A B p q) q)):=by
  by_cases h1:p<A.length
  · by_cases h2:q<B.length
    · rw [drop_at h1,drop_at h2,mrg_cc]
      by_cases c1:A.getD p 0<B.getD q 0
      · have e:nxtT A B p q=A.getD p 0:=by unfold nxtT; rw [if_pos h1,if_neg (by omega)]
        have e1:stp A (A.getD p 0) p=p+1:=by unfold stp; rw [if_pos ⟨h1,rfl⟩]
        have e2:stp B (A.getD p 0) q=q:=by unfold stp; rw [if_neg (by omega)]
        rw [if_pos c1,e,e1,e2,oddB_succ,drop_at h2]
      · by_cases c2:B.getD q 0<A.getD p 0
        · have e:nxtT A B p q=B.getD q 0:=by unfold nxtT; rw [if_pos h1,if_pos ⟨h2,c2⟩]
          have e1:stp A (B.getD q 0) p=p:=by unfold stp; rw [if_neg (by omega)]
          have e2:stp B (B.getD q 0) q=q+1:=by unfold stp; rw [if_pos ⟨h2,rfl⟩]
          rw [if_neg c1,if_pos c2,e,e1,e2,oddB_succ,drop_at h1]
        · have e:nxtT A B p q=A.getD p 0:=by unfold nxtT; rw [if_pos h1,if_neg (by omega)]
          have e1:stp A (A.getD p 0) p=p+1:=by unfold stp; rw [if_pos ⟨h1,rfl⟩]
          have e2:stp B (A.getD p 0) q=q+1:=by unfold stp; rw [if_pos ⟨h2,by omega⟩]
          rw [if_neg c1,if_neg c2,e,e1,e2,oddB_succ,oddB_succ]
    · have hq2:q=B.length:=by omega
      subst hq2
      have e:nxtT A B p B.length=A.getD p 0:=by unfold nxtT; rw [if_pos h1,if_neg (by omega)]
      have e1:stp A (A.getD p 0) p=p+1:=by unfold stp; rw [if_pos ⟨h1,rfl⟩]
      have e2:stp B (A.getD p 0) B.length=B.length:=by unfold stp; rw [if_neg (by omega)]
      rw [drop_at h1,List.drop_length,e,e1,e2,oddB_succ,List.drop_length,mrg_cn]
  · have hp2:p=A.length:=by omega
    subst hp2
    have h2:q<B.length:=by omega
    have e:nxtT A B A.length q=B.getD q 0:=by unfold nxtT; rw [if_neg h1]
    have e1:stp A (B.getD q 0) A.length=A.length:=by unfold stp; rw [if_neg (by omega)]
    have e2:stp B (B.getD q 0) q=q+1:=by unfold stp; rw [if_pos ⟨h2,rfl⟩]
    rw [drop_at h2,List.drop_length,e,e1,e2,oddB_succ,List.drop_length,mrg_nc]
theorem stp_go {A B:List Int} {p q:Nat} (h:p<A.length∨q<B.length):p<stp A (nxtT A B p q) p∨q<stp B (nxtT A B p q) q:=by
  by_cases h1:p<A.length
  · by_cases h2:q<B.length∧B.getD q 0<A.getD p 0
    · have e:nxtT A B p q=B.getD q 0:=by unfold nxtT; rw [if_pos h1,if_pos h2]
      right; rw [e]; unfold stp; rw [if_pos ⟨h2.1,rfl⟩]; omega
    · have e:nxtT A B p q=A.getD p 0:=by unfold nxtT; rw [if_pos h1,if_neg h2]
      left; rw [e]; unfold stp; rw [if_pos ⟨h1,rfl⟩]; omega
  · have e:nxtT A B p q=B.getD q 0:=by unfold nxtT; rw [if_neg h1]
    right; rw [e]; unfold stp; rw [if_pos ⟨by omega,rfl⟩]; omega
theorem mrg_len:∀ (n:Nat) (A:List Int) (p:Bool) (B:List Int) (q:Bool),A.length+B.length≤n→(mrg A p B q).length≤A.length+B.length
  | n,[],p,[],q,_=>by unfold mrg; simp
  | 0,a::A,p,B,q,h=>by simp at h
  | 0,[],p,b::B,q,h=>by simp at h
  | n+1,a::A,p,[],q,h=>by
    rw [mrg_cn]
    have:=mrg_len n A (!p) [] q (by simp at h ⊢; omega)
    simp at this ⊢
    omega
  | n+1,[],p,b::B,q,h=>by
    rw [mrg_nc]
    have:=mrg_len n [] p B (!q) (by simp at h ⊢; omega)
    simp at this ⊢
    omega
  | n+1,a::A,p,b::B,q,h=>by
    rw [mrg_cc]
    have h1:=mrg_len n A (!p) (b::B) q (by simp at h ⊢; omega)
    have h2:=mrg_len n (a::A) p B (!q) (by simp at h ⊢; omega)
    have h3:=mrg_len n A (!p) B (!q) (by simp at h ⊢; omega)
    simp at h1 h2 h3
    split
    · simp; omega
    · split <;> simp <;> omega
theorem mcomb1_len (f:Bool→Bool→Bool) (O:List Int) (e:Int × Bool × Bool):(mcomb1 f O e).length≤O.length+1:=by
  unfold mcomb1
  split
  · omega
  · simp
theorem mcomb_len (f:Bool→Bool→Bool):∀ (S:List (Int × Bool × Bool)) (O:List Int),(mcomb f S O).length≤O.length+S.length
  | [],O=>by simp [mcomb]
  | e::S,O=>by
    have h1:=mcomb_len f S (mcomb1 f O e)
    have h2:=mcomb1_len f O e
    show (mcomb f S (mcomb1 f O e)).length≤_
    simp
    omega
theorem mcomb_next (f:Bool→Bool→Bool) {S:List (Int × Bool × Bool)} {i:Nat} {e:Int × Bool × Bool} (h:S[i]?=some e) (O:List Int):mcomb f (S.take (i+1)) O=mcomb1 f (mcomb f (S.take i) O) e:=by
  obtain ⟨hi,rfl⟩:=List.getElem?_eq_some_iff.1 h
  rw [List.take_succ_eq_append_getElem hi];unfold mcomb;rw [List.foldl_append]
  rfl
theorem mrg_end {A B:List Int} {p q:Bool}:mrg (A.drop A.length) p (B.drop B.length) q=[]:=by
  rw [List.drop_length,List.drop_length];unfold mrg
  rfl
theorem drop_head {α:Type} {S:List α} {k:Nat} {x:α} {r:List α} (h:S.drop k=x::r):S[k]?=some x∧S.drop (k+1)=r∧k<S.length:=by
  have hk:k<S.length:=by
    apply Nat.lt_of_not_le
    intro hc
    rw [List.drop_eq_nil_of_le hc] at h
    simp at h
  rw [List.drop_eq_getElem_cons hk,List.cons.injEq] at h
  exact ⟨by rw [List.getElem?_eq_getElem hk,h.1],h.2,hk⟩
end Go.Step
namespace Go.Step
theorem bks_apart {cs:List Ct} {l:List Bk} (h:firstE (bkE cs l) l.length=0):l.Pairwise (fun x y=>x.c<y.c∨(x.c=y.c∧x.b≤y.a)):=by
  have hok:=bkE_ok h
  have hlt:∀ x∈l,x.a<x.b:=fun x hx=>by
    obtain ⟨_,c,_,_,h2,_⟩:=hok x hx
    exact h2
  have hstep:∀ i,(hi:i+1<l.length)→l[i].c<l[i+1].c∨(l[i].c=l[i+1].c∧l[i].b≤l[i+1].a):=fun i hi=>by
    have h2:=firstE_zero h (i+1) hi
    rw [bkE_at (List.getElem?_eq_getElem hi)] at h2
    split at h2
    · omega
    rw [if_neg (by omega)] at h2
    rw [Nat.add_sub_cancel,List.getD_eq_getElem?_getD,List.getElem?_eq_getElem (by omega),Option.getD_some] at h2
    unfold bk2E at h2
    split at h2
    · omega
    rename_i h3
    split at h2
    · omega
    rename_i h4
    have h5:=(cmpBk_lt _ _).1 (Decidable.not_not.1 h3)
    omega
  rw [List.pairwise_iff_getElem]
  intro i j hi hj hij
  obtain ⟨k,rfl⟩:∃ k,j=i+1+k:=⟨j-i-1,by omega⟩
  induction k with
  | zero=>exact hstep i hj
  | succ k ih =>
    have h1:=ih (by omega) (by omega)
    have h2:=hstep (i+1+k) (by omega)
    have h3:=hlt _ (List.getElem_mem (show i+1+k<l.length by omega))
    have e:i+1+(k+1)=i+1+k+1:=by omega
    simp only [e];omega
theorem busy_apart {cs:List Ct} {l:List Bk} (h:firstE (bkE cs l) l.length=0) (c:Int):(busyL l c).Pairwise (fun x y=>x.2≤y.1):=by
  unfold busyL;rw [List.pairwise_map]
  refine ((bks_apart h).filter _).imp_of_mem (fun {x y} hx hy hxy=>?_)
  have h1:=of_decide_eq_true (List.mem_filter.1 hx).2
  have h2:=of_decide_eq_true (List.mem_filter.1 hy).2
  dsimp only
  omega
theorem busy_in {cs:List Ct} {l:List Bk} (h:firstE (bkE cs l) l.length=0) {i:Nat} {c:Ct} (hc:cs[i]?=some c):∀ x∈busyL l i,c.s≤x.1∧x.1<x.2∧x.2≤c.e:=fun x hx=>by
  unfold busyL at hx
  obtain ⟨y,hy,rfl⟩:=List.mem_map.1 hx
  obtain ⟨hy1,hy2⟩:=List.mem_filter.1 hy
  have h2:=of_decide_eq_true hy2
  obtain ⟨_,c',e,h3⟩:=bkE_ok h y hy1
  rw [h2,Int.toNat_natCast,hc] at e
  obtain rfl:=Option.some.inj e
  exact h3
def gapsP (e:Int):Int→List (Int × Int)→List (Int × Int)
  | a,[]=>if a<e then [(a,e)] else []
  | a,x::l=>(if a<x.1 then [(a,x.1)] else []) ++ gapsP e x.2 l
theorem gapsP_len (e:Int):∀ (l:List (Int × Int)) (a:Int),(gapsP e a l).length≤l.length+1
  | [],a=>by unfold gapsP; split <;> simp
  | x::l,a=>by
    have:=gapsP_len e l x.2
    unfold gapsP;rw [List.length_append,List.length_cons]
    split <;> simp <;> omega
theorem gapsP_ok {e:Int}:∀ {l:List (Int × Int)} {a:Int},(∀ x∈l,a≤x.1∧x.1<x.2∧x.2≤e)→l.Pairwise (fun x y=>x.2≤y.1)→NormI (gapsP e a l)∧(∀ z∈gapsP e a l,a≤z.1∧z.2≤e)∧∀ t,memI (gapsP e a l) t=(decide (a≤t∧t<e) && !(memI l t))
  | [],a,_,_=>by
    unfold gapsP
    by_cases h:a<e
    · rw [if_pos h]
      refine ⟨NormI.nil.cons h (by simp),fun z hz=>?_,fun t=>?_⟩
      · rw [List.mem_singleton.1 hz]
        exact ⟨Int.le_refl _,Int.le_refl _⟩
      · simp [memI,inSp]
    · rw [if_neg h]
      refine ⟨NormI.nil,by simp,fun t=>?_⟩
      rw [decide_eq_false (by omega)]
      simp [memI]
  | x::l,a,hb,hp=>by
    obtain ⟨p1,p2⟩:=List.pairwise_cons.1 hp
    obtain ⟨h1,h2,h3⟩:=hb x (by simp)
    obtain ⟨k1,k2,k3⟩:=gapsP_ok (e:=e) (l:=l) (a:=x.2) (fun y hy=>⟨p1 y hy,(hb y (by simp [hy])).2⟩) p2
    unfold gapsP
    have hm:∀ t,memI l t=true→x.2≤t:=fun t ht=>by
      obtain ⟨y,hy,h4,_⟩:=memI_iff.1 ht
      have:=p1 y hy
      omega
    have hx:∀ t,inSp t x=decide (x.1≤t∧t<x.2):=fun t=>by rw [Bool.eq_iff_iff,inSp_iff,decide_eq_true_eq]
    by_cases h:a<x.1
    · rw [if_pos h,List.singleton_append]
      refine ⟨k1.cons h (fun z hz=>?_),fun z hz=>?_,fun t=>?_⟩
      · have:=k2 z hz
        dsimp only
        omega
      · rcases List.mem_cons.1 hz with rfl|hz
        · dsimp only; omega
        · have:=k2 z hz; omega
      · rw [memI_cons,memI_cons,k3,hx]
        have e1:inSp t (a,x.1)=decide (a≤t∧t<x.1):=by rw [Bool.eq_iff_iff,inSp_iff,decide_eq_true_eq]
        rw [e1]
        have hmt:=hm t
        cases hml:memI l t with
        | true =>
          have:=hmt hml
          rw [decide_eq_false (show ¬ (a≤t∧t<x.1) by omega)]
          simp
        | false =>
          simp only [Bool.not_false,Bool.and_true,Bool.or_false];rw [Bool.eq_iff_iff];simp only [Bool.or_eq_true,Bool.and_eq_true,decide_eq_true_eq,Bool.not_eq_true',decide_eq_false_iff_not];omega
    · rw [if_neg h,List.nil_append]
      refine ⟨k1,fun z hz=>by have:=k2 z hz; omega,fun t=>?_⟩
      rw [memI_cons,k3,hx]
      have hmt:=hm t
      cases hml:memI l t with
      | true =>
        have:=hmt hml
        simp
      | false =>
        simp only [Bool.not_false,Bool.and_true,Bool.or_false];rw [Bool.eq_iff_iff];simp only [Bool.and_eq_true,decide_eq_true_eq,Bool.not_eq_true',decide_eq_false_iff_not];omega
def freeC (cs:List Ct) (bs:List Bk) (i:Nat):List (Int × Int):=match cs[i]? with
  | some c=>gapsP c.e c.s (busyL bs i)
  | none=>[]
theorem freeC_ok {cs:List Ct} {bs:List Bk} (h:firstE (bkE cs bs) bs.length=0) {i:Nat} {c:Ct} (hc:cs[i]?=some c):NormI (freeC cs bs i)∧(∀ z∈freeC cs bs i,c.s≤z.1∧z.2≤c.e)∧∀ t,memI (freeC cs bs i) t=(decide (c.s≤t∧t<c.e) && !(bookedB bs i t)):=by
  have hf:freeC cs bs i=gapsP c.e c.s (busyL bs i):=by unfold freeC; rw [hc]
  rw [hf];exact gapsP_ok (busy_in h hc) (busy_apart h i)
def rngI (a b:Int):List Int:=(List.range (b-a).toNat).map (fun k:Nat=>a+k)
def tickS (r e g:Int) (x:Int × Int):List Int:=rngI (max x.1 r) (min x.2 (e-g))
def tickL (r e g:Int) (l:List (Int × Int)):List Int:=l.flatMap (tickS r e g)
end Go.Step
namespace Go.Step
def SetsC (c:Cu):Prop:=∀ l∈c,chkI l=0∧l.length≤500
end Go.Step
namespace Go.Flow
structure Arc where
  f:Int
  t:Int
  c:Int
  deriving DecidableEq,Inhabited
def okArc (n:Int) (a:Arc):Bool:=decide (0≤a.f∧a.f<n∧0≤a.t∧a.t<n∧a.f≠a.t∧0≤a.c∧a.c≤1099511627776)
def chk (n:Int) (l:List Arc):Int:=if n<0 then 2 else if 2000<n∨20000<l.length then 4 else if l.all (okArc n) then 0 else 2
def okEnds (n s t:Int):Bool:=decide (0≤s∧s<n∧0≤t∧t<n∧s≠t)
theorem okArc_iff {n:Int} {a:Arc}:okArc n a=true↔(0≤a.f∧a.f<n∧0≤a.t∧a.t<n∧a.f≠a.t∧0≤a.c∧a.c≤1099511627776):=by unfold okArc; rw [decide_eq_true_eq]
def fval (v:Int):List Arc→List Int→Int
  | a::l,x::fl=>((if a.f=v then x else 0)-(if a.t=v then x else 0))+fval v l fl
  | _,_=>0
def inCap:List Arc→List Int→Bool
  | a::l,x::fl=>decide (0≤x∧x≤a.c) && inCap l fl
  | _,_=>true
def balanced (n:Nat) (l:List Arc) (fl:List Int) (s t:Int):Bool:=(List.range n).all (fun (v:Nat)=>decide ((v:Int)=s∨(v:Int)=t∨fval (v:Int) l fl=0))
def valueSpec (n:Int) (l:List Arc) (fl:List Int) (s t:Int):Int × Int:=
  if chk n l≠0 then (0,chk n l) else if okEnds n s t=false then (0,2) else if fl.length≠l.length then (0,10) else if inCap l fl=false then (0,2)
  else if balanced n.toNat l fl s t=false then (0,24) else (fval s l fl,0)
def capOf (p:Nat→Bool):List Arc→Int
  | []=>0
  | a::l=>(if p a.f.toNat=true∧p a.t.toNat=false then a.c else 0)+capOf p l
end Go.Flow
namespace Go.Flow
def leastR (rm:Nat→Int) (p:List Lk):Int:=p.foldl (fun m x=>min m (rm x.k)) 1099511627776
def rmR (l:List Arc) (fl:List Int) (k:Nat):Int:=if k % 2=0 then (l.getD (k / 2) default).c-fl.getD (k / 2) 0 else fl.getD (k / 2) 0
def rlFrom:Nat→List Arc→List Lk
  | _,[]=>[]
  | i,a::l=>⟨2*i,a.f.toNat,a.t.toNat⟩::⟨2*i+1,a.t.toNat,a.f.toNat⟩::rlFrom (i+1) l
def rlinks (l:List Arc):List Lk:=rlFrom 0 l
end Go.Flow
namespace Go.Flow
def opn (ls:List Lk) (rm:Nat→Int) (x:Lk):Prop:=x∈ls∧0<rm x.k
inductive Chn (E:Lk→Prop):Nat→List Lk→Nat→Prop
  | nil {v:Nat}:Chn E v [] v
  | cons {x:Lk} {v:Nat} {p:List Lk} {u:Nat}:x.f=v→E x→Chn E x.t p u→Chn E v (x::p) u
section
variable {n t:Nat} {ls:List Lk} {rm:Nat→Int} {D:List Int}
end
/-! ### links of the residual graph -/
def augR (room:Int) (fl:List Int) (x:Lk):List Int:=fl.set (x.k / 2) (if x.k % 2=0 then fl.getD (x.k / 2) 0+room else fl.getD (x.k / 2) 0-room)
def augAll (room:Int) (fl:List Int) (p:List Lk):List Int:=p.foldl (augR room) fl
structure Flw (n:Nat) (l:List Arc) (s t:Nat) (fl:List Int):Prop where
  len:l.length=fl.length
  cap:inCap l fl=true
  bal:∀ v:Nat,v<n→v≠s→v≠t→fval v l fl=0
section
variable {n s t:Nat} {l:List Arc}
abbrev rE (l:List Arc) (fl:List Int):Lk→Prop:=opn (rlinks l) (rmR l fl)
abbrev rP (l:List Arc) (fl:List Int) (D:List Int) (s:Nat):List Lk:=pathD (nxt (rlinks l) (rmR l fl) D) D s
abbrev rNext (l:List Arc) (fl:List Int) (D:List Int) (s:Nat):List Int:=augAll (leastR (rmR l fl) (rP l fl D s)) fl (rP l fl D s)
end
inductive RunR (n:Nat) (l:List Arc) (s t:Nat):List Int→List Int→Prop
  | done {fl D:List Int}:IsDist n t (rE l fl) D→D.getD s 0<0→RunR n l s t fl fl
  | step {fl D F:List Int}:IsDist n t (rE l fl) D→0≤D.getD s 0→RunR n l s t (rNext l fl D s) F→RunR n l s t fl F
end Go.Flow
namespace Go.Flow
end Go.Flow
namespace Go.Flow
def sumTo (g:Nat→Int):Nat→Int
  | 0=>0
  | n+1=>sumTo g n+g n
def netB (B:Nat→Bool):List Arc→List Int→Int
  | a::l,x::fl=>((if B a.f.toNat=true then x else 0)-(if B a.t.toNat=true then x else 0))+netB B l fl
  | _,_=>0
section
variable {n s t:Nat} {l:List Arc} {fl:List Int} {B:Nat→Bool}
end
inductive Rch (E:Lk→Prop) (s:Nat):Nat→Prop
  | refl:Rch E s s
  | step {x:Lk}:Rch E s x.f→E x→Rch E s x.t
section
variable {n s t:Nat} {l:List Arc} {fl:List Int} {B:Nat→Bool}
def IsReach (n:Nat) (E:Lk→Prop) (s:Nat) (B:Nat→Bool):Prop:=∀ v,v<n→(B v=true↔Rch E s v)
end
end Go.Flow
namespace Go.Step
open Go.Flow (capOf chk okArc okArc_iff)
abbrev Arc:=Go.Flow.Arc
structure VOk (qs:List Int) (cs:List Ct) (bs:List Bk) (hs:List Hd) (d:Dm):Prop where
  ct:∀ c∈cs,(0≤c.f∧c.f<qs.length)∧(0≤c.t∧c.t<qs.length)∧(0≤c.s∧c.s<c.e∧c.e≤1099511627776)∧(1≤c.r∧c.r≤1000)∧(1≤c.g∧c.g≤1048576)
  nb:bs.length≤512
  bk:firstE (bkE cs bs) bs.length=0
  hd:∀ x∈hs,okHd qs.length x
  nh:hs.length≤512
  fit:fitB qs hs=true
  nq:1≤qs.length∧qs.length≤16
  quo:∀ (j:Nat) (q:Int),qs[j]?=some q→0≤q∧q≤1073741824
  dm:okDm qs.length d
  nc:cs.length≤64
def wd (d:Dm):Int:=d.e-d.r+1
def vtx (d:Dm) (n t:Int):Int:=n*wd d+(t-d.r)
structure EA where
  a:Arc
  c:Int
  t:Int
deriving DecidableEq
def waitN (qs:List Int) (hs:List Hd) (d:Dm) (n:Int):List EA:=(rngI d.r d.e).map (fun t=>⟨⟨vtx d n t,vtx d n (t+1),roomT qs hs d n t⟩,-1,t⟩)
def waitA (qs:List Int) (hs:List Hd) (d:Dm):Nat→List EA
  | 0=>[]
  | n+1=>waitA qs hs d n ++ waitN qs hs d n
def conE (d:Dm) (c:Ct) (i t:Int):EA:=⟨⟨vtx d c.f t,vtx d c.t (t+1+c.g),c.r⟩,i,t⟩
def conN (cs:List Ct) (bs:List Bk) (d:Dm) (i:Nat):List EA:=match cs[i]? with
  | none=>[]
  | some c=>(tickL d.r d.e c.g (freeC cs bs i)).map (conE d c i)
def conA (cs:List Ct) (bs:List Bk) (d:Dm):Nat→List EA
  | 0=>[]
  | i+1=>conA cs bs d i ++ conN cs bs d i
def arcsE (qs:List Int) (cs:List Ct) (bs:List Bk) (hs:List Hd) (d:Dm):List EA:=waitA qs hs d qs.length ++ conA cs bs d cs.length
def arcsG (qs:List Int) (cs:List Ct) (bs:List Bk) (hs:List Hd) (d:Dm):List Arc:=(arcsE qs cs bs hs d).map (fun x=>x.a)
section
variable {qs:List Int} {cs:List Ct} {bs:List Bk} {hs:List Hd} {d:Dm}
inductive ArcIs (qs:List Int) (cs:List Ct) (bs:List Bk) (hs:List Hd) (d:Dm):EA→Prop
  | wait {n:Nat} {t:Int}:n<qs.length→d.r≤t→t<d.e→ArcIs qs cs bs hs d ⟨⟨vtx d n t,vtx d n (t+1),roomT qs hs d n t⟩,-1,t⟩
  | con {i:Nat} {c:Ct} {t:Int}:cs[i]?=some c→d.r≤t→c.s≤t→t<c.e→t+1+c.g≤d.e→bookedB bs i t=false→ArcIs qs cs bs hs d (conE d c i t)
def vsN (qs:List Int) (d:Dm):Int:=qs.length*wd d
/-! sums over lists -/
/-! the capacity of a set of nodes at times -/
end
end Go.Step
namespace Go.Eng
variable {C : Cx} {D : List Deferred} {R H : List PH} {L : Env} {K : List It}
variable {dst : Option Tmp} {ty : TypeId} {pos : String} {aft : Array Edge} {g : Option (Nat × Bool)}
abbrev aggI (k : List Int) : Value := .agg (k.map int).toArray
def midxS (k : List Int) : List (List Int × Value) → Option (Nat × Value)
  | [] => none
  | (a, v) :: m => if k = a then some (0, v) else (midxS k m).map (fun p => (p.1 + 1, p.2))
def mgetS (k : List Int) (m : List (List Int × Value)) : Option Value := (midxS k m).map (·.2)
def msetS (k : List Int) (v : Value) : List (List Int × Value) → List (List Int × Value)
  | [] => [(k, v)]
  | (a, w) :: m => if k = a then (a, v) :: m else (a, w) :: msetS k v m
theorem mgetS_mset (k x : List Int) (v : Value) : ∀ m : List (List Int × Value), mgetS x (msetS k v m) = if x = k then some v else mgetS x m
  | [] => by
    by_cases h : x = k <;> simp [msetS, mgetS, midxS, h]
  | (a, w) :: m => by
    have ih := mgetS_mset k x v m
    by_cases h : k = a
    · subst h
      simp only [msetS, if_true, mgetS, midxS]
      by_cases e : x = k <;> simp [e]
    · simp only [msetS, if_neg h, mgetS, midxS] at ih ⊢
      by_cases e : x = a
      · subst e
        simp [Ne.symm h]
      · simp only [if_neg e, Option.map_map] at ih ⊢
        have e2 : ((fun x : Nat × Value => x.2) ∘ fun p : Nat × Value => (p.1 + 1, p.2)) = fun x => x.2 := rfl
        rw [e2, ih]
structure KeyS (P : Program) (kt : TypeId) (n : Nat) : Prop where
  i : intsP P kt n = true
  s : P.stoodInHeld kt = false
theorem run_checkFlds {P : Program} {w : World} (em : Bool) (d : Nat) (k : List Int) : ∀ (fs : List Field) (j : Nat), fldsI P j fs = true → j + fs.length = k.length →
    ((forIn fs PUnit.unit fun (f : Field) (_ : PUnit) => (if f.name ≠ "_" then do let x ← part f.type (k.map int).toArray f.offset; Instr.checkKey em (d + 1) f.type x; pure (ForInStep.yield PUnit.unit) else pure (ForInStep.yield PUnit.unit) : Sem (ForInStep PUnit)))).run P w = .ok PUnit.unit w
  | [], j, _, _ => by simp
  | f :: fs, j, hf, h => by
    simp only [fldsI, fldI, Bool.and_eq_true, bne_iff_ne, ne_eq, beq_iff_eq] at hf
    obtain ⟨⟨⟨h3, h4⟩, h5⟩, h6⟩ := hf
    have hu : P.underlying f.type = some (.int .i64) := by
      split at h5
      · assumption
      · simp at h5
    have ih := run_checkFlds (w := w) em d k fs (j + 1) h6 (by simp at h; omega)
    have hk : j < k.length := by simp at h; omega
    have hp : (part f.type (k.map int).toArray f.offset).run P w = .ok (int k[j]) w := by
      have hag : aggP P f.type = some false := by simp [aggP, hu]
      simp [part, run_isAgg hag, h4, hk]
    have hc := run_checkKey (P := P) (w := w) (k := k[j]) em d hu
    rw [List.forIn_cons];simp only [h3, not_false_eq_true, if_true, ne_eq, bind_assoc, Sem.run_bind, hp, hc, Result.andThen_ok, pure_bind];exact ih
theorem run_checkS {P : Program} {w : World} {kt : TypeId} {n : Nat} {k : List Int} (hk : KeyS P kt n) (hn : k.length = n) (em : Bool) : (Instr.checkKey em 10000 kt (aggI k)).run P w = .ok () w := by
  obtain ⟨fs, hu, hs, hf⟩ := intsP_of hk.i
  have h := run_checkFlds (P := P) (w := w) em 9998 k fs.toList 0 hf (by simp [hs, hn])
  rw [show (10000 : Nat) = 9999 + 1 from rfl, Instr.checkKey]
  simp only [Sem.run_bind, run_underlying hu, Result.andThen_ok, ← Array.forIn_toList];rw [h]
  rfl
theorem sameBits_agg (k : List Int) : Instr.sameBits 10000 (aggI k) (aggI k) = true := by
  have h : ∀ l : List Int, ((l.map int).zip (l.map int)).all (fun p => Instr.sameBits 9999 p.1 p.2) = true := by
    intro l
    induction l with
    | nil => rfl
    | cons x l ih =>
      simp only [List.map_cons, List.zip_cons_cons, List.all_cons, ih, Bool.and_true]
      simp [Instr.sameBits]
  have h2 := h k
  simp only [aggI];unfold Instr.sameBits;simp only [beq_self_eq_true, Bool.true_and];exact h2
theorem msetS_len {k : List Int} {v : Value} {n : Nat} (hk : k.length = n) : ∀ {l : List (List Int × Value)}, (∀ x ∈ l, x.1.length = n) → ∀ x ∈ msetS k v l, x.1.length = n
  | [], _, x, hx => by simp [msetS] at hx; rw [hx]; exact hk
  | (a, w) :: l, h, x, hx => by
    unfold msetS at hx
    split at hx
    · rcases List.mem_cons.1 hx with rfl | hx
      · exact h (a, w) (by simp)
      · exact h x (by simp [hx])
    · rcases List.mem_cons.1 hx with rfl | hx
      · exact h (a, w) (by simp)
      · exact msetS_len hk (l := l) (fun y hy => h y (by simp [hy])) x hx
end Go.Eng
namespace Go.Step
open Go.Eng
def NumAt (d:Dm) (k t:Int) (M:List (List Int × Value)):Prop:=(∀ e∈M,e.1.length=2)∧∀ n u:Int,mgetS [n,u] M=if (0≤n∧d.r≤u∧u≤d.e)∧(n<k∨(n=k∧u<t)) then some (int (vtx d n u)) else none
end Go.Step
namespace Go.Eng
theorem OwnS.form {e:TypeId} {s n:Nat} {v:Value} {xs:List Value} {ρ:PH} (h:OwnS e s v n xs ρ):∃ p c,v=.slice p n c:=by
  obtain ⟨_,⟨rfl,rfl,_⟩|⟨b,cap,_,rfl,_⟩⟩:=h
  · exact ⟨none,0,rfl⟩
  · exact ⟨_,cap,rfl⟩
theorem OwnS.formP {e:TypeId} {s n:Nat} {v:Value} {xs:List Value} {ρ:PH} (h:OwnS e s v n xs ρ) (hn:0<n):∃ b c,v=.slice (some ⟨b,0,none⟩) n c:=by
  obtain ⟨_,⟨_,h,_⟩|⟨b,cap,_,rfl,_⟩⟩:=h
  · omega
  · exact ⟨b,cap,rfl⟩
theorem SlAt.mono {ρ γ:PH} {s n:Nat} {v:Value} {xs:List Value} (h:SlAt ρ s v n xs) (hs:PH.sub ρ γ):SlAt γ s v n xs:=by
  obtain ⟨h1,h2|⟨b,o,c,e,h3⟩⟩:=h
  · exact ⟨h1,.inl h2⟩
  · exact ⟨h1,.inr ⟨b,o,c,e,fun j u hu=>hs.rdc (h3 j u hu)⟩⟩
theorem SlE.mono {α:Type} {enc:α→List Value} {s:Nat} {ρ γ:PH} {v:Value} {l:List α} (h:SlE enc s ρ v l) (hs:PH.sub ρ γ):SlE enc s γ v l:=SlAt.mono h hs
end Go.Eng
namespace Go.Eng
variable {C:Cx} {R H:List PH} {L:Env} {dst:Option Tmp} {ty:TypeId} {pos:String} {aft:Array Edge} {g:Option (Nat × Bool)}
theorem GK {x y:Operand} {t e:TypeId} {b o n i:Nat} {k:IntKind} (h:evalE L x=some (.pointer (some ⟨b,o,none⟩))) (h2:evalE L y=some (.int k (i:Int))) (ht:C.P.underlying t=some (.array n e)) (hs:szP C.P e=some 1) (hn:i<n) :
    Quiet C R H L ⟨dst,.indexAddr t x y,ty,pos,aft,g⟩ (.pointer (some ⟨b,o+i,none⟩)):=
  ⟨by intro c; simp,fun a w hx _=>by
    simp [execOp,hx x (by simp [Op.operands]) _ h,hx y (by simp [Op.operands]) _ h2,Instr.indexAt,Instr.sureAddr,asIntOf,run_underlying ht,hn,run_sizeOf hs,Addr.add_lit]⟩
theorem E7 {x y:Operand} {t e:TypeId} {b o n:Nat} {k:IntKind} (h:evalE L x=some (.pointer (some ⟨b,o,none⟩))) (h2:evalE L y=some (.int k 0)) (ht:C.P.underlying t=some (.array n e)) (hs:szP C.P e=some 1) (hn:0<n) :
    Quiet C R H L ⟨dst,.indexAddr t x y,ty,pos,aft,g⟩ (.pointer (some ⟨b,o,none⟩)):=GK (i:=0) h h2 ht hs hn
theorem F7 {x y:Operand} {t e:TypeId} {b o n:Nat} {k:IntKind} (h:evalE L x=some (.pointer (some ⟨b,o,none⟩))) (h2:evalE L y=some (.int k 1)) (ht:C.P.underlying t=some (.array n e)) (hs:szP C.P e=some 1) (hn:1<n) :
    Quiet C R H L ⟨dst,.indexAddr t x y,ty,pos,aft,g⟩ (.pointer (some ⟨b,o+1,none⟩)):=GK (i:=1) h h2 ht hs hn
theorem DU {x y:Operand} {t e:TypeId} {z0 z1 v0 v1:Value} (h:evalE L x=some v0) (h2:evalE L y=some v1) (ht:C.P.underlying t=some (.array 2 e)) (hs:szP C.P e=some 1) (hz:zeroP C.P t=some (.agg #[z0,z1])) (o0:v0.oneCell'=true) (o1:v1.oneCell'=true) :
    Quiet C R H L ⟨dst,.build t #[(0,x),(1,y)],ty,pos,aft,g⟩ (.agg #[v0,v1]):=
  ⟨by intro c; simp,fun a w hx _=>by
    have c0:v0.cells = #[v0]:=by cases v0 <;> first|rfl|simp [Value.oneCell'] at o0
    have c1:v1.cells = #[v1]:=by cases v1 <;> first|rfl|simp [Value.oneCell'] at o1
    have cz:(Value.agg #[z0,z1]).cells = #[z0,z1]:=rfl
    simp [execOp,hx x (by simp [Op.operands]) _ h,hx y (by simp [Op.operands]) _ h2,Instr.build,run_zeroValue hz,run_underlying ht,run_sizeOf hs,cz,Instr.fill,c0,c1]⟩
end Go.Eng
namespace Go.Eng
variable {C:Cx} {R H:List PH} {L:Env}
def placesP (P:Program):List Field→Option (List (Nat × Nat))
  | []=>some []
  | f::fs=>match szP P f.type,placesP P fs with
    | some n,some r=>some ((f.offset,n)::r)
    | _,_=>none
def evalPs (L:Env):List (Nat × Operand)→Option (List (Nat × Value))
  | []=>some []
  | (i,x)::ps=>match evalE L x,evalPs L ps with
    | some v,some r=>some ((i,v)::r)
    | _,_=>none
def fillL (pl:List (Nat × Nat)):List Value→List (Nat × Value)→Option (List Value)
  | zs,[]=>some zs
  | zs,(i,v)::r=>match pl[i]? with
    | none=>none
    | some (off,size)=>if v.cells.size=size∧off+size≤zs.length then fillL pl (zs.take off ++ (v.cells.toList ++ zs.drop (off+size))) r else none
theorem fillL_eq {pl:List (Nat × Nat)}:∀ {pvs:List (Nat × Value)} {zs out:List Value},fillL pl zs pvs=some out→Instr.fill (fun i=>pl[i]?) zs.toArray pvs=some out.toArray
  | [],zs,out,h=>by simp [fillL] at h; subst h; rfl
  | (i,v)::r,zs,out,h=>by
    unfold fillL at h;unfold Instr.fill
    split at h
    · simp at h
    · rename_i off size e
      rw [e]
      split at h
      · rename_i hc
        have ih:=fillL_eq h
        have hs:=splice_fold v.cells.toList 0 off zs.toArray (by simp; omega)
        simp only
        rw [if_neg (by simp; omega)]
        rw [← ih]
        congr 1
        apply Array.ext'
        simpa [← Array.toList_zipIdx,← hc.1] using hs
      · simp at h
theorem evalPs_eq {a:Act}:∀ {ps:List (Nat × Operand)} {pvs:List (Nat × Value)},evalPs L ps=some pvs→(∀ x∈ps.map (·.2),OnE L a x)→ps.map (fun (x:Nat × Operand)=>(x.1,a.eval x.2))=pvs
  | [],pvs,h,_=>by simp [evalPs] at h; subst h; rfl
  | (i,x)::ps,pvs,h,hx=>by
    unfold evalPs at h
    split at h
    · rename_i v r e1 e2
      simp at h; subst h
      rw [List.map_cons,evalPs_eq e2 (fun y hy=>hx y (by simp at hy ⊢; exact .inr hy)),hx x (by simp) v e1]
    · simp at h
theorem placesP_run {P:Program}:∀ (fs:List Field) (pl:List (Nat × Nat)) (w:World),placesP P fs=some pl→(fs.mapM (fun f=>Prod.mk f.offset <$> sizeOf f.type:Field→Sem (Nat × Nat))).run P w=.ok pl w
  | [],pl,w,h=>by simp [placesP] at h; subst h; simp
  | f::fs,pl,w,h=>by
    unfold placesP at h
    split at h
    · rename_i n r e1 e2
      simp at h; subst h
      simp [List.mapM_cons,run_sizeOf e1,placesP_run fs r w e2]
    · simp at h
theorem CM {dst:Option Tmp} {ty:TypeId} {pos:String} {aft:Array Edge} {g:Option (Nat × Bool)} {t:TypeId} {ps:List (Nat × Operand)} {fs:List Field} {pl:List (Nat × Nat)} {pvs:List (Nat × Value)} {zs out:List Value}
    (hu:C.P.underlying t=some (.struct fs.toArray)) (hz:zeroP C.P t=some (.agg zs.toArray)) (hpl:placesP C.P fs=some pl) (hv:evalPs L ps=some pvs) (ho:fillL pl zs pvs=some out) :
    Quiet C R H L ⟨dst,.build t ps.toArray,ty,pos,aft,g⟩ (.agg out.toArray):=
  ⟨by intro c; simp,fun a w hxx _=>by
    have h1:=evalPs_eq (a:=a) hv (fun x hx=>hxx x (by simp [Op.operands] at hx ⊢; exact hx))
    have h2:=placesP_run fs pl w hpl
    have h3:=fillL_eq ho
    simp only [execOp,Instr.build]
    simp [run_zeroValue hz,Value.cells,run_underlying hu,h1,h2,h3]⟩
end Go.Eng
namespace Go.Proofs.YtekcielcagdcmaaGreatDoor
open Go.Eng Go.Step
set_option maxRecDepth 100000
set_option maxHeartbeats 64000000
theorem bkCheck0_spec {ρ τ σ υ:PH} {pq pc pb ph:Option Addr} {kq kc kb kh:Nat} {qs:List Int} {cs:List Ct} {bs:List Bk} {hs:List Hd} (hT:TbAt ρ τ σ υ pq pc pb ph kq kc kb kh qs cs bs hs) (i:Nat) (h0:chkB qs cs bs=0) (hi:i<cs.length) :
  Ans Tryz.prog (fv 14) [.agg #[.slice pq qs.length kq,.slice pc cs.length kc],.slice pb bs.length kb,int (i:Int)] [ρ,τ,σ] (fun r=>r=int 0):=by
 have hck:=bkCheck_spec ρ τ σ pq pc kq kc qs cs _ bs hT.hq hT.hc hT.hcap hT.lq hT.lc hT.hb hT.lb
 rw [h0] at hck
 refine spec_in (cap:=[]) Tryz.func14 rfl rfl Tryz.ntmps14 rfl envZ (fun N β=>?_)
 refine Aa ?_;refine BJ (BL rfl) rfl rfl rfl ?_;rintro _ _ ⟨b3,rfl,rfl⟩;refine AS (ρ:=sng b3 _) takeZ ?_
 have c:=rdB b3 33 [.slice pq qs.length kq,.slice pc cs.length kc]
 have c0:=rdC c 0
 have c1:=rdC c 1
 refine Ads ?_;refine AB ?_;refine AT hck rfl rfl rdZ rfl rfl ?_;rintro _ rfl;refine Add ?_;refine BK ?_;refine AB ?_;refine Aak ?_;refine BD ?_;refine CP ?_;refine Aa4 ?_;refine Aal ?_;exact A9 ⟨rfl,rfl⟩
theorem freeAdd_spec (bA bO:Nat) (a to:Int) (u:Value) (G:List (Int × Int)) (χ:PH) (hO:OwnS 77 2 u G.length (G.flatMap encS) χ) (hl:G.length≤100000) :
  Eng.Spec Tryz.prog (.func (.func 41) #[] #[.pointer (some ⟨bA,0,none⟩),.pointer (some ⟨bO,0,none⟩)]) [int to] [] [sng bA (.cells #[int a] 3 (0,0)),sng bO (.cells #[u] 25 (0,0)),χ] (fun r H'=>r=.tuple #[]∧∃ u' χ',H'=[sng bA (.cells #[int a] 3 (0,0)),sng bO (.cells #[u'] 25 (0,0)),χ']∧OwnS 77 2 u' (G ++ if a<to then [(a,to)] else []).length ((G ++ if a<to then [(a,to)] else []).flatMap encS) χ'):=by
 have hone:∀ z n (xs:List Value) (χ:PH),OwnS 77 2 z n xs χ→z.oneCell'=true:=fun z n xs χ h=>by obtain ⟨_,_,rfl⟩:=h.form; rfl
 have hu:=hone _ _ _ _ hO
 refine spec_in (cap:=[.pointer (some ⟨bA,0,none⟩),.pointer (some ⟨bO,0,none⟩)]) Tryz.func41 rfl rfl Tryz.ntmps41 rfl envZ (fun N β=>?_)
 by_cases h:a<to
 ·rw [if_pos h]
  refine Ac ?_;refine AB ?_;refine B7 ?_;refine Aai ?_;refine AA ?_;refine AF ?_;refine AF ?_;refine AB ?_;refine B6 ?_;refine BN ?_; rintro _ _ ⟨b,rfl,rfl⟩
  refine BJ (CU (by_:=16) (s:=2) (news:=[int a,int to]) rfl rfl rfl rfl rfl rfl rfl hO takeZ (cells_own memZ) rfl oneZ (by omega) (by simp only [maxLen]; omega) (by omega)) rfl rfl rfl ?_
  rintro u1 _ ⟨χ1,hO1,rfl⟩
  have hu2:=hone _ _ _ _ hO1
  refine BC ?_; rintro _ _ ⟨rfl,rfl⟩;refine AE ?_;refine BV (res0 rfl) rsubZ selZ ⟨rfl,u1,χ1,rfl,?_⟩;rw [List.length_append,List.flatMap_append];exact hO1
 ·rw [if_neg h,List.append_nil]
  refine Ac ?_;refine AB ?_;refine BK ?_;refine Aag ?_;exact BV (res0 rfl) rsubZ selZ ⟨rfl,u,χ,rfl,hO⟩
theorem gapsP_at {e:Int} {l:List (Int × Int)} {k:Nat} (h:k<l.length) (a:Int):gapsP e a (l.drop k)=(if a<l[k].1 then [(a,l[k].1)] else []) ++ gapsP e l[k].2 (l.drop (k+1)):=by
 rw [List.drop_eq_getElem_cons h]
 rfl
theorem bkFree0_spec {ρ τ σ υ:PH} {pq pc pb ph:Option Addr} {kq kc kb kh:Nat} {qs:List Int} {cs:List Ct} {bs:List Bk} {hs:List Hd} (hT:TbAt ρ τ σ υ pq pc pb ph kq kc kb kh qs cs bs hs) (i:Nat) (x:Ct) (hx:cs[i]?=some x) (hb:firstE (bkE cs bs) bs.length=0) (hbl:bs.length≤512) :
  Makes Tryz.prog (fv 16) [.agg #[.slice pq qs.length kq,.slice pc cs.length kc],.slice pb bs.length kb,int (i:Int),int x.s] [ρ,τ,σ] (fun r χ=>OwnS 77 2 r (freeC cs bs i).length ((freeC cs bs i).flatMap encS) χ):=by
 have hbusy:=busy_spec σ _ bs i hT.hb (by omega)
 have hbi:=busy_in hb hx
 have hbp:=busy_apart hb i
 have hbll:=busyL_len bs i
 have hfc:freeC cs bs i=gapsP x.e x.s (busyL bs i):=by unfold freeC; rw [hx]
 have hgl:=gapsP_len x.e (busyL bs i) x.s
 have hone:∀ z n (xs:List Value) (χ:PH),OwnS 77 2 z n xs χ→z.oneCell'=true:=fun z n xs χ h=>by obtain ⟨_,_,rfl⟩:=h.form; rfl
 rw [hfc]
 have hi:=(List.getElem?_eq_some_iff.1 hx).1
 obtain ⟨bq,oq,e4,hrd⟩:=ctRow hT.rc hx
 refine spec_in (cap:=[]) Tryz.func16 rfl rfl Tryz.ntmps16 rfl envZ (fun N β=>?_)
 refine Aa ?_;refine BJ (BL rfl) rfl rfl rfl ?_;rintro _ _ ⟨b3,rfl,rfl⟩;refine AS (ρ:=sng b3 _) takeZ ?_
 have c:=rdB b3 33 [.slice pq qs.length kq,.slice pc cs.length kc]
 have c0:=rdC c 0
 have c1:=rdC c 1
 refine CG ?_;subst e4;refine Abu ?_;refine AB ?_;refine Ab4 ?_;refine A4 ?_; rintro _ _ ⟨b,rfl,rfl⟩;refine AY ?_; rintro _ _ ⟨rfl,rfl⟩;refine Acm ?_;refine CQ ?_; rintro _ _ ⟨b,rfl,rfl⟩;refine Ac4 ?_;refine AB ?_;refine EZ ?_;refine CQ ?_; rintro _ _ ⟨b,rfl,rfl⟩;refine BC ?_; rintro _ _ ⟨rfl,rfl⟩;refine Acm ?_;refine BZ ?_;refine Aa8 ?_;refine AB ?_
 revert b; intro bA
 revert b; intro bO
 revert b; intro bC
 rw [show max x.s x.s=x.s by omega]
 refine AS (ρ:=sng bC _) takeZ ?_
 have bx164_3:=rdB bC 23 [int x.f,int x.t,int x.s,int x.e,int x.r,int x.g,int x.l]
 have g2:=rdC bx164_3 3
 refine B8 hbusy rfl rfl rdZ rfl rfl ?_;rintro w χb hOb
 have hSb:=hOb.at
 obtain ⟨pw,kw,rfl⟩:=hOb.form
 obtain ⟨_,_,ew,hrw⟩:=SlE.val (enc:=encS) encS_len (show SlE encS 2 χb _ (busyL bs i) from hSb)
 simp only [Value.slice.injEq] at ew
 obtain ⟨rfl,_,rfl⟩:=ew
 refine AS (ρ:=χb) takeZ ?_
 generalize busyL bs i=L at hbi hbp hbll hOb hSb hrw hgl
 refine Aby ?_
 refine BU [2,12,27,28,9,10,11] (X:=Nat × Int × List (Int × Int) × Value × PH) (0,x.s,[],.slice none 0 0,emp) (fun z=>z.1≤L.length∧(∀ y∈L.drop z.1,z.2.1≤y.1)∧gapsP x.e x.s L=z.2.2.1 ++ gapsP x.e z.2.1 (L.drop z.1)∧OwnS 77 2 z.2.2.2.1 z.2.2.1.length (z.2.2.1.flatMap encS) z.2.2.2.2) (fun z=>[(29,int z.1)]) (fun z=>[sng bA (.cells #[int z.2.1] 3 (0,0)),sng bO (.cells #[z.2.2.2.1] 25 (0,0)),z.2.2.2.2]) (fun z=>L.length-z.1) pickZ ⟨by dsimp only; omega,fun y hy=>by rw [List.drop_zero] at hy; exact (hbi y hy).1,rfl,OwnS.nil _ _⟩ covZ selZ ?_
 rintro ⟨k,a,G,u,χ⟩ ⟨hk,ha,hG,hO⟩
 dsimp only at hk ha hG hO ⊢
 have hGl:G.length≤L.length+1:=by
  have:=congrArg List.length hG
  rw [List.length_append] at this;omega
 by_cases hlt:k<L.length
 ·have hy:=List.getElem?_eq_getElem hlt
  have hga:=gapsP_at (e:=x.e) hlt a
  have hmem:=List.getElem_mem hlt
  have hin:=hbi _ hmem
  have hak:=ha L[k] (by rw [List.drop_eq_getElem_cons hlt]; exact List.mem_cons_self)
  have hpk:∀ y∈L.drop (k+1),L[k].2≤y.1:=fun y hy=>by
   have h1:=List.Pairwise.sublist (List.drop_sublist k L) hbp
   rw [List.drop_eq_getElem_cons hlt] at h1;exact (List.pairwise_cons.1 h1).1 y hy
  obtain ⟨b6,o6,rfl,hRd6,y0,y1⟩:=spRow hrw hy
  generalize L[k]=y at hy hga hin hak hpk hRd6 y0 y1
  have hadd:=freeAdd_spec bA bO a y.1 u G χ hO (by omega)
  refine Ade ?_;refine A4 ?_; rintro _ _ ⟨b,rfl,rfl⟩;refine AY ?_; rintro _ _ ⟨rfl,rfl⟩;refine Abt ?_;refine Aad ?_
  revert b; intro b14
  refine BI hadd rfl rfl takesZ rdZ rfl rfl ?_;rintro _ _ ⟨rfl,u',χ',rfl,hO'⟩
  have hmx:max a y.2=y.2:=by omega
  refine AE ?_;refine AA ?_;refine AF ?_;refine Aad ?_;refine EZ ?_
  focus ((rw [hmx]))
  refine BC ?_; rintro _ _ ⟨rfl,rfl⟩;refine Adp ?_
  refine BG (k+1,y.2,G ++ (if a<y.1 then [(a,y.1)] else []),u',χ') ⟨by dsimp only; omega,hpk,?_,hO'⟩ (by dsimp only; omega) covZ selZ
  dsimp only
  rw [hG,hga,List.append_assoc]
 ·have hke:k=L.length:=by omega
  subst hke
  have hadd:=freeAdd_spec bA bO a x.e u G χ hO (by omega)
  have hfin:gapsP x.e x.s L=G ++ (if a<x.e then [(a,x.e)] else []):=by
   rw [hG,List.drop_length]
   rfl
  rw [hfin];refine Ab5 ?_;refine Aab ?_;refine Aad ?_;refine BI hadd rfl rfl takesZ rdZ rfl rfl ?_;rintro _ _ ⟨rfl,u',χ',rfl,hO'⟩;refine AE ?_;refine Ac ?_;refine Aaa ?_;exact AK (res1 rfl rfl) rsubZ selZ ⟨χ',hO',rfl⟩
end Go.Proofs.YtekcielcagdcmaaGreatDoor
namespace Go.Step
open Go.Eng (insL insL_len)
def overB (x:Bk) (s:Int × Int):Bool:=decide (s.1<x.b) && decide (x.a<s.2)
theorem bookedB_iff {l:List Bk} {c t:Int}:bookedB l c t=true↔∃ y∈l,y.c=c∧y.a≤t∧t<y.b:=by
  unfold bookedB busyL;rw [List.any_eq_true]
  constructor
  · rintro ⟨s,hs,h⟩
    obtain ⟨y,hy,rfl⟩:=List.mem_map.1 hs
    rw [List.mem_filter,decide_eq_true_eq] at hy;rw [Bool.and_eq_true,decide_eq_true_eq,decide_eq_true_eq] at h;exact ⟨y,hy.1,hy.2,h⟩
  · rintro ⟨y,hy,hc,h1,h2⟩
    refine ⟨(y.a,y.b),List.mem_map.2 ⟨y,List.mem_filter.2 ⟨hy,decide_eq_true hc⟩,rfl⟩,?_⟩;rw [Bool.and_eq_true,decide_eq_true_eq,decide_eq_true_eq];exact ⟨h1,h2⟩
theorem over_none {l:List Bk} {x:Bk} (h:(busyL l x.c).any (overB x)=false):∀ y∈l,y.c=x.c→¬ (y.a<x.b∧x.a<y.b):=fun y hy hc hn=>by
  rw [List.any_eq_false] at h;refine h (y.a,y.b) (List.mem_map.2 ⟨y,List.mem_filter.2 ⟨hy,decide_eq_true hc⟩,rfl⟩) ?_;unfold overB;rw [decide_eq_true hn.1,decide_eq_true hn.2]
  rfl
theorem bks_of {cs:List Ct} {l:List Bk} (hok:∀ y∈l,okBk cs y) (hp:l.Pairwise (fun x y=>x.c<y.c∨(x.c=y.c∧x.b≤y.a))):firstE (bkE cs l) l.length=0:=by
  refine firstE_all (fun k hk=>?_)
  rw [bkE_at (List.getElem?_eq_getElem hk),if_neg (by rw [(okBkB_iff cs _).2 (hok _ (List.getElem_mem hk))]; simp)]
  by_cases h0:k=0
  · rw [if_pos h0]
  rw [if_neg h0,List.getD_eq_getElem?_getD,List.getElem?_eq_getElem (show k-1<l.length by omega),Option.getD_some]
  have h1:=List.pairwise_iff_getElem.1 hp (k-1) k (by omega) hk (by omega)
  obtain ⟨_,c,_,_,h2,_⟩:=hok _ (List.getElem_mem (show k-1<l.length by omega))
  unfold bk2E
  rw [if_neg (fun h=>h ((cmpBk_lt _ _).2 (by omega))),if_neg (by omega)]
theorem mem_insL {α:Type} {l:List α} {k:Nat} {x y:α}:y∈insL l k x↔y=x∨y∈l:=by
  unfold insL;rw [List.mem_append,List.mem_cons]
  have:y∈l↔y∈l.take k∨y∈l.drop k:=by rw [← List.mem_append,List.take_append_drop]
  rw [this]
  constructor
  · rintro (h|h|h)
    · exact .inr (.inl h)
    · exact .inl h
    · exact .inr (.inr h)
  · rintro (h|h|h)
    · exact .inr (.inl h)
    · exact .inl h
    · exact .inr (.inr h)
theorem insB_ok {qs:List Int} {cs:List Ct} {l:List Bk} {x:Bk} {k:Nat} (h0:chkB qs cs l=0) (hx:okBk cs x) (hl:l.length≠512) (ho:(busyL l x.c).any (overB x)=false) (h1:∀ y∈l.take k,cmpBk y x<0) (h2:∀ y∈l.drop k,0≤cmpBk y x) :
    chkB qs cs (insL l k x)=0∧∀ i t,bookedB (insL l k x) i t=false→bookedB l i t=false:=by
  have hno:=over_none ho
  obtain ⟨a1,a2⟩:=chkB_ok h0
  have hpl:chkPl qs cs=0:=by
    unfold chkB at h0
    by_cases c:chkPl qs cs=0
    · exact c
    · rw [if_pos c] at h0; omega
  have hok:=bkE_ok a2
  have hap:=bks_apart a2
  have hlt:∀ y,okBk cs y→y.a<y.b:=fun y hy=>by
    obtain ⟨_,c,_,_,h,_⟩:=hy
    exact h
  have hxl:=hlt x hx
  refine ⟨?_,fun i t hb=>?_⟩
  · unfold chkB
    rw [if_neg (fun h=>h hpl),if_neg (by rw [insL_len]; omega)]
    refine bks_of (fun y hy=>?_) ?_
    · rcases mem_insL.1 hy with rfl|hy
      · exact hx
      · exact hok y hy
    · unfold insL
      rw [← List.take_append_drop k l] at hap
      obtain ⟨p1,p2,p3⟩:=List.pairwise_append.1 hap
      refine List.pairwise_append.2 ⟨p1,List.pairwise_cons.2 ⟨fun y hy=>?_,p2⟩,fun y hy z hz=>?_⟩
      · have c1:=h2 y hy
        have c2:=hlt y (hok y (List.mem_of_mem_drop hy))
        have c3:=hno y (List.mem_of_mem_drop hy)
        have c4:¬ (y.c<x.c∨(y.c=x.c∧y.a<x.a)):=fun h=>by
          have:=(cmpBk_lt y x).2 h
          omega
        omega
      · rcases List.mem_cons.1 hz with rfl|hz
        · have c1:=(cmpBk_lt y z).1 (h1 y hy)
          have c2:=hlt y (hok y (List.mem_of_mem_take hy))
          have c3:=hno y (List.mem_of_mem_take hy)
          omega
        · exact p3 y hy z hz
  · cases hc:bookedB l i t with
    | false=>rfl
    | true =>
      obtain ⟨y,hy,h⟩:=bookedB_iff.1 hc
      rw [bookedB_iff.2 ⟨y,mem_insL.2 (.inr hy),h⟩] at hb
      simp at hb
end Go.Step
namespace Go.Eng
variable {C:Cx} {D:List Deferred} {R H:List PH} {L:Env} {K:List It}
section
variable {dst:Option Tmp} {ty:TypeId} {pos:String} {aft:Array Edge} {g:Option (Nat × Bool)}
theorem wrap_u64 {n:Int} (h:0≤n∧n≤18446744073709551615):IntKind.u64.wrap n=n:=by
  have e:IntKind.u64.wrap n=n % 18446744073709551616:=by
    show (let m:=n % (2 ^ IntKind.u64.bits:Int); if IntKind.u64.signed && m≥(2 ^ (IntKind.u64.bits-1):Int) then m-(2 ^ IntKind.u64.bits:Int) else m)=_
    rfl
  rw [e]; omega
theorem q_toU {s d:TypeId} {x:Operand} {n:Nat} (h:evalE L x=some (.int .i64 (n:Int))) (hs:(C.P.underlying s).isSome=true) (hd:kindP C.P d=some .u64) (hn:n≤18446744073709551615) :
    Quiet C R H L ⟨dst,.convert s d x,ty,pos,aft,g⟩ (.int .u64 (n:Int)):=GC h hs hd (wrap_u64 ⟨by omega,by omega⟩)
theorem q_shr {x y:Operand} {xT yT:TypeId} {k k2:IntKind} {m:Int} {s:Nat} (h1:evalE L x=some (.int k m)) (h2:evalE L y=some (.int k2 (s:Int))) (hs:s≤k.bits):Quiet C R H L ⟨dst,.binOp .shr xT x y yT,ty,pos,aft,g⟩ (.int k (m.fdiv (2 ^ s))):=
  ⟨by intro c; simp,fun a w hx _=>by
    have e1:=hx x (by simp [Op.operands]) _ h1
    have e2:=hx y (by simp [Op.operands]) _ h2
    have h0:¬ ((s:Int)<0):=by omega
    have hm:min s k.bits=s:=by omega
    simp [execOp,e1,e2,eqGuard,binOp,Op.shift,h0,hm]⟩
theorem FN {x y:Operand} {xT yT:TypeId} {k:IntKind} {n:Nat} (h1:evalE L x=some (.int k (n:Int))) (h2:evalE L y=some (.int k 1)) (hs:1≤k.bits):Quiet C R H L ⟨dst,.binOp .shr xT x y yT,ty,pos,aft,g⟩ (.int k ((n / 2:Nat):Int)):=by
  have:=q_shr (C:=C) (R:=R) (H:=H) (dst:=dst) (ty:=ty) (pos:=pos) (aft:=aft) (g:=g) (xT:=xT) (yT:=yT) (s:=1) h1 h2 hs
  have e:(n:Int).fdiv (2 ^ 1)=((n / 2:Nat):Int):=by
    rw [Int.fdiv_eq_ediv_of_nonneg _ (by decide)]; omega
  rwa [e] at this
end
end Go.Eng
namespace Go.Eng
variable {C:Cx} {D:List Deferred} {R H:List PH} {L:Env} {K:List It}
section
variable {dst:Option Tmp} {ty:TypeId} {pos:String} {aft:Array Edge} {g:Option (Nat × Bool)}
end
end Go.Eng
