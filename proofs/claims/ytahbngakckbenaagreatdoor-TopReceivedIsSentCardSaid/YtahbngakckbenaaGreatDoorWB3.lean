/- Texts of this proof, one after the other; no conditions. -/
import Derived.Lib.AppendZerosOnto
import Derived.Lib.Overlaps
import Derived.Test.YtahbngakckbenaaGreatDoorProg
import Derived.Laws.BytesString
import Derived.Laws.Strings2
import Derived.Test.YtahbngakckbenaaGreatDoorWB2
import Derived.Test.YtahbngakckbenaaGreatDoorWB1
import Derived.Test.YtahbngakckbenaaGreatDoorWB0
set_option linter.all false
/- Holds: what a node stores, as a function of time. No program in sight. No conditions. -/
namespace Go.Step
structure Hd where
  n:Int
  a:Int
  b:Int
  s:Int
  k:Int
deriving DecidableEq
def okHd (nq:Nat) (h:Hd):Prop:=(0≤h.n∧h.n<nq)∧(0≤h.a∧h.a<h.b∧h.b≤1099511627776)∧(1≤h.s∧h.s≤65536)∧(0≤h.k∧h.k≤1152921504606846976)
instance (nq:Nat) (h:Hd):Decidable (okHd nq h):=inferInstanceAs (Decidable (_∧_))
def delta (l:List Hd) (n t:Int):Int:=match l with
  | []=>0
  | h::l=>(if h.n=n then (if h.a=t then h.s else 0)-(if h.b=t then h.s else 0) else 0)+delta l n t
def tmH (l:List Hd) (n:Int):List Int:=l.flatMap (fun h=>if h.n=n then [h.a,h.b] else [])
theorem mem_tmH {l:List Hd} {n x:Int}:x∈tmH l n↔∃ h∈l,h.n=n∧(x=h.a∨x=h.b):=by
  unfold tmH;rw [List.mem_flatMap]
  constructor
  · rintro ⟨h,hm,hx⟩
    by_cases hn:h.n=n
    · rw [if_pos hn] at hx
      exact ⟨h,hm,hn,by simpa using hx⟩
    · rw [if_neg hn] at hx; simp at hx
  · rintro ⟨h,hm,hn,hx⟩
    exact ⟨h,hm,by rw [if_pos hn]; simpa using hx⟩
def hts (l:List Hd) (n:Int):List Int:=Lib.compact ((tmH l n).mergeSort fun x y=>decide (x≤y))
end Go.Step
namespace Go.Step
open Go.Eng
theorem mget_mset (k v x:Int):∀ m:List (Int × Int),mget x (mset k v m)=if x=k then some v else mget x m
  | []=>by
    unfold mget mset midx
    by_cases h:x=k
    · simp [h]
    · simp [h,midx]
  | (a,w)::m=>by
    have ih:=mget_mset k v x m
    unfold mget at ih ⊢
    by_cases hk:k=a
    · subst hk
      simp only [mset,if_true,midx]
      by_cases h:x=k <;> simp [h]
    · simp only [mset,if_neg hk,midx]
      by_cases h:x=a
      · subst h
        simp [Ne.symm hk]
      · simp only [if_neg h,Option.map_map]
        have e:((fun p:Nat × Int=>p.2) ∘ fun p:Nat × Int=>(p.1+1,p.2))=fun p=>p.2:=rfl
        rw [e];exact ih
def noteT (m:List (Int × Int)) (T:List Int) (t:Int):List Int:=if mget t m=none then T ++ [t] else T
structure InvD (D:Int→Int) (T:List Int) (m:List (Int × Int)):Prop where
  get:∀ t,mget t m=if t∈T then some (D t) else none
  out:∀ t,t∉T→D t=0
  nd:T.Pairwise (· ≠ ·)
theorem InvD.zero:InvD (fun _=>0) [] []:=⟨fun t=>rfl,fun _ _=>rfl,List.Pairwise.nil⟩
theorem InvD.val {D:Int→Int} {T:List Int} {m:List (Int × Int)} (h:InvD D T m) (t:Int):(mget t m).getD 0=D t:=by
  rw [h.get t]
  split
  · rfl
  · rename_i hn; rw [h.out t hn]; rfl
theorem InvD.step {D:Int→Int} {T:List Int} {m:List (Int × Int)} (h:InvD D T m) (t d:Int):InvD (fun x=>D x+if x=t then d else 0) (noteT m T t) (mset t ((mget t m).getD 0+d) m)∧(∀ x,x∈noteT m T t↔x∈T∨x=t)∧(noteT m T t).length≤T.length+1:=by
  have hm:∀ x,x∈noteT m T t↔x∈T∨x=t:=fun x=>by
    unfold noteT;rw [h.get t]
    by_cases ht:t∈T
    · rw [if_pos ht,if_neg (by simp)]
      constructor
      · exact .inl
      · rintro (h|rfl) <;> assumption
    · rw [if_neg ht,if_pos rfl]; simp
  refine ⟨⟨fun x=>?_,fun x hx=>?_,?_⟩,hm,?_⟩
  · rw [mget_mset,h.val,h.get x]
    by_cases hx:x=t
    · subst hx
      rw [if_pos rfl,if_pos ((hm x).2 (.inr rfl))]; simp
    · rw [if_neg hx]
      by_cases hT:x∈T
      · rw [if_pos hT,if_pos ((hm x).2 (.inl hT))]; simp [hx]
      · rw [if_neg hT,if_neg (fun hh=>by rcases (hm x).1 hh with h|h <;> contradiction)]
  · have hx1:x∉T:=fun hh=>hx ((hm x).2 (.inl hh))
    have hx2:x≠t:=fun hh=>hx ((hm x).2 (.inr hh))
    rw [h.out x hx1,if_neg hx2]; rfl
  · unfold noteT
    rw [h.get t]
    by_cases ht:t∈T
    · rw [if_pos ht,if_neg (by simp)]; exact h.nd
    · rw [if_neg ht,if_pos rfl]
      refine List.pairwise_append.2 ⟨h.nd,by simp,fun a ha b hb=>?_⟩
      simp at hb; subst hb
      intro e; subst e; exact ht ha
  · unfold noteT
    split <;> simp
theorem delta_snoc (n x:Int) (h:Hd):∀ l:List Hd,delta (l ++ [h]) n x=delta l n x+if h.n=n then (if h.a=x then h.s else 0)-(if h.b=x then h.s else 0) else 0
  | []=>by simp [delta]
  | g::l=>by
    have ih:=delta_snoc n x h l
    simp only [List.cons_append,delta,ih];omega
theorem tmH_snoc (n x:Int) (h:Hd) (l:List Hd):x∈tmH (l ++ [h]) n↔x∈tmH l n∨(h.n=n∧(x=h.a∨x=h.b)):=by
  rw [mem_tmH,mem_tmH]
  constructor
  · rintro ⟨g,hg,k⟩
    rcases List.mem_append.1 hg with hg|hg
    · exact .inl ⟨g,hg,k⟩
    · simp at hg; subst hg; exact .inr k
  · rintro (⟨g,hg,k⟩|k)
    · exact ⟨g,by simp [hg],k⟩
    · exact ⟨h,by simp,k⟩
structure InvL (l:List Hd) (n:Int) (T:List Int) (m:List (Int × Int)):Prop where
  d:InvD (delta l n) T m
  mem:∀ x,x∈T↔x∈tmH l n
  len:T.length≤2*l.length
theorem InvL.zero (n:Int):InvL [] n [] []:=⟨InvD.zero,fun x=>by simp [tmH],by simp⟩
theorem InvL.skip {l:List Hd} {n:Int} {T:List Int} {m:List (Int × Int)} {h:Hd} (H:InvL l n T m) (hn:h.n≠n):InvL (l ++ [h]) n T m:=by
  refine ⟨?_,fun x=>?_,by have:=H.len; simp; omega⟩
  · have e:delta (l ++ [h]) n=delta l n:=by funext x; rw [delta_snoc,if_neg hn]; omega
    rw [e]; exact H.d
  · rw [tmH_snoc,H.mem x]; simp [hn]
structure InvN (l:List Hd) (n t nx:Int):Prop where
  no:nx<0→nx = -1∧∀ x∈tmH l n,x≤t
  yes:0≤nx→nx∈tmH l n∧t<nx∧∀ x∈tmH l n,t<x→nx≤x
theorem InvN.zero (n t:Int):InvN [] n t (-1):=⟨fun _=>⟨rfl,fun x hx=>by simp [tmH] at hx⟩,fun h=>by omega⟩
theorem InvN.skip {l:List Hd} {n t nx:Int} {h:Hd} (H:InvN l n t nx) (hn:h.n≠n):InvN (l ++ [h]) n t nx:=by
  refine ⟨fun k=>⟨(H.no k).1,fun x hx=>?_⟩,fun k=>⟨(tmH_snoc _ _ _ _).2 (.inl (H.yes k).1),(H.yes k).2.1,fun x hx=>?_⟩⟩
  · rcases (tmH_snoc _ _ _ _).1 hx with hx|hx
    · exact (H.no k).2 x hx
    · exact absurd hx.1 hn
  · rcases (tmH_snoc _ _ _ _).1 hx with hx|hx
    · exact (H.yes k).2.2 x hx
    · exact absurd hx.1 hn
end Go.Step
namespace Go.Step
end Go.Step
namespace Go.Step
def frA (Q s:Int) (st:Int × List (Int × Int)) (t v:Int):Int × List (Int × Int):=
  if Q-v<s then (-1,if 0≤st.1∧st.1<t then st.2 ++ [(st.1,t)] else st.2) else (if st.1<0 then t else st.1,st.2)
def frL (Q s:Int) (st:Int × List (Int × Int)) (x:Lv):Int × List (Int × Int):=if x.a<1099511627776 then frA Q s st x.a x.v else st
def finA (st:Int × List (Int × Int)):List (Int × Int):=if 0≤st.1∧st.1<1099511627776 then st.2 ++ [(st.1,1099511627776)] else st.2
def frB (Q s:Int) (st:(Int × Bool) × List (Int × Int)) (x:Lv):(Int × Bool) × List (Int × Int):=
  ((if s≤Q-x.v∧st.1.2=false then x.a else st.1.1,decide (s≤Q-x.v)),if st.1.2=true∧Q-x.v<s∧st.1.1<x.a then st.2 ++ [(st.1.1,x.a)] else st.2)
def finB (st:(Int × Bool) × List (Int × Int)):List (Int × Int):=if st.1.2=true∧st.1.1<1099511627776 then st.2 ++ [(st.1.1,1099511627776)] else st.2
structure RlF (A:Int × List (Int × Int)) (B:(Int × Bool) × List (Int × Int)):Prop where
  o:A.2=B.2
  p:0≤B.1.1
  f:A.1=if B.1.2=true then B.1.1 else -1
theorem RlF.step {Q s:Int} {A:Int × List (Int × Int)} {B:(Int × Bool) × List (Int × Int)} (h:RlF A B) {x:Lv} (h0:0≤x.a):RlF (frA Q s A x.a x.v) (frB Q s B x):=by
  obtain ⟨a1,a2⟩:=A
  obtain ⟨⟨b1,b2⟩,b3⟩:=B
  obtain ⟨h1,h2,h3⟩:=h
  dsimp only at h1 h2 h3
  subst h1;unfold frA frB
  dsimp only
  by_cases hr:Q-x.v<s
  · rw [if_pos hr]
    have hd:decide (s≤Q-x.v)=false:=decide_eq_false (by omega)
    cases b2 with
    | true =>
      simp only [if_true] at h3;subst h3;refine ⟨?_,?_,?_⟩
      · dsimp only
        by_cases hl:a1<x.a
        · rw [if_pos ⟨h2,hl⟩,if_pos ⟨rfl,hr,hl⟩]
        · rw [if_neg (by omega),if_neg (by omega)]
      · dsimp only; rw [if_neg (by simp)]; exact h2
      · dsimp only; rw [hd]; rfl
    | false =>
      have h3':a1 = -1:=by simpa using h3
      subst h3';refine ⟨?_,?_,?_⟩
      · dsimp only
        rw [if_neg (by omega),if_neg (by simp)]
      · dsimp only; rw [if_neg (by omega)]; exact h2
      · dsimp only; rw [hd]; rfl
  · rw [if_neg hr]
    have hd:decide (s≤Q-x.v)=true:=decide_eq_true (by omega)
    cases b2 with
    | true =>
      simp only [if_true] at h3;subst h3;refine ⟨?_,?_,?_⟩
      · dsimp only; rw [if_neg (by omega)]
      · dsimp only; rw [if_neg (by simp)]; exact h2
      · dsimp only; rw [hd,if_pos rfl,if_neg (by omega),if_neg (by simp)]
    | false =>
      have h3':a1 = -1:=by simpa using h3
      subst h3';refine ⟨?_,?_,?_⟩
      · dsimp only; rw [if_neg (by simp)]
      · dsimp only; rw [if_pos ⟨by omega,rfl⟩]; exact h0
      · dsimp only; rw [hd,if_pos rfl,if_pos (by omega),if_pos ⟨by omega,rfl⟩]
theorem RlF.fin {A:Int × List (Int × Int)} {B:(Int × Bool) × List (Int × Int)} (h:RlF A B):finA A=finB B:=by
  obtain ⟨a1,a2⟩:=A
  obtain ⟨⟨b1,b2⟩,b3⟩:=B
  obtain ⟨h1,h2,h3⟩:=h
  dsimp only at h1 h2 h3
  subst h1;unfold finA finB
  dsimp only
  cases b2 with
  | true =>
    simp only [if_true] at h3;subst h3
    by_cases hl:a1<1099511627776
    · rw [if_pos ⟨h2,hl⟩,if_pos ⟨rfl,hl⟩]
    · rw [if_neg (by omega),if_neg (by omega)]
  | false =>
    have h3':a1 = -1:=by simpa using h3
    subst h3'
    rw [if_neg (by omega),if_neg (by simp)]
theorem RlF.last {Q s:Int} {A:Int × List (Int × Int)} {B:(Int × Bool) × List (Int × Int)} (h:RlF A B) {x:Lv} (hx:x.a=1099511627776):finA A=finB (frB Q s B x):=by
  obtain ⟨a1,a2⟩:=A
  obtain ⟨⟨b1,b2⟩,b3⟩:=B
  obtain ⟨h1,h2,h3⟩:=h
  dsimp only at h1 h2 h3
  subst h1;unfold finA finB frB
  dsimp only
  rw [hx]
  by_cases hr:Q-x.v<s
  · have hd:decide (s≤Q-x.v)=false:=decide_eq_false (by omega)
    rw [hd]
    cases b2 with
    | true =>
      simp only [if_true] at h3;subst h3
      by_cases hl:a1<1099511627776
      · rw [if_pos ⟨h2,hl⟩,if_neg (by simp),if_pos ⟨rfl,hr,hl⟩]
      · rw [if_neg (by omega),if_neg (by simp),if_neg (by omega)]
    | false =>
      have h3':a1 = -1:=by simpa using h3
      subst h3'
      rw [if_neg (by omega),if_neg (by simp),if_neg (by simp)]
  · have hd:decide (s≤Q-x.v)=true:=decide_eq_true (by omega)
    rw [hd]
    cases b2 with
    | true =>
      simp only [if_true] at h3;subst h3
      rw [if_neg (by simp:¬ (s≤Q-x.v∧true=false)),if_neg (by omega:¬ (true=true∧Q-x.v<s∧a1<1099511627776))]
      by_cases hl:a1<1099511627776
      · rw [if_pos ⟨h2,hl⟩,if_pos ⟨rfl,hl⟩]
      · rw [if_neg (by omega),if_neg (by omega)]
    | false =>
      have h3':a1 = -1:=by simpa using h3
      subst h3'
      rw [if_pos (⟨by omega,rfl⟩:s≤Q-x.v∧false=false),if_neg (by omega),if_neg (by omega),if_neg (by simp)]
def frS (Q s:Int) (f:List Lv) (k:Nat):Int × List (Int × Int):=(f.take k).foldl (frL Q s) (frA Q s (-1,[]) 0 0)
end Go.Step
namespace Go.Eng
variable {C:Cx} {D:List Deferred} {R H:List PH} {L:Env} {K:List It}
variable {dst:Option Tmp} {ty:TypeId} {pos:String} {aft:Array Edge} {g:Option (Nat × Bool)}
theorem OwnS.cells_at {e:TypeId} {s n b cap:Nat} {xs:List Value} {ρ:PH} (h:OwnS e s (.slice (some ⟨b,0,none⟩) n cap) n xs ρ):∃ cur,ρ=sng b (.cells cur e (0,0))∧n≤cap∧cap≤maxLen∧cur.size=cap*s∧cur.toList.take (n*s)=xs:=by
  obtain ⟨_,⟨h1,_⟩|⟨b',cap',cur,h1,rfl,h2,h3,h4,h5⟩⟩:=h
  · simp at h1
  · simp only [Value.slice.injEq,Option.some.injEq,Addr.mk.injEq,and_true,true_and] at h1
    obtain ⟨rfl,rfl⟩:=h1
    exact ⟨cur,rfl,h2,h3,h4,h5⟩
end Go.Eng
namespace Go.Eng
variable {C : Cx} {D : List Deferred} {R H : List PH} {L : Env} {K : List It}
variable {dst : Option Tmp} {ty : TypeId} {pos : String} {aft : Array Edge} {g : Option (Nat × Bool)}
theorem D8 {x y : Operand} {t t2 e : TypeId} {s b o dl dc sl sc b2 o2 : Nat} {cur : Array Value} {news : List Value} {H' : List PH}
    (hx : evalE L x = some (.slice (some ⟨b, o, none⟩) dl dc)) (hy : evalE L y = some (.slice (some ⟨b2, o2, none⟩) sl sc)) (ht : elemP C.P t = some e) (hs : szP C.P e = some s)
    (htk : Take (sng b (.cells cur e (0, 0))) H H') (hc : Cells C.N R H b2 o2 news) (hn : news.length = Nat.min sl dl * s) (h1 : ∀ u ∈ news, u.oneCell' = true) (hfit : o + news.length ≤ cur.size) :
    Loud C R H L ⟨dst, .call ⟨.builtin .copy, #[x, y], #[t, t2]⟩, ty, pos, aft, g⟩ (fun u H2 => u = .int .i64 ((Nat.min sl dl : Nat) : Int) ∧ H2 = sng b (.cells (cur.toList.take o ++ news ++ cur.toList.drop (o + news.length)).toArray e (0, 0)) :: H') := by
  refine ⟨fun a w hxx hsat next Q hnx => ?_⟩
  obtain ⟨ti, hi, rfl⟩ : ∃ i, C.P.info? e = some i ∧ i.size = s := by
    unfold szP at hs
    cases hi : C.P.info? e with
    | none => simp [hi] at hs
    | some i => simp only [hi, Option.some.injEq] at hs; exact ⟨i, rfl, hs⟩
  have htu := und_elem ht
  have e1 := hxx x (by simp [Op.operands, Call.operands]) _ hx
  have e2 := hxx y (by simp [Op.operands, Call.operands]) _ hy
  have hg : w.heap[b]? = some (.cells cur e (0, 0)) := hsat.own htk
  have hf : (Builtin.firstCells ti.size (Nat.min sl dl) (.slice (some ⟨b2, o2, none⟩) sl sc)).run C.P w = .ok news.toArray w := run_firstCells_some (P := C.P) w ti.size (Nat.min sl dl) ⟨b2, o2, none⟩ sl sc news hn (hc.cell hsat)
  have hst := run_storeCells_at C.P b o e news 0 cur w hg (by simpa using hfit) h1
  have hr : (Builtin.copy_ #[t, t2] ty #[.slice (some ⟨b, o, none⟩) dl dc, .slice (some ⟨b2, o2, none⟩) sl sc]).run C.P w = .ok (.int .i64 ((Nat.min sl dl : Nat) : Int)) (w.setRow b (cur.toList.take o ++ news ++ cur.toList.drop (o + news.length)).toArray) := by
    simp [Builtin.copy_, run_underlying htu, Builtin.lenOf, sizeOf, typeInfo, hi, hf, goInt]
    simpa using congrArg (fun r => r.andThen fun _ w' => Result.ok (Value.int .i64 ((Nat.min sl dl : Nat) : Int)) w') hst
  generalize hnew : (cur.toList.take o ++ news ++ cur.toList.drop (o + news.length)).toArray = new at hr hnx
  have hexec : (execOp a.eval ⟨dst, .call ⟨.builtin .copy, #[x, y], #[t, t2]⟩, ty, pos, aft, g⟩).run C.P w = .ok (.value (.int .i64 ((Nat.min sl dl : Nat) : Int))) (w.setRow b new) := by
    simp [execOp, resolve, e1, e2, invoke, builtin, hr]
  refine wpIn_value (by intro c; simp) hexec (hnx _ _ _ ⟨rfl, rfl⟩ (hsat.turn htk ?_ (setRow_heap w b cur _ e _ hg) (fun k hk => setRow_other w b k _ hk)))
  simp
theorem E9 {x y : Operand} {t tx e : TypeId} {s by_ b i k cap : Nat} {z : Value} {olds : List Value} (hx : evalE L x = some (.slice (some ⟨b, 0, none⟩) i cap)) (hy : evalE L y = some (.int .i64 (k : Int))) (ht : elemP C.P t = some e) (htx : kindP C.P tx = some .i64) (hs : szP C.P e = some s) (hz : zeroP C.P e = some z) (hb : bytesP C.P e = some by_)
    (hzs : z.cells.size = s) (hs0 : 0 < s) (hk : 0 < k) (hc : Cells C.N R H b 0 olds) (hol : olds.length = i * s) (hno : cap < i + k) (hmax : i + k ≤ maxLen) (hby : (i + k) * by_ ≤ 140737488355328) :
    Loud C R H L ⟨dst, .call ⟨.builtin .append, #[x, y], #[t, tx]⟩, ty, pos, aft, g⟩ (fun u H2 => ∃ b' cap' cur, (u = .slice (some ⟨b', 0, none⟩) (i + k) cap' ∧ H2 = sng b' (.cells cur e (0, 0)) :: H) ∧ i + k ≤ cap' ∧ cap' ≤ maxLen ∧ cur.size = cap' * s ∧ cur.toList.take (i * s) = olds) := by
  refine ⟨fun a w hxx hsat next Q hnx => ?_⟩
  obtain ⟨ti, hi, rfl, hiz, rfl⟩ := info_of hs hz hb
  have htu := und_elem ht
  have e1 := hxx x (by simp [Op.operands, Call.operands]) _ hx
  have e2 := hxx y (by simp [Op.operands, Call.operands]) _ hy
  have hold : (Builtin.firstCells ti.size i (.slice (some ⟨b, 0, none⟩) i cap)).run C.P w.drew = .ok olds.toArray w.drew := run_firstCells_some (P := C.P) w.drew ti.size i ⟨b, 0, none⟩ i cap olds hol (hc.cell hsat.drew)
  have hkb : k * ti.bytes ≤ (i + k) * ti.bytes := Nat.mul_le_mul_right _ (by omega)
  have hr := Lib.run_append_grow_zeros (P := C.P) w t tx ty e ti z .i64 .i64 htu (und_kindI htx) hi hiz (some ⟨b, 0, none⟩) i cap olds hold k hk hs0 hno (by simp only [maxLen] at hmax; omega) (by omega) (growslice_fits (by omega) hby)
  have hge := grownCap_ge w (i + k) cap e
  have hcm : grownCap w (i + k) cap e ≤ maxLen := grownCap_le_maxLen w (i + k) cap e hmax
  have hsat2 := hsat.drew.alloc (.cells (olds.toArray ++ Builtin.zeroCells z.cells k ++ Builtin.zeroCells z.cells (grownCap w (i + k) cap e - (i + k))) e)
  refine wpIn_value (by intro c; simp) ?_ (hnx _ _ _ ⟨w.heap.size, _, _, ⟨rfl, rfl⟩, hge, hcm, ?_, ?_⟩ (by simpa using hsat2))
  · simp [execOp, resolve, e1, e2, invoke, builtin, hr]
  · simp only [Array.size_append, size_zeroCells, hzs, List.size_toArray, hol, ← Nat.add_mul]
    congr 1
    omega
  · rw [← hol]
    simp
theorem FA {f : FuncId} {fn : Func} {x y z : Operand} {tS tR e : TypeId} {ts : Array TypeId} {s b1 o1 l1 c1 b2 o2 l2 c2 : Nat} {cu1 cu2 : Array Value} {t1 t2 : TypeId} {ρ1 ρ2 : PH}
    (hf : C.P.funcs[f]? = some fn) (hname : (fn.name == "runtime.NumGoroutine") = false) (hb : fn.body.isNone = true) (hn : Extern.findNext fn = none) (he : Extern.find fn = some (Extern.SlicesOverlaps.overlaps #[tS, tS] #[tR]))
    (hz : evalE L z = some (.func (.func f) #[] #[])) (hx : evalE L x = some (.slice (some ⟨b1, o1, none⟩) l1 c1)) (hy : evalE L y = some (.slice (some ⟨b2, o2, none⟩) l2 c2)) (ht : elemP C.P tS = some e) (hs : szP C.P e = some s)
    (e1 : ρ1 = sng b1 (.cells cu1 t1 (0, 0))) (e2 : ρ2 = sng b2 (.cells cu2 t2 (0, 0))) (m1 : ρ1 ∈ R) (m2 : ρ2 ∈ H) (hk : cu2.size ≠ 0) :
    Quiet C R H L ⟨dst, .call ⟨.value z, #[x, y], ts⟩, ty, pos, aft, g⟩ (.bool false) :=
  ⟨by intro c; simp, fun a w hxx hsat => by
    have f1 := hxx x (by simp [Op.operands, Call.operands]) _ hx
    have f2 := hxx y (by simp [Op.operands, Call.operands]) _ hy
    have f3 := hxx z (by simp [Op.operands, Call.operands]) _ hz
    subst e1; subst e2
    have g1 : w.heap[b1]? = some (.cells cu1 t1 (0, 0)) := hsat.r _ m1 _ _ (sng_self _ _)
    have g2 : w.heap[b2]? = some (.cells cu2 t2 (0, 0)) := hsat.h _ m2 _ _ (sng_self _ _)
    have hne : b1 ≠ b2 := fun h => by
      subst h
      rcases hsat.rd _ m1 _ m2 b1 with h | h <;> simp [sng] at h
    have hov := Lib.run_overlaps_apart (P := C.P) w tS tR e (und_elem ht) s (run_sizeOf hs) ⟨b1, o1, none⟩ ⟨b2, o2, none⟩ l1 c1 l2 c2 hne t1 t2 cu1.size cu2.size (by simp [World.shape?, g1]) (by simp [World.shape?, g2]) hk (by simp [World.frozen?, g1]) (by simp [World.frozen?, g1])
    have hcall := run_callFunc_extern hf hname hb hn he #[.slice (some ⟨b1, o1, none⟩) l1 c1, .slice (some ⟨b2, o2, none⟩) l2 c2] w
    rw [hov] at hcall
    simp [execOp, resolve, f1, f2, f3, Deferred.ofValue, invoke, hcall]⟩
end Go.Eng
namespace Go.Eng
def insL {α : Type} (l : List α) (k : Nat) (h : α) : List α := l.take k ++ h :: l.drop k
theorem insL_len {α : Type} (l : List α) (k : Nat) (h : α) : (insL l k h).length = l.length + 1 := by
  unfold insL;simp only [List.length_append, List.length_take, List.length_cons, List.length_drop];omega
theorem insL_end {α : Type} (l : List α) (h : α) : insL l l.length h = l ++ [h] := by simp [insL]
theorem cutP_at {b o c i s : Nat} (h : i < c) : cutP (some ⟨b, o, none⟩) c i s = some ⟨b, o + i * s, none⟩ := by
  unfold cutP
  rw [if_neg (by omega)]
  simp [addr_add]
theorem cutP_atE {b o c i s : Nat} (s' : Nat) (h : i < c) (hs : s = s') : cutP (some ⟨b, o, none⟩) c i s = some ⟨b, o + i * s', none⟩ := by subst hs; exact cutP_at h
theorem rdN_sng {b : Nat} {vs : List Value} {t : TypeId} {fr : Nat × Nat} : RdN (sng b (.cells vs.toArray t fr)) b 0 vs := fun j v hv => by
  rw [rdc_sng, Nat.zero_add]
  simpa using hv
theorem rdN_take {b : Nat} {cur : Array Value} {t : TypeId} {fr : Nat × Nat} {o : Nat} {vs : List Value} (h : ∀ j v, vs[j]? = some v → cur.toList[o + j]? = some v) : RdN (sng b (.cells cur t fr)) b o vs := fun j v hv => by
  rw [rdc_sng, ← Array.getElem?_toList];exact h j v hv
theorem ins_cells {α : Type} {enc : α → List Value} {s : Nat} (he : ∀ x, (enc x).length = s) (l : List α) (k : Nat) (h : α) (hk : k ≤ l.length) (c1 : List Value) (hc1 : c1.take (k * s) = (l.take k).flatMap enc) (rest : List Value) :
    ((c1.take (k * s) ++ enc h ++ (l.drop k).flatMap enc) ++ rest).take ((l.length + 1) * s) = (insL l k h).flatMap enc := by
  have hl : (c1.take (k * s) ++ enc h ++ (l.drop k).flatMap enc).length = (l.length + 1) * s := by
    rw [hc1, List.length_append, List.length_append, flat_len he, flat_len he, he, List.length_take, List.length_drop, Nat.min_eq_left hk]
    have : (l.length + 1) * s = (k + 1 + (l.length - k)) * s := by congr 1; omega
    rw [this, Nat.add_mul, Nat.add_mul]; omega
  rw [← hl, List.take_left, hc1];unfold insL;rw [List.flatMap_append, List.flatMap_cons, List.append_assoc]
end Go.Eng
namespace Go.Step
open Go.Eng
end Go.Step
namespace Go.Step
def nx (fr to:Int):List Lv→Int
  | []=>to
  | l::f=>if fr<l.a then min l.a to else nx fr to f
end Go.Step
namespace Go.Step
abbrev Pt:=(Int × Int) × Int
/-! times,merged -/
structure TInv (f g:List Lv) (i k:Nat) (out:List Int):Prop where
  sa:SA out
  mem:∀ x,x∈out↔∃ l∈f.take i ++ g.take k,l.a=x
  f:∀ x∈out,∀ l∈f.drop i,x≤l.a
  g:∀ x∈out,∀ l∈g.drop k,x≤l.a
theorem TInv.zero (f g:List Lv):TInv f g 0 0 []:=⟨by simp,by simp,by simp,by simp⟩
theorem TInv.done {f g:List Lv} {out:List Int} (h:TInv f g f.length g.length out):out=tms f g:=by
  obtain ⟨h1,h2⟩:=tms_sa f g
  refine SA.unique h.sa h1 (fun x=>?_)
  rw [h.mem,h2,List.take_length,List.take_length]
theorem SA.len:∀ {out:List Int} {f:List Int},SA out→(∀ x∈out,x∈f)→out.length≤f.length
  | [],_,_,_=>by simp
  | x::out,f,h,hm=>by
    have p:=List.pairwise_cons.1 h
    have hx:=hm x (by simp)
    have:=SA.len (f:=f.erase x) p.2 (fun y hy=>by
      have h1:=hm y (by simp [hy])
      have h2:=p.1 y hy
      exact (List.mem_erase_of_ne (by omega)).2 h1)
    rw [List.length_erase_of_mem hx] at this
    have:0<f.length:=List.length_pos_iff.2 (fun e=>by subst e; simp at hx)
    simp; omega
theorem TInv.len {f g:List Lv} {i k:Nat} {out:List Int} (h:TInv f g i k out):out.length≤f.length+g.length:=by
  have:=SA.len (f:=(f ++ g).map (·.a)) h.sa (fun x hx=>by
    obtain ⟨l,hl,rfl⟩:=(h.mem x).1 hx
    rw [List.mem_map];refine ⟨l,?_,rfl⟩
    simp at hl ⊢
    rcases hl with hl|hl
    · exact .inl (List.mem_of_mem_take hl)
    · exact .inr (List.mem_of_mem_take hl))
  simpa using this
end Go.Step
namespace Go.Step
theorem AddR.err0 {f out:List Lv} {fr to d e:Int} (h:AddR f fr to d out e) (h0:chkS f=0) (hs:0≤fr∧fr≤to∧to≤1099511627776) (hd:-2251799813685248≤d∧d≤2251799813685248) (hv:∀ t,okV (val f t+if fr≤t∧t<to then d else 0)) (hl:f.length≤998):e=0:=by
  rcases h with ⟨a,_⟩|⟨_,a,_⟩|⟨_,_,_,_,_,a⟩|⟨a,b,c,x⟩
  · exact absurd h0 a
  · omega
  · exact a
  · rcases x with ⟨⟨t,_,ht⟩,_⟩|⟨_,hbig,_⟩|⟨_,_,_,he⟩
    · have:=hv t
      dsimp only at ht
      rw [bump_val fr to d t b.2.1] at ht;exact absurd this ht
    · have h1:=comb_len (fun t=>val f t+val (bump fr to d) t) (tms f (bump fr to d)) 0
      obtain ⟨hsa,hmem⟩:=tms_sa f (bump fr to d)
      have h2:=SA.len (f:=(f ++ bump fr to d).map (·.a)) hsa (fun x hx=>by
        obtain ⟨l,hl,rfl⟩:=(hmem x).1 hx
        exact List.mem_map.2 ⟨l,hl,rfl⟩)
      rw [List.length_map,List.length_append] at h2
      have:(bump fr to d).length=2:=rfl
      omega
    · exact he
end Go.Step
namespace Go.Step
theorem CombP.len {F:Int→Int} {ts:List Int} {out:List Lv} {e:Int} (h:CombP F ts out e):out.length≤1000:=by
  rcases h with ⟨_,rfl,_⟩|⟨_,_,rfl,_⟩|⟨_,h,rfl,_⟩
  · simp
  · simp
  · exact h
theorem AddR.len {f out:List Lv} {fr to d e:Int} (h:AddR f fr to d out e):out.length≤1000:=by
  rcases h with ⟨_,rfl,_⟩|⟨_,_,rfl,_⟩|⟨a,_,_,_,rfl,_⟩|⟨_,_,_,hP⟩
  · simp
  · simp
  · exact (chkS_ok a).1
  · exact hP.len
theorem SumR.len {f g out:List Lv} {e:Int} (h:SumR f g out e):out.length≤1000:=by
  rcases h with ⟨_,rfl,_⟩|⟨_,_,hP⟩
  · simp
  · exact hP.len
end Go.Step
namespace Go.Step
theorem tms_len (f g:List Lv):(tms f g).length≤f.length+g.length:=by
  obtain ⟨hsa,hmem⟩:=tms_sa f g
  have h2:=SA.len (f:=(f ++ g).map (·.a)) hsa (fun x hx=>by
    obtain ⟨l,hl,rfl⟩:=(hmem x).1 hx
    exact List.mem_map.2 ⟨l,hl,rfl⟩)
  rw [List.length_map,List.length_append] at h2;exact h2
theorem CombP.len2 {F:Int→Int} {ts:List Int} {out:List Lv} {e:Int} (h:CombP F ts out e):out.length≤ts.length:=by
  rcases h with ⟨_,rfl,_⟩|⟨_,_,rfl,_⟩|⟨_,_,rfl,_⟩
  · simp
  · simp
  · exact comb_len F ts 0
theorem AddR.len2 {f out:List Lv} {fr to d e:Int} (h:AddR f fr to d out e):out.length≤f.length+2:=by
  rcases h with ⟨_,rfl,_⟩|⟨_,_,rfl,_⟩|⟨a,_,_,_,rfl,_⟩|⟨_,_,_,hP⟩
  · simp
  · simp
  · omega
  · have:=hP.len2
    have:=tms_len f (bump fr to d)
    have:(bump fr to d).length=2:=rfl
    omega
theorem okV_val {f:List Lv} (h:chkS f=0) (t:Int):okV (val f t):=by
  have hA:=(chkS_ok h).2
  rcases vat_mem f 0 t with e|⟨l,hl,e⟩
  · unfold okV val; rw [e]; omega
  · unfold okV val
    rw [e]
    have:=hA.gt l hl
    omega
theorem AddR.cond {f out:List Lv} {fr to d:Int} (h:AddR f fr to d out 0):(0≤fr∧fr≤to∧to≤1099511627776) ∧ -2251799813685248≤d∧d≤2251799813685248:=by
  rcases h with ⟨_,_,h⟩|⟨_,_,_,h⟩|⟨_,b,c,_⟩|⟨_,b,c,_⟩
  · simp at h
  · simp at h
  · exact ⟨b,c⟩
  · exact ⟨by omega,c⟩
theorem AddR.back {f p out:List Lv} {fr to d e:Int} (h:AddR f fr to d p 0) (hl:f.length≤900) (h':AddR p fr to (-d) out e):e=0∧out=f:=by
  obtain ⟨c1,c2,c3⟩:=h.cond
  obtain ⟨h1,h2,h3⟩:=h.ok
  have hlp:=h.len2
  have hneg:∀ t:Int,-1≤t→val p t+(if fr≤t∧t<to then -d else 0)=val f t:=fun t ht=>by
    rw [h3 t ht]
    by_cases hc:fr≤t∧t<to
    · rw [if_pos hc,if_pos hc]; omega
    · rw [if_neg hc,if_neg hc]; omega
  have he:e=0:=h'.err0 h2 c1 (by omega) (fun t=>by
    by_cases ht:-1≤t
    · rw [hneg t ht]; exact okV_val h1 t
    · rw [if_neg (by omega)]
      have:=okV_val h2 t
      unfold okV at this ⊢
      omega) (by omega)
  subst he
  obtain ⟨_,k2,k3⟩:=h'.ok
  exact ⟨rfl,chkS_unique k2 h1 (fun t ht=>by rw [k3 t ht,hneg t ht])⟩
theorem AddR.swap {f p q r s:List Lv} {a1 a2 a b1 b2 b:Int} (h1:AddR f a1 a2 a p 0) (h2:AddR p b1 b2 b q 0) (h3:AddR f b1 b2 b r 0) (h4:AddR r a1 a2 a s 0):q=s:=by
  obtain ⟨_,_,e1⟩:=h1.ok
  obtain ⟨_,k2,e2⟩:=h2.ok
  obtain ⟨_,_,e3⟩:=h3.ok
  obtain ⟨_,k4,e4⟩:=h4.ok
  exact chkS_unique k2 k4 (fun t ht=>by rw [e2 t ht,e1 t ht,e4 t ht,e3 t ht]; omega)
theorem tms_comm (f g:List Lv):tms f g=tms g f:=by
  obtain ⟨a1,a2⟩:=tms_sa f g
  obtain ⟨b1,b2⟩:=tms_sa g f
  refine SA.unique a1 b1 (fun x=>?_)
  rw [a2,b2]
  constructor <;> (rintro ⟨l,hl,e⟩; exact ⟨l,by rw [List.mem_append] at hl ⊢; exact hl.symm,e⟩)
theorem SumR.comm {f g o:List Lv} {e:Int} (h:SumR f g o e):SumR g f o e:=by
  rcases h with ⟨a,b,c⟩|⟨a,b,c⟩
  · exact .inl ⟨a.symm,b,c⟩
  · refine .inr ⟨b,a,?_⟩
    rw [tms_comm g f]
    have:(fun t=>val g t+val f t)=(fun t=>val f t+val g t):=funext (fun t=>Int.add_comm _ _)
    rw [this]; exact c
theorem SumR.ok {f g o:List Lv} (h:SumR f g o 0):chkS f=0∧chkS g=0∧chkS o=0∧∀ t:Int,-1≤t→val o t=val f t+val g t:=by
  rcases h with ⟨_,_,h⟩|⟨a,b,c⟩
  · simp at h
  · obtain ⟨h1,h2⟩:=CombP.ok (op:=(· + ·)) (chkS_ok a).2.t (chkS_ok b).2.t rfl c
    exact ⟨a,b,h1,h2⟩
end Go.Step
namespace Go.Step
end Go.Step
namespace Go.Step
def Chn (a:Int):List Pt→Int→Prop
  | [],b=>a=b
  | p::ps,b=>p.1.1=a∧a<p.1.2∧Chn p.1.2 ps b
def Cov (l:List (Int × Int)) (t:Int):Prop:=∃ s∈l,s.1≤t∧t<s.2
structure Apart (lo a:Int) (l:List (Int × Int)):Prop where
  ok:∀ s∈l,lo≤s.1∧s.1<s.2∧s.2≤a
  sep:l.Pairwise (fun s t=>s.2<t.1)
end Go.Step
namespace Go.Step
structure InvF (Q s:Int) (G:Int→Int) (T v:Int) (st:Int × List (Int × Int)):Prop where
  ap:Apart 0 T st.2
  fr:st.1 = -1∨(0≤st.1∧st.1≤T∧∀ u∈st.2,u.2<st.1)
  cov:∀ t,0≤t→t<T→((Cov st.2 t∨(0≤st.1∧st.1≤t))↔G t+s≤Q)
  now:0≤st.1↔v+s≤Q
theorem cov_snoc (l:List (Int × Int)) (x:Int × Int) (t:Int):Cov (l ++ [x]) t↔Cov l t∨(x.1≤t∧t<x.2):=by
  unfold Cov
  constructor
  · rintro ⟨s,hs,h⟩
    rcases List.mem_append.1 hs with hs|hs
    · exact .inl ⟨s,hs,h⟩
    · simp only [List.mem_singleton] at hs; subst hs; exact .inr h
  · rintro (⟨s,hs,h⟩|h)
    · exact ⟨s,by simp [hs],h⟩
    · exact ⟨x,by simp,h⟩
theorem apart_snoc {T T':Int} {l:List (Int × Int)} {x:Int × Int} (h:Apart 0 T l) (hT:T≤T') (hx:0≤x.1∧x.1<x.2∧x.2≤T') (hs:∀ u∈l,u.2<x.1):Apart 0 T' (l ++ [x]):=by
  refine ⟨fun s hm=>?_,List.pairwise_append.2 ⟨h.sep,by simp,fun a ha b hb=>?_⟩⟩
  · rcases List.mem_append.1 hm with hm|hm
    · have:=h.ok s hm; omega
    · simp only [List.mem_singleton] at hm; subst hm; exact hx
  · simp only [List.mem_singleton] at hb; subst hb; exact hs a ha
theorem apart_mono {T T':Int} {l:List (Int × Int)} (h:Apart 0 T l) (hT:T≤T'):Apart 0 T' l:=⟨fun s hm=>by have:=h.ok s hm; omega,h.sep⟩
theorem InvF.step {Q s:Int} {G:Int→Int} {T v:Int} {st:Int × List (Int × Int)} (h:InvF Q s G T v st) {T' v':Int} (h0:0≤T) (hT:T<T'∨(T=T'∧st.2=[])) (hG:∀ t,T≤t→t<T'→G t=v):InvF Q s G T' v' (frA Q s st T' v'):=by
  have hle:T≤T':=by omega
  obtain ⟨fr,out⟩:=st
  obtain ⟨hap,hfr,hcov,hnow⟩:=h
  dsimp only at hap hfr hcov hnow hT
  unfold frA
  by_cases hc:Q-v'<s
  · rw [if_pos hc]
    dsimp only
    by_cases ho:0≤fr∧fr<T'
    · rw [if_pos ho]
      have hsep:∀ u∈out,u.2<fr:=by rcases hfr with h|h; omega; exact h.2.2
      refine ⟨apart_snoc hap hle ⟨ho.1,ho.2,Int.le_refl _⟩ hsep,.inl rfl,fun t ht ht2=>?_,by constructor <;> intro h <;> omega⟩
      dsimp only
      rw [cov_snoc]
      dsimp only
      by_cases c:t<T
      · have:=hcov t ht c
        rw [← this]
        constructor
        · rintro ((h|h)|h)
          · exact .inl h
          · exact .inr ⟨ho.1,h.1⟩
          · omega
        · rintro (h|h)
          · exact .inl (.inl h)
          · exact .inl (.inr ⟨h.2,ht2⟩)
      · rw [hG t (by omega) ht2]
        have:=hnow.1 ho.1
        constructor
        · intro _; exact this
        · intro _
          refine .inl (.inr ⟨?_,ht2⟩)
          rcases hfr with h|h <;> omega
    · rw [if_neg ho]
      refine ⟨apart_mono hap hle,.inl rfl,fun t ht ht2=>?_,by constructor <;> intro h <;> dsimp only at * <;> omega⟩
      dsimp only
      by_cases c:t<T
      · rw [← hcov t ht c]
        constructor
        · rintro (h|h)
          · exact .inl h
          · omega
        · rintro (h|h)
          · exact .inl h
          · omega
      · rw [hG t (by omega) ht2]
        constructor
        · rintro (⟨u,hu,h⟩|h)
          · have:=hap.ok u hu; omega
          · omega
        · intro h
          have:=hnow.2 h
          exact absurd ⟨this,by rcases hfr with k|k <;> omega⟩ ho
  · rw [if_neg hc]
    dsimp only
    by_cases ho:fr<0
    · rw [if_pos ho]
      refine ⟨apart_mono hap hle,.inr ⟨by dsimp only; omega,Int.le_refl _,fun u hu=>?_⟩,fun t ht ht2=>?_,by constructor <;> intro h <;> dsimp only at * <;> omega⟩
      · dsimp only at hu ⊢
        have:=hap.ok u hu
        rcases hT with h|h
        · omega
        · rw [h.2] at hu; simp at hu
      · dsimp only
        by_cases c:t<T
        · rw [← hcov t ht c]
          constructor
          · rintro (h|h)
            · exact .inl h
            · omega
          · rintro (h|h)
            · exact .inl h
            · omega
        · rw [hG t (by omega) ht2]
          constructor
          · rintro (⟨u,hu,h⟩|h)
            · have:=hap.ok u hu; omega
            · omega
          · intro h
            have:=hnow.2 h; omega
    · rw [if_neg ho]
      have hf:0≤fr∧fr≤T∧∀ u∈out,u.2<fr:=by
        rcases hfr with h|h
        · omega
        · exact h
      refine ⟨apart_mono hap hle,.inr ⟨hf.1,by dsimp only; omega,hf.2.2⟩,fun t ht ht2=>?_,by constructor <;> intro h <;> dsimp only at * <;> omega⟩
      dsimp only
      by_cases c:t<T
      · exact hcov t ht c
      · rw [hG t (by omega) ht2]
        have:=hnow.1 hf.1
        constructor
        · intro _; exact this
        · intro _; exact .inr ⟨hf.1,by omega⟩
theorem InvF.fin {Q s:Int} {G:Int→Int} {T v:Int} {st:Int × List (Int × Int)} (h:InvF Q s G T v st) (h0:0≤T) (hT:T≤1099511627776) (hG:∀ t,T≤t→t<1099511627776→G t=v) :
    Apart 0 1099511627776 (finA st)∧∀ t,0≤t→t<1099511627776→(Cov (finA st) t↔G t+s≤Q):=by
  obtain ⟨fr,out⟩:=st
  obtain ⟨hap,hfr,hcov,hnow⟩:=h
  dsimp only at hap hfr hcov hnow
  unfold finA
  dsimp only
  by_cases ho:0≤fr∧fr<1099511627776
  · rw [if_pos ho]
    have hf:fr≤T∧∀ u∈out,u.2<fr:=by rcases hfr with h|h; omega; exact h.2
    refine ⟨apart_snoc hap hT ⟨ho.1,ho.2,Int.le_refl _⟩ hf.2,fun t ht ht2=>?_⟩
    rw [cov_snoc]
    dsimp only
    by_cases c:t<T
    · rw [← hcov t ht c]
      constructor
      · rintro (h|h)
        · exact .inl h
        · exact .inr ⟨ho.1,h.1⟩
      · rintro (h|h)
        · exact .inl h
        · exact .inr ⟨h.2,ht2⟩
    · rw [hG t (by omega) ht2]
      have:=hnow.1 ho.1
      constructor
      · intro _; exact this
      · intro _; exact .inr ⟨by omega,ht2⟩
  · rw [if_neg ho]
    refine ⟨apart_mono hap hT,fun t ht ht2=>?_⟩
    by_cases c:t<T
    · rw [← hcov t ht c]
      constructor
      · exact fun h=>.inl h
      · rintro (h|h)
        · exact h
        · omega
    · rw [hG t (by omega) ht2]
      constructor
      · rintro ⟨u,hu,h⟩
        have:=hap.ok u hu; omega
      · intro h
        have:=hnow.2 h
        exact absurd ⟨this,by rcases hfr with k|k <;> omega⟩ ho
end Go.Step
namespace Go.Step
end Go.Step
namespace Go.Step
end Go.Step
namespace Go.Proofs.YtahbngakckbenaaGreatDoor
open Go.Eng Go.Step
set_option maxRecDepth 100000
set_option maxHeartbeats 64000000
theorem within_spec (a l h:Int):Ans Tryz.prog (fv 124) [int a,int l,int h] [] (fun r=>(r=.bool true∧l≤a∧a≤h)∨(r=.bool false∧¬ (l≤a∧a≤h))):=by
 refine spec_in (cap:=[]) Tryz.func124 rfl rfl Tryz.ntmps124 rfl envZ (fun N β=>?_)
 by_cases h1:l≤a
 ·by_cases h2:a≤h
  ·refine AD ?_
   refine AA ?_;refine Acd ?_;refine DG ?_;refine Abl ?_;refine EA ?_;refine Abi ?_;exact AK (res1 rfl rfl) rsubZ selZ ⟨rfl,.inl ⟨rfl,h1,h2⟩⟩
  ·refine AD ?_
   refine AA ?_;refine Acd ?_;refine DG ?_;refine Abl ?_;refine FV ?_;refine Abi ?_
   exact AK (res1 rfl rfl) rsubZ selZ ⟨rfl,.inr ⟨rfl,by omega⟩⟩
 ·refine AD ?_
  refine AA ?_;refine Acd ?_;refine DH ?_;refine Ab9 ?_;refine AR ?_;refine Aaa ?_
  exact AK (res1 rfl rfl) rsubZ selZ ⟨rfl,.inr ⟨rfl,by omega⟩⟩
theorem ctCheck_spec (c:Ct):Ans Tryz.prog (fv 76) [.agg #[int c.f,int c.t,int c.s,int c.e,int c.r,int c.g,int c.l]] [] (fun r=>r=int (chkCt c)):=by
 refine spec_in (cap:=[]) Tryz.func76 rfl rfl Tryz.ntmps76 rfl envZ (fun N β=>?_)
 repeat' (first
  | (refine AB ?_)
  | (refine AC ?_)
  | (refine AG ?_)
  | (refine AF ?_)
  | (refine A4 ?_)
  | (refine AR ?_)
  | (refine BC ?_)
  | (refine DI ?_)
  | (refine E5 ?_)
  | (refine AD ?_)
  | (refine AA ?_)
  | (refine AE ?_)
  | (refine AN ?_)
  | (refine A5 rfl ?_)
  | (refine AL rfl ?_)
  | (refine AM rfl rfl rfl ?_)
  | (focus ((refine AW (within_spec _ _ _) rfl rfl rdZ rfl rfl ?_; rintro v (⟨rfl,h⟩|⟨rfl,h⟩))))
  | (refine DC ?_; rintro _ _ ⟨b,rfl,rfl⟩)
  | (focus ((refine FN rfl rfl (cmp_eq _ _) rfl rfl (fun h=>?_) (fun h=>?_))))
  | (focus ((refine FN rfl rfl (cmp_lt _ _) rfl rfl (fun h=>?_) (fun h=>?_))))
  | (focus ((refine FN rfl rfl (cmp_le _ _) rfl rfl (fun h=>?_) (fun h=>?_))))
  | fail)
 all_goals (refine AK (res1 rfl rfl) rsubZ selZ ⟨rfl,?_⟩)
 all_goals (unfold chkCt okCt; (repeat' split) <;> first|rfl|(exfalso; omega))
def encS (x:Int × Int):List Value:=[int x.1,int x.2]
theorem encS_len (x:Int × Int):(encS x).length=2:=rfl
abbrev SpAt (ρ:PH) (v:Value) (l:List (Int × Int)):Prop:=SlE encS 2 ρ v l
theorem spRow {ρ:PH} {p:Option Addr} {l:List (Int × Int)} (h:RowsE encS 2 ρ p l) {i:Nat} {x:Int × Int} (hx:l[i]?=some x) :
  ∃ b o,p=some ⟨b,o,none⟩∧RdN ρ b (o+i*2) [int x.1,int x.2]∧rdc ρ b (o+i*2)=some (int x.1)∧rdc ρ b (o+i*2+1)=some (int x.2):=by
 obtain ⟨b,o,e,hr⟩:=h i x hx
 exact ⟨b,o,e,hr,hr.get0,hr.get (j:=1) rfl⟩
end Go.Proofs.YtahbngakckbenaaGreatDoor
namespace Go.Step
structure Dm where
  s:Int
  d:Int
  v:Int
  r:Int
  e:Int
deriving DecidableEq
def okDm (nq:Nat) (d:Dm):Prop:=(0≤d.s∧d.s<nq)∧(0≤d.d∧d.d<nq)∧d.s≠d.d∧(1≤d.v∧d.v≤1099511627776)∧(0≤d.r∧d.r<d.e∧d.e≤1099511627776∧d.e-d.r≤100)
instance (nq:Nat) (d:Dm):Decidable (okDm nq d):=inferInstanceAs (Decidable (_∧_))
end Go.Step
namespace Go.Step
end Go.Step
namespace Go.Step
def okSp (x:Int × Int):Prop:=x.1<x.2 ∧ -1152921504606846976≤x.1∧x.2≤1152921504606846976
instance (x:Int × Int):Decidable (okSp x):=inferInstanceAs (Decidable (_∧_))
def spE (l:List (Int × Int)) (i:Nat):Int:=match l[i]? with
  | some x=>if ¬ okSp x then 2 else if 0<i∧x.1≤(l.getD (i-1) x).2 then 9 else 0
  | none=>0
theorem spE_at {l:List (Int × Int)} {i:Nat} {x:Int × Int} (e:l[i]?=some x):spE l i=if ¬ okSp x then 2 else if 0<i∧x.1≤(l.getD (i-1) x).2 then 9 else 0:=by unfold spE; rw [e]
def chkI (l:List (Int × Int)):Int:=if 1000<l.length then 4 else firstE (spE l) l.length
def inSp (t:Int) (x:Int × Int):Bool:=decide (x.1≤t) && decide (t<x.2)
end Go.Step
namespace Go.Proofs.YtahbngakckbenaaGreatDoor
open Go.Eng Go.Step
set_option maxRecDepth 100000
set_option maxHeartbeats 64000000
theorem ivValid_spec (x:Int × Int):Ans Tryz.prog (fv 75) [.agg #[int x.1,int x.2]] [] (fun r=>r=.bool (decide (okSp x))):=by
 refine spec_in (cap:=[]) Tryz.func75 rfl rfl Tryz.ntmps75 rfl envZ (fun N β=>?_)
 by_cases h1:x.1<x.2
 ·by_cases h2:-1152921504606846976≤x.1
  ·by_cases h3:x.2≤1152921504606846976
   ·rw [decide_eq_true (show okSp x from ⟨h1,h2,h3⟩)]
    refine Aa ?_;refine DC ?_; rintro _ _ ⟨b,rfl,rfl⟩;refine Ab4 ?_;refine Aae ?_;refine CC ?_;refine Aap ?_;refine DG ?_;refine A4 ?_;refine Aap ?_;refine EA ?_;refine Abi ?_;exact BE ⟨rfl,rfl⟩
   ·rw [decide_eq_false (fun h:okSp x=>h3 h.2.2)]
    refine Aa ?_;refine DC ?_; rintro _ _ ⟨b,rfl,rfl⟩;refine Ab4 ?_;refine Aae ?_;refine CC ?_;refine Aap ?_;refine DG ?_;refine A4 ?_;refine Aap ?_;refine FV ?_;refine Abi ?_;exact BE ⟨rfl,rfl⟩
  ·rw [decide_eq_false (fun h:okSp x=>h2 h.2.1)]
   refine Aa ?_;refine DC ?_; rintro _ _ ⟨b,rfl,rfl⟩;refine Ab4 ?_;refine Aae ?_;refine CC ?_;refine Aap ?_;refine DH ?_;refine A4 ?_;refine Ab9 ?_;refine AR ?_;refine Aaa ?_;exact BE ⟨rfl,rfl⟩
 ·rw [decide_eq_false (fun h:okSp x=>h1 h.1)]
  refine Aa ?_;refine DC ?_; rintro _ _ ⟨b,rfl,rfl⟩;refine Ab4 ?_;refine Aae ?_;refine BN ?_;refine Ab9 ?_;refine AR ?_;refine Ab9 ?_;refine AR ?_;refine Aaa ?_;exact BE ⟨rfl,rfl⟩
theorem ivCheck_spec (ρ:PH) (v:Value) (l:List (Int × Int)) (hv:SpAt ρ v l) (hl:l.length≤9223372036854775807) :
  Ans Tryz.prog (fv 35) [v] [ρ] (fun r=>r=int (chkI l)):=by
 obtain ⟨q,c,rfl,hr⟩:=hv.val encS_len
 refine spec_in (cap:=[]) Tryz.func35 rfl rfl Tryz.ntmps35 rfl envZ (fun N β=>?_)
 unfold chkI
 by_cases hbig:1000<l.length
 ·rw [if_pos hbig]
  refine Ab0 ?_;refine BF ?_;refine C9 ?_;refine Aal ?_;refine Aan ?_;exact BE ⟨rfl,rfl⟩
 rw [if_neg hbig];refine Ab0 ?_;refine BF ?_;refine BP ?_;refine Acm ?_;refine Abw ?_
 refine BX [0,8,9] (0:Nat) (fun k=>k≤l.length∧firstE (spE l) k=0) (fun k=>[(10,int k)]) (fun _=>[]) (fun k=>l.length-k) pickZ ⟨by omega,rfl⟩ covZ selZ ?_
 rintro k ⟨hk,hI⟩
 by_cases hlt:k<l.length
 ·have hx:=List.getElem?_eq_getElem hlt
  obtain ⟨b4,o4,rfl,hrd,g0,g1⟩:=spRow hr hx
  have hE:=spE_at hx
  generalize l[k]=x at hrd g0 g1 hE
  refine Abs ?_;refine Aab ?_;refine Acj ?_;refine A6 ?_; rintro _ _ ⟨b,rfl,rfl⟩;refine AC ?_;refine AX ?_; rintro _ _ ⟨rfl,rfl⟩;refine Aat ?_;refine Aaz ?_
  revert b; intro b6
  refine AW (ivValid_spec x) rfl rfl rdZ rfl rfl ?_;rintro _ rfl
  by_cases hok:okSp x
  rotate_left
  ·rw [if_pos hok] at hE
   have hh:=firstE_hit hI (by rw [hE]; decide) _ hlt
   rw [hh,hE,decide_eq_false hok];refine BC ?_;refine Aal ?_;refine Aan ?_;exact BE ⟨rfl,rfl⟩
  rw [if_neg (fun h=>h hok)] at hE
  rw [decide_eq_true hok];refine Abm ?_;refine AD ?_
  refine BD P0Z [sng b6 _] rfl (by kernel_rfl) selZ ?_
  by_cases h0:k=0
  ·subst h0
   rw [if_neg (by omega)] at hE
   refine AJ ?_;refine DA ?_;refine Acv ?_;refine Acs ?_;refine Abx ?_;refine Abc ?_
   exact BH (0+1) ⟨by omega,firstE_ok hI hE⟩ (by omega) covZ selZ
  ·have hx':=List.getElem?_eq_getElem (show k-1<l.length by omega)
   obtain ⟨_,_,e,_,p0,p1⟩:=spRow hr hx'
   simp only [Option.some.injEq,Addr.mk.injEq,and_true] at e
   obtain ⟨rfl,rfl⟩:=e
   rw [List.getD_eq_getElem?_getD,hx',Option.getD_some] at hE
   generalize l[k-1]=p at p0 p1 hE
   by_cases h9:x.1≤p.2
   ·rw [if_pos ⟨by omega,h9⟩] at hE
    have hh:=firstE_hit hI (by rw [hE]; decide) _ hlt
    rw [hh,hE];refine AJ ?_;refine EJ ?_;refine Abp ?_;refine Acc ?_;refine CW ?_;refine CR ?_;refine Ace ?_;refine zd_le ?_;refine B7 ?_;refine Acl ?_;refine Aan ?_;exact BE ⟨rfl,rfl⟩
   ·rw [if_neg (fun h=>h9 h.2)] at hE
    refine AJ ?_;refine EJ ?_;refine Abp ?_;refine Acc ?_;refine CW ?_;refine CR ?_;refine Ace ?_;refine zd_leF ?_;refine B7 ?_;refine Abx ?_;refine Abc ?_
    exact BH (k+1) ⟨by omega,firstE_ok hI hE⟩ (by omega) covZ selZ
 have hke:k=l.length:=by omega
 subst hke;rw [hI];refine Aby ?_;refine Aan ?_;exact BE ⟨rfl,rfl⟩
end Go.Proofs.YtahbngakckbenaaGreatDoor
namespace Go.Step
end Go.Step
namespace Go.Step
theorem chkI_at {l:List (Int × Int)} (h:chkI l=0) {i:Nat} (hi:i<l.length):l[i].1<l[i].2∧(∀ h0:0<i,l[i-1].2<l[i].1):=by
  unfold chkI at h
  split at h
  · simp at h
  have h2:=firstE_zero h i hi
  rw [spE_at (List.getElem?_eq_getElem hi)] at h2
  split at h2
  · simp at h2
  rename_i h3
  split at h2
  · simp at h2
  rename_i h4
  have h5:okSp l[i]:=Decidable.not_not.1 h3
  refine ⟨h5.1,fun h0=>?_⟩
  rw [List.getD_eq_getElem?_getD,List.getElem?_eq_getElem (by omega),Option.getD_some] at h4
  omega
theorem chkI_hi {l:List (Int × Int)} (h:chkI l=0):∀ (k:Nat) {i:Nat} (hi:i+k<l.length),l[i].2≤l[i+k].2
  | 0,i,hi=>Int.le_refl _
  | k+1,i,hi=>by
    have h1:=chkI_hi h k (i:=i) (by omega)
    have h2:=(chkI_at h (i:=i+(k+1)) hi).1
    have h3:=(chkI_at h hi).2 (by omega)
    have e:i+(k+1)-1=i+k:=by omega
    simp only [e] at h3;omega
end Go.Step
namespace Go.Step
abbrev Iv:=List (Int × Int)
def NormI (l:Iv):Prop:=(∀ x∈l,x.1<x.2)∧l.Pairwise (fun x y=>x.2<y.1)
def memI (l:Iv) (t:Int):Bool:=l.any (inSp t)
theorem inSp_iff {t:Int} {x:Int × Int}:inSp t x=true↔x.1≤t∧t<x.2:=by simp [inSp]
theorem memI_iff {l:Iv} {t:Int}:memI l t=true↔∃ x∈l,x.1≤t∧t<x.2:=by simp [memI,inSp]
theorem memI_cons (x:Int × Int) (l:Iv) (t:Int):memI (x::l) t=(inSp t x || memI l t):=rfl
theorem memI_append (a b:Iv) (t:Int):memI (a ++ b) t=(memI a t || memI b t):=by unfold memI; rw [List.any_append]
theorem NormI.nil:NormI []:=⟨by simp,.nil⟩
theorem NormI.tail {x:Int × Int} {l:Iv} (h:NormI (x::l)):NormI l:=⟨fun y hy=>h.1 y (by simp [hy]),(List.pairwise_cons.1 h.2).2⟩
theorem NormI.hd {x:Int × Int} {l:Iv} (h:NormI (x::l)):x.1<x.2∧∀ y∈l,x.2<y.1:=⟨h.1 x (by simp),(List.pairwise_cons.1 h.2).1⟩
theorem NormI.cons {x:Int × Int} {l:Iv} (h:NormI l) (h1:x.1<x.2) (h2:∀ y∈l,x.2<y.1):NormI (x::l):=
  ⟨fun y hy=>by
    rcases List.mem_cons.1 hy with rfl|hy
    · exact h1
    · exact h.1 y hy,List.pairwise_cons.2 ⟨h2,h.2⟩⟩
theorem memI_lo {x:Int × Int} {l:Iv} {t:Int} (h:NormI (x::l)) (hm:memI (x::l) t=true):x.1≤t:=by
  obtain ⟨y,hy,h1,h2⟩:=memI_iff.1 hm
  rcases List.mem_cons.1 hy with rfl|hy
  · exact h1
  · have a:=h.hd.1
    have b:=h.hd.2 y hy
    omega
theorem memI_lo2 {x:Int × Int} {l:Iv} {t:Int} (h:NormI (x::l)) (hm:memI l t=true):x.2<t:=by
  obtain ⟨y,hy,h1,h2⟩:=memI_iff.1 hm
  have b:=h.hd.2 y hy
  omega
theorem memI_first {x:Int × Int} {l:Iv} (h:x.1<x.2):memI (x::l) x.1=true:=memI_iff.2 ⟨x,by simp,by omega,h⟩
theorem normI_ext:∀ {a b:Iv},NormI a→NormI b→(∀ t,memI a t=memI b t)→a=b
  | [],[],_,_,_=>rfl
  | [],y::b,_,hb,h=>by
    have:=h y.1
    rw [memI_first hb.hd.1] at this
    exact absurd this (by simp [memI])
  | x::a,[],ha,_,h=>by
    have:=h x.1
    rw [memI_first ha.hd.1] at this
    exact absurd this (by simp [memI])
  | x::a,y::b,ha,hb,h=>by
    have e1:x.1=y.1:=by
      have h1:=memI_lo hb (t:=x.1) (by rw [← h]; exact memI_first ha.hd.1)
      have h2:=memI_lo ha (t:=y.1) (by rw [h]; exact memI_first hb.hd.1)
      omega
    have hx:=ha.hd.1
    have hy:=hb.hd.1
    have e2:x.2=y.2:=by
      apply Int.le_antisymm
      · apply Int.not_lt.1
        intro hlt
        have h1:=h y.2
        rw [memI_cons,memI_cons,(inSp_iff (t:=y.2) (x:=x)).2 ⟨by omega,hlt⟩,Bool.true_or] at h1
        rcases (Bool.or_eq_true _ _).mp h1.symm with h2|h2
        · have:=(inSp_iff.1 h2).2; omega
        · have:=memI_lo2 hb h2; omega
      · apply Int.not_lt.1
        intro hlt
        have h1:=h x.2
        rw [memI_cons,memI_cons,(inSp_iff (t:=x.2) (x:=y)).2 ⟨by omega,hlt⟩,Bool.true_or] at h1
        rcases (Bool.or_eq_true _ _).mp h1 with h2|h2
        · have:=(inSp_iff.1 h2).2; omega
        · have:=memI_lo2 ha h2; omega
    have exy:x=y:=Prod.ext e1 e2
    subst exy
    congr 1
    refine normI_ext ha.tail hb.tail (fun t=>?_)
    by_cases ht:x.2<t
    · have h1:=h t
      have h2:inSp t x=false:=by
        cases e:inSp t x with
        | false=>rfl
        | true=>have:=(inSp_iff.1 e).2; omega
      rw [memI_cons,memI_cons,h2,Bool.false_or,Bool.false_or] at h1;exact h1
    · have h1:memI a t=false:=by
        cases e:memI a t with
        | false=>rfl
        | true=>exact absurd (memI_lo2 ha e) ht
      have h2:memI b t=false:=by
        cases e:memI b t with
        | false=>rfl
        | true=>exact absurd (memI_lo2 hb e) ht
      rw [h1,h2]
/-! sets that are checked -/
theorem chkI_norm {l:Iv} (h:chkI l=0):l.length≤1000∧NormI l∧∀ x∈l,okSp x:=by
  have h1:l.length≤1000:=by
    unfold chkI at h
    split at h
    · simp at h
    · omega
  refine ⟨h1,⟨fun x hx=>?_,List.pairwise_iff_getElem.2 (fun i j hi hj hij=>?_)⟩,fun x hx=>?_⟩
  · obtain ⟨i,hi,rfl⟩:=List.getElem_of_mem hx
    exact (chkI_at h hi).1
  · have a:=chkI_hi h (j-1-i) (i:=i) (by omega)
    have b:=(chkI_at h hj).2 (by omega)
    have e:i+(j-1-i)=j-1:=by omega
    simp only [e] at a;omega
  · obtain ⟨i,hi,rfl⟩:=List.getElem_of_mem hx
    unfold chkI at h
    rw [if_neg (by omega)] at h
    have h2:=firstE_zero h i hi
    rw [spE_at (List.getElem?_eq_getElem hi)] at h2
    split at h2
    · simp at h2
    · rename_i h3; exact Decidable.not_not.1 h3
theorem chkI_of {l:Iv} (h1:l.length≤1000) (h2:NormI l) (h3:∀ x∈l,okSp x):chkI l=0:=by
  unfold chkI
  rw [if_neg (by omega)]
  refine firstE_all (fun k hk=>?_)
  rw [spE_at (List.getElem?_eq_getElem hk),if_neg (fun h=>h (h3 _ (List.getElem_mem hk)))]
  by_cases h0:0<k
  · have h4:=List.pairwise_iff_getElem.1 h2.2 (k-1) k (by omega) hk (by omega)
    rw [if_neg]
    rw [List.getD_eq_getElem?_getD,List.getElem?_eq_getElem (by omega),Option.getD_some]
    omega
  · rw [if_neg (fun h=>h0 h.1)]
/-! one more span -/
/-! intersection,span by span -/
/-! ends of spans -/
def tog (l:Iv):List Int:=l.flatMap (fun x=>[x.1,x.2])
theorem tog_len:∀ l:Iv,(tog l).length=2*l.length
  | []=>rfl
  | x::l=>by
    have:=tog_len l
    show (x.1::x.2::tog l).length=_
    simp only [List.length_cons];omega
theorem tog_get:∀ (l:Iv) (i:Nat) (x:Int × Int),l[i]?=some x→(tog l)[2*i]?=some x.1∧(tog l)[2*i+1]?=some x.2
  | [],i,x,h=>by simp at h
  | y::l,0,x,h=>by
    simp only [List.getElem?_cons_zero,Option.some.injEq] at h;subst h;exact ⟨rfl,rfl⟩
  | y::l,i+1,x,h=>by
    have:=tog_get l i x (by simpa using h)
    show (y.1::y.2::tog l)[2*(i+1)]?=_∧(y.1::y.2::tog l)[2*(i+1)+1]?=_
    rw [show 2*(i+1)=2*i+1+1 by omega]
    exact this
def parT:List Int→Int→Bool
  | [],_=>false
  | e::E,t=>if e≤t then !(parT E t) else parT E t
theorem parT_tog:∀ {l:Iv},NormI l→∀ t,parT (tog l) t=memI l t
  | [],_,t=>rfl
  | x::l,h,t=>by
    have ih:=parT_tog h.tail t
    have hx:=h.hd.1
    show (if x.1≤t then !(if x.2≤t then !(parT (tog l) t) else parT (tog l) t) else (if x.2≤t then !(parT (tog l) t) else parT (tog l) t))=(inSp t x || memI l t)
    rw [ih]
    have h1:t≤x.2→memI l t=false:=fun hle=>by
      cases e:memI l t with
      | false=>rfl
      | true=>have:=memI_lo2 h e; omega
    have h2:inSp t x=decide (x.1≤t∧t<x.2):=by rw [Bool.eq_iff_iff,inSp_iff,decide_eq_true_eq]
    rw [h2]
    by_cases c1:x.1≤t
    · by_cases c2:x.2≤t
      · rw [if_pos c1,if_pos c2,decide_eq_false (by omega),Bool.not_not,Bool.false_or]
      · rw [if_pos c1,if_neg c2,decide_eq_true (by omega),h1 (by omega)]; rfl
    · rw [if_neg c1,if_neg (by omega),decide_eq_false (by omega),Bool.false_or]
def oddB (n:Nat):Bool:=decide (n % 2=1)
theorem oddB_succ (n:Nat):oddB (n+1) = !(oddB n):=by
  unfold oddB
  by_cases h:n % 2=1
  · rw [decide_eq_true h,decide_eq_false (by omega)]; rfl
  · rw [decide_eq_false h,decide_eq_true (by omega)]; rfl
theorem parT_snoc (t x:Int):∀ O:List Int,parT (O ++ [t]) x=if t≤x then !(parT O x) else parT O x
  | []=>by simp [parT]
  | o::O=>by
    have ih:=parT_snoc t x O
    show (if o≤x then !(parT (O ++ [t]) x) else parT (O ++ [t]) x)=if t≤x then !(if o≤x then !(parT O x) else parT O x) else (if o≤x then !(parT O x) else parT O x)
    rw [ih]
    split <;> split <;> rfl
theorem parT_all {x:Int}:∀ {O:List Int},(∀ o∈O,o≤x)→parT O x=oddB O.length
  | [],_=>rfl
  | o::O,h=>by
    show (if o≤x then !(parT O x) else parT O x)=oddB (O.length+1)
    rw [if_pos (h o (by simp)),parT_all (fun p hp=>h p (by simp [hp])),oddB_succ]
theorem parT_none {x:Int}:∀ {O:List Int},(∀ o∈O,x<o)→parT O x=false
  | [],_=>rfl
  | o::O,h=>by
    show (if o≤x then !(parT O x) else parT O x)=false
    have:=h o (by simp)
    rw [if_neg (by omega),parT_none (fun p hp=>h p (by simp [hp]))]
def mrg:List Int→Bool→List Int→Bool→List (Int × Bool × Bool)
  | [],_,[],_=>[]
  | a::A,p,[],q=>(a,!p,q)::mrg A (!p) [] q
  | [],p,b::B,q=>(b,p,!q)::mrg [] p B (!q)
  | a::A,p,b::B,q=>if a<b then (a,!p,q)::mrg A (!p) (b::B) q else if b<a then (b,p,!q)::mrg (a::A) p B (!q) else (a,!p,!q)::mrg A (!p) B (!q)
termination_by A _ B _=>A.length+B.length
def mcomb1 (f:Bool→Bool→Bool) (O:List Int) (e:Int × Bool × Bool):List Int:=if f e.2.1 e.2.2=oddB O.length then O else O ++ [e.1]
def mcomb (f:Bool→Bool→Bool) (S:List (Int × Bool × Bool)) (O:List Int):List Int:=S.foldl (mcomb1 f) O
theorem comb1_odd (f:Bool→Bool→Bool) (O:List Int) (e:Int × Bool × Bool):oddB (mcomb1 f O e).length=f e.2.1 e.2.2:=by
  unfold mcomb1
  split
  · rename_i h; exact h.symm
  · rename_i h
    rw [List.length_append,List.length_singleton,oddB_succ]
    cases h1:oddB O.length <;> cases h2:f e.2.1 e.2.2 <;> simp_all
structure Cm (f:Bool→Bool→Bool) (A:List Int) (p:Bool) (B:List Int) (q:Bool) (O O':List Int):Prop where
  asc:O'.Pairwise (· < ·)
  hi:∀ x,(∀ o∈O,o≤x)→parT O' x=f (p ^^ parT A x) (q ^^ parT B x)
  lo:∀ x,(∀ a∈A,x<a)→(∀ b∈B,x<b)→parT O' x=parT O x
  len:O'.length≤O.length+A.length+B.length
theorem Cm.step {f:Bool→Bool→Bool} {A A1:List Int} {p p1:Bool} {B B1:List Int} {q q1:Bool} {O O':List Int} {t:Int}
    (h:Cm f A1 p1 B1 q1 (mcomb1 f O (t,p1,q1)) O') (ho:oddB O.length=f p q) (hA:∀ a∈A,t≤a) (hB:∀ b∈B,t≤b) (hOt:∀ o∈O,o<t)
    (eA:∀ x,t≤x→(p1 ^^ parT A1 x)=(p ^^ parT A x)) (eB:∀ x,t≤x→(q1 ^^ parT B1 x)=(q ^^ parT B x)) (sA:∀ a∈A1,t<a) (sB:∀ b∈B1,t<b) (hl:A1.length+B1.length+1≤A.length+B.length) (hin:t∈A∨t∈B):Cm f A p B q O O':=by
  have hmem:∀ o∈mcomb1 f O (t,p1,q1),o≤t:=fun o ho=>by
    unfold mcomb1 at ho
    split at ho
    · have:=hOt o ho; omega
    · rcases List.mem_append.1 ho with h|h
      · have:=hOt o h; omega
      · have:=List.mem_singleton.1 h; omega
  have hpre:∀ x,x<t→parT (mcomb1 f O (t,p1,q1)) x=parT O x:=fun x hx=>by
    unfold mcomb1
    split
    · rfl
    · rw [parT_snoc,if_neg (by dsimp only; omega)]
  have hcl:(mcomb1 f O (t,p1,q1)).length≤O.length+1:=by
    unfold mcomb1
    split
    · omega
    · simp
  refine ⟨h.asc,fun x hx=>?_,fun x hx hy=>?_,by have:=h.len; omega⟩
  · by_cases ht:t≤x
    · rw [h.hi x (fun o ho=>Int.le_trans (hmem o ho) ht),eA x ht,eB x ht]
    · rw [h.lo x (fun a ha=>by have:=sA a ha; omega) (fun b hb=>by have:=sB b hb; omega),hpre x (by omega),parT_all hx,parT_none (fun a ha=>by have:=hA a ha; omega),parT_none (fun b hb=>by have:=hB b hb; omega),Bool.xor_false,Bool.xor_false,ho]
  · have ht:x<t:=by
      rcases hin with h|h
      · exact hx t h
      · exact hy t h
    rw [h.lo x (fun a ha=>by have:=sA a ha; omega) (fun b hb=>by have:=sB b hb; omega),hpre x ht]
theorem comb1_asc {f:Bool→Bool→Bool} {O:List Int} {e:Int × Bool × Bool} (h:O.Pairwise (· < ·)) (ho:∀ o∈O,o<e.1):(mcomb1 f O e).Pairwise (· < ·):=by
  unfold mcomb1
  split
  · exact h
  · rw [List.pairwise_append]
    exact ⟨h,List.pairwise_singleton _ _,fun a ha b hb=>by rw [List.mem_singleton.1 hb]; exact ho a ha⟩
theorem comb1_lt {f:Bool→Bool→Bool} {O:List Int} {e:Int × Bool × Bool} {S:List Int} (ho:∀ o∈O,∀ a∈S,o<a) (he:∀ a∈S,e.1<a):∀ o∈mcomb1 f O e,∀ a∈S,o<a:=fun o h a ha=>by
  unfold mcomb1 at h
  split at h
  · exact ho o h a ha
  · rcases List.mem_append.1 h with h|h
    · exact ho o h a ha
    · rw [List.mem_singleton.1 h]; exact he a ha
theorem comb_ok (f:Bool→Bool→Bool):∀ (n:Nat) (A:List Int) (p:Bool) (B:List Int) (q:Bool) (O:List Int),A.length+B.length≤n→A.Pairwise (· < ·)→B.Pairwise (· < ·)→O.Pairwise (· < ·)→(∀ o∈O,∀ a∈A,o<a)→(∀ o∈O,∀ b∈B,o<b)→oddB O.length=f p q→Cm f A p B q O (mcomb f (mrg A p B q) O):=by
  have flip:∀ (p z:Bool),(!p ^^ z)=(p ^^ !z):=by decide
  intro n
  induction n with
  | zero =>
    intro A p B q O hn _ _ hO _ _ ho
    obtain rfl:A=[]:=List.eq_nil_of_length_eq_zero (by omega)
    obtain rfl:B=[]:=List.eq_nil_of_length_eq_zero (by omega)
    unfold mrg
    exact ⟨hO,fun x hx=>by rw [show mcomb f [] O=O from rfl,parT_all hx,ho]; simp [parT],fun _ _ _=>rfl,by show O.length≤_; omega⟩
  | succ n ih =>
    intro A p B q O hn hA hB hO hOA hOB ho
    match A,B,hn,hA,hB,hOA,hOB with
    | [],[],_,_,_,_,_ =>
      unfold mrg
      exact ⟨hO,fun x hx=>by rw [show mcomb f [] O=O from rfl,parT_all hx,ho]; simp [parT],fun _ _ _=>rfl,by show O.length≤_; omega⟩
    | a::A,[],hn,hA,hB,hOA,hOB =>
      unfold mrg
      obtain ⟨a1,a2⟩:=List.pairwise_cons.1 hA
      refine Cm.step (t:=a) (ih A (!p) [] q (mcomb1 f O (a,!p,q)) (by simp at hn ⊢; omega) a2 hB (comb1_asc hO (fun o h=>hOA o h a (by simp))) (comb1_lt (fun o h x hx=>hOA o h x (by simp [hx])) a1) (fun _ _ _ h=>by simp at h) (comb1_odd f O _)) ho (fun x hx=>?_) (fun _ h=>by simp at h) (fun o h=>hOA o h a (by simp)) (fun x hx=>?_) (fun _ _=>rfl) a1 (fun _ h=>by simp at h) (by simp) (.inl (by simp))
      · rcases List.mem_cons.1 hx with rfl|hx
        · exact Int.le_refl _
        · exact Int.le_of_lt (a1 x hx)
      · show (!p ^^ parT A x)=(p ^^ if a≤x then !(parT A x) else parT A x)
        rw [if_pos hx,flip]
    | [],b::B,hn,hA,hB,hOA,hOB =>
      unfold mrg
      obtain ⟨b1,b2⟩:=List.pairwise_cons.1 hB
      refine Cm.step (t:=b) (ih [] p B (!q) (mcomb1 f O (b,p,!q)) (by simp at hn ⊢; omega) hA b2 (comb1_asc hO (fun o h=>hOB o h b (by simp))) (fun _ _ _ h=>by simp at h) (comb1_lt (fun o h x hx=>hOB o h x (by simp [hx])) b1) (comb1_odd f O _)) ho (fun _ h=>by simp at h) (fun x hx=>?_) (fun o h=>hOB o h b (by simp)) (fun _ _=>rfl) (fun x hx=>?_) (fun _ h=>by simp at h) b1 (by simp) (.inr (by simp))
      · rcases List.mem_cons.1 hx with rfl|hx
        · exact Int.le_refl _
        · exact Int.le_of_lt (b1 x hx)
      · show (!q ^^ parT B x)=(q ^^ if b≤x then !(parT B x) else parT B x)
        rw [if_pos hx,flip]
    | a::A,b::B,hn,hA,hB,hOA,hOB =>
      obtain ⟨a1,a2⟩:=List.pairwise_cons.1 hA
      obtain ⟨b1,b2⟩:=List.pairwise_cons.1 hB
      have la:∀ x∈a::A,a≤x:=fun x hx=>by
        rcases List.mem_cons.1 hx with rfl|hx
        · exact Int.le_refl _
        · exact Int.le_of_lt (a1 x hx)
      have lb:∀ x∈b::B,b≤x:=fun x hx=>by
        rcases List.mem_cons.1 hx with rfl|hx
        · exact Int.le_refl _
        · exact Int.le_of_lt (b1 x hx)
      unfold mrg
      split
      · rename_i hc
        refine Cm.step (t:=a) (ih A (!p) (b::B) q (mcomb1 f O (a,!p,q)) (by simp at hn ⊢; omega) a2 hB (comb1_asc hO (fun o h=>hOA o h a (by simp))) (comb1_lt (fun o h x hx=>hOA o h x (by simp [hx])) a1) (comb1_lt hOB (fun x hx=>by have:=lb x hx; dsimp only; omega)) (comb1_odd f O _)) ho la (fun x hx=>by have:=lb x hx; omega) (fun o h=>hOA o h a (by simp)) (fun x hx=>?_) (fun _ _=>rfl) a1 (fun x hx=>by have:=lb x hx; omega) (by simp only [List.length_cons]; omega) (.inl (by simp))
        show (!p ^^ parT A x)=(p ^^ if a≤x then !(parT A x) else parT A x)
        rw [if_pos hx,flip]
      · rename_i hc
        split
        · rename_i hc2
          refine Cm.step (t:=b) (ih (a::A) p B (!q) (mcomb1 f O (b,p,!q)) (by simp at hn ⊢; omega) hA b2 (comb1_asc hO (fun o h=>hOB o h b (by simp))) (comb1_lt hOA (fun x hx=>by have:=la x hx; dsimp only; omega)) (comb1_lt (fun o h x hx=>hOB o h x (by simp [hx])) b1) (comb1_odd f O _)) ho (fun x hx=>by have:=la x hx; omega) lb (fun o h=>hOB o h b (by simp)) (fun _ _=>rfl) (fun x hx=>?_) (fun x hx=>by have:=la x hx; omega) b1 (by simp only [List.length_cons]; omega) (.inr (by simp))
          show (!q ^^ parT B x)=(q ^^ if b≤x then !(parT B x) else parT B x)
          rw [if_pos hx,flip]
        · rename_i hc2
          have hab:a=b:=by omega
          subst hab
          refine Cm.step (t:=a) (ih A (!p) B (!q) (mcomb1 f O (a,!p,!q)) (by simp at hn ⊢; omega) a2 b2 (comb1_asc hO (fun o h=>hOA o h a (by simp))) (comb1_lt (fun o h x hx=>hOA o h x (by simp [hx])) a1) (comb1_lt (fun o h x hx=>hOB o h x (by simp [hx])) b1) (comb1_odd f O _)) ho la lb (fun o h=>hOA o h a (by simp)) (fun x hx=>?_) (fun x hx=>?_) a1 b1 (by simp only [List.length_cons]; omega) (.inl (by simp))
          · show (!p ^^ parT A x)=(p ^^ if a≤x then !(parT A x) else parT A x)
            rw [if_pos hx,flip]
          · show (!q ^^ parT B x)=(q ^^ if a≤x then !(parT B x) else parT B x)
            rw [if_pos hx,flip]
theorem tog_asc:∀ {l:Iv},NormI l→(tog l).Pairwise (· < ·)∧∀ lo,(∀ x∈l,lo<x.1)→∀ e∈tog l,lo<e
  | [],_=>⟨.nil,fun _ _ _ h=>by simp [tog] at h⟩
  | x::l,h=>by
    obtain ⟨h1,h2⟩:=tog_asc h.tail
    have e:tog (x::l)=x.1::x.2::tog l:=rfl
    have hx:=h.hd.1
    have h3:=h2 x.2 h.hd.2
    rw [e]
    refine ⟨List.pairwise_cons.2 ⟨fun a ha=>?_,List.pairwise_cons.2 ⟨h3,h1⟩⟩,fun lo hlo a ha=>?_⟩
    · rcases List.mem_cons.1 ha with rfl|ha
      · exact hx
      · have:=h3 a ha; omega
    · have:=hlo x (by simp)
      rcases List.mem_cons.1 ha with rfl|ha
      · exact this
      · rcases List.mem_cons.1 ha with rfl|ha
        · omega
        · have:=h3 a ha; omega
def spans:List Int→Iv
  | []=>[]
  | [a]=>[(a,0)]
  | a::b::E=>(a,b)::spans E
theorem spans_len:∀ E:List Int,(spans E).length=(E.length+1) / 2
  | []=>rfl
  | [_]=>by simp [spans]
  | a::b::E=>by
    have:=spans_len E
    simp only [spans,List.length_cons];omega
theorem spans_even (t:Int):∀ {E:List Int},oddB E.length=false→spans (E ++ [t])=spans E ++ [(t,0)]
  | [],_=>rfl
  | [_],h=>by simp [oddB] at h
  | a::b::E,h=>by
    have h':oddB E.length=false:=by
      simp only [List.length_cons,oddB_succ,Bool.not_not] at h;exact h
    show (a,b)::spans (E ++ [t])=_
    rw [spans_even t h']
    rfl
theorem spans_odd (t:Int):∀ {E:List Int},oddB E.length=true→∃ l a,spans E=l ++ [(a,0)]∧spans (E ++ [t])=l ++ [(a,t)]
  | [],h=>by simp [oddB] at h
  | [a],_=>⟨[],a,rfl,rfl⟩
  | a::b::E,h=>by
    have h':oddB E.length=true:=by
      simp only [List.length_cons,oddB_succ,Bool.not_not] at h;exact h
    obtain ⟨l,c,h1,h2⟩:=spans_odd t h'
    refine ⟨(a,b)::l,c,?_,?_⟩
    · show (a,b)::spans E=_
      rw [h1]; rfl
    · show (a,b)::spans (E ++ [t])=_
      rw [h2]; rfl
theorem spans_norm:∀ {E:List Int},oddB E.length=false→E.Pairwise (· < ·)→NormI (spans E)∧tog (spans E)=E
  | [],_,_=>⟨NormI.nil,rfl⟩
  | [_],h,_=>by simp [oddB] at h
  | a::b::E,h,hp=>by
    have h':oddB E.length=false:=by
      simp only [List.length_cons,oddB_succ,Bool.not_not] at h;exact h
    obtain ⟨p1,p2⟩:=List.pairwise_cons.1 hp
    obtain ⟨p3,p4⟩:=List.pairwise_cons.1 p2
    obtain ⟨h1,h2⟩:=spans_norm h' p4
    refine ⟨h1.cons (p1 b (by simp)) (fun y hy=>?_),?_⟩
    · have:y.1∈tog (spans E):=by
        unfold tog;rw [List.mem_flatMap]
        exact ⟨y,hy,by simp⟩
      rw [h2] at this;exact p3 _ this
    · show a::b::tog (spans E)=_
      rw [h2]
def combI (f:Bool→Bool→Bool) (a b:Iv):Iv:=spans (mcomb f (mrg (tog a) false (tog b) false) [])
theorem combI_ok {f:Bool→Bool→Bool} (hf:f false false=false) {a b:Iv} (ha:NormI a) (hb:NormI b):NormI (combI f a b)∧(∀ t,memI (combI f a b) t=f (memI a t) (memI b t))∧(combI f a b).length≤a.length+b.length:=by
  have h:=comb_ok f _ (tog a) false (tog b) false [] (Nat.le_refl _) (tog_asc ha).1 (tog_asc hb).1 .nil (fun _ h=>by simp at h) (fun _ h=>by simp at h) hf.symm
  have hx:∀ x,parT (mcomb f (mrg (tog a) false (tog b) false) []) x=f (memI a x) (memI b x):=fun x=>by
    rw [h.hi x (fun _ h=>by simp at h),parT_tog ha,parT_tog hb,Bool.false_xor,Bool.false_xor]
  have hlen:=h.len
  rw [tog_len,tog_len] at hlen
  have hodd:oddB (mcomb f (mrg (tog a) false (tog b) false) []).length=false:=by
    obtain ⟨B,hB⟩:∃ B:Int,(∀ e∈mcomb f (mrg (tog a) false (tog b) false) [],e≤B)∧(∀ x∈a,x.2≤B)∧(∀ x∈b,x.2≤B):=by
      have hi:∀ E:List Int,∃ B,∀ e∈E,e≤B:=fun E=>by
        induction E with
        | nil=>exact ⟨0,by simp⟩
        | cons e E ih =>
          obtain ⟨B,h⟩:=ih
          exact ⟨max B e, fun x hx => by rcases List.mem_cons.1 hx with rfl | hx; · omega
                                         · have:=h x hx; omega⟩
      obtain ⟨B1,h1⟩:=hi (mcomb f (mrg (tog a) false (tog b) false) [])
      obtain ⟨B2,h2⟩:=hi (a.map Prod.snd)
      obtain ⟨B3,h3⟩:=hi (b.map Prod.snd)
      refine ⟨max B1 (max B2 B3),fun e he=>?_,fun x hx=>?_,fun x hx=>?_⟩
      · have:=h1 e he; omega
      · have:=h2 x.2 (List.mem_map.2 ⟨x,hx,rfl⟩); omega
      · have:=h3 x.2 (List.mem_map.2 ⟨x,hx,rfl⟩); omega
    obtain ⟨h1,h2,h3⟩:=hB
    rw [← parT_all h1,hx]
    have n1:memI a B=false:=by
      cases e:memI a B with
      | false=>rfl
      | true=>obtain ⟨x,hx,_,h5⟩:=memI_iff.1 e; have:=h2 x hx; omega
    have n2:memI b B=false:=by
      cases e:memI b B with
      | false=>rfl
      | true=>obtain ⟨x,hx,_,h5⟩:=memI_iff.1 e; have:=h3 x hx; omega
    rw [n1,n2,hf]
  obtain ⟨h1,h2⟩:=spans_norm hodd h.asc
  refine ⟨h1,fun t=>?_,?_⟩
  · show memI (spans (mcomb f (mrg (tog a) false (tog b) false) [])) t=_
    rw [← parT_tog h1,h2,hx]
  · unfold combI
    rw [spans_len];simp only [List.length_nil] at hlen;omega
def unionI (a b:Iv):Iv:=combI (fun x y=>x || y) a b
end Go.Step
namespace Go.Step
def pcs:Nat→Int→Int→Iv
  | 0,_,_=>[]
  | f+1,a,b=>if a<b then (a,min b ((a / 16+1)*16))::pcs f (min b ((a / 16+1)*16)) b else []
def pcsAll (M:Iv):Iv:=M.flatMap fun x=>pcs (x.2-x.1).toNat x.1 x.2
def lenI (M:Iv):Int:=(M.map fun x=>x.2-x.1).sum
theorem pcs_next {a b:Int} (_h0:0≤a) (h:a<b):a<min b ((a / 16+1)*16)∧min b ((a / 16+1)*16)≤b∧min b ((a / 16+1)*16)-a≤16:=by omega
theorem pcs_ok:∀ (f:Nat) (a b:Int),0≤a→(b-a).toNat≤f →
    (∀ x∈pcs f a b,a≤x.1∧x.1<x.2∧x.2≤b∧x.2-x.1≤16)∧(∀ t,memI (pcs f a b) t=decide (a≤t∧t<b))∧lenI (pcs f a b)=max 0 (b-a)∧(pcs f a b).Pairwise (fun x y=>x.2≤y.1)
  | 0,a,b,h0,hf=>by
    refine ⟨by simp [pcs],fun t=>?_,?_,.nil⟩
    · rw [decide_eq_false (by omega)]; rfl
    · simp [pcs,lenI]; omega
  | f+1,a,b,h0,hf=>by
    by_cases h:a<b
    · obtain ⟨n1,n2,n3⟩:=pcs_next h0 h
      obtain ⟨i1,i2,i3,i4⟩:=pcs_ok f (min b ((a / 16+1)*16)) b (by omega) (by omega)
      generalize hm:min b ((a / 16+1)*16)=m at n1 n2 n3 i1 i2 i3 i4
      have e:pcs (f+1) a b=(a,m)::pcs f m b:=by simp only [pcs,if_pos h,hm]
      rw [e]
      refine ⟨fun x hx=>?_,fun t=>?_,?_,List.pairwise_cons.2 ⟨fun y hy=>(i1 y hy).1,i4⟩⟩
      · rcases List.mem_cons.1 hx with rfl|hx
        · exact ⟨by simp,n1,n2,n3⟩
        · obtain ⟨a1,a2,a3,a4⟩:=i1 x hx
          exact ⟨by omega,a2,a3,a4⟩
      · rw [memI_cons,i2]
        have:inSp t (a,m)=decide (a≤t∧t<m):=by
          rw [Bool.eq_iff_iff,inSp_iff,decide_eq_true_iff]
        rw [this,← Bool.decide_or,decide_eq_decide];omega
      · have:lenI ((a,m)::pcs f m b)=(m-a)+lenI (pcs f m b):=by simp [lenI]
        rw [this,i3]; omega
    · have e:pcs (f+1) a b=[]:=by simp only [pcs,if_neg h]
      rw [e]
      refine ⟨by simp,fun t=>?_,?_,.nil⟩
      · rw [decide_eq_false (by omega)]; rfl
      · simp [lenI]; omega
theorem lenI_append (a b:Iv):lenI (a ++ b)=lenI a+lenI b:=by simp [lenI]
theorem pcsAll_ok:∀ {M:Iv},NormI M→(∀ x∈M,0≤x.1) →
    (∀ x∈pcsAll M,∃ y∈M,y.1≤x.1∧x.1<x.2∧x.2≤y.2∧x.2-x.1≤16)∧(∀ t,memI (pcsAll M) t=memI M t)∧lenI (pcsAll M)=lenI M∧(pcsAll M).Pairwise (fun x y=>x.2≤y.1)
  | [],_,_=>⟨by simp [pcsAll],fun _=>rfl,rfl,.nil⟩
  | x::M,hn,h0=>by
    obtain ⟨i1,i2,i3,i4⟩:=pcsAll_ok hn.tail (fun y hy=>h0 y (by simp [hy]))
    obtain ⟨j1,j2,j3,j4⟩:=pcs_ok (x.2-x.1).toNat x.1 x.2 (h0 x (by simp)) (Nat.le_refl _)
    have e:pcsAll (x::M)=pcs (x.2-x.1).toNat x.1 x.2 ++ pcsAll M:=by simp [pcsAll]
    obtain ⟨g1,g2⟩:=hn.hd
    rw [e]
    refine ⟨fun y hy=>?_,fun t=>?_,?_,?_⟩
    · rcases List.mem_append.1 hy with hy|hy
      · exact ⟨x,by simp,j1 y hy⟩
      · obtain ⟨z,hz,h⟩:=i1 y hy
        exact ⟨z,by simp [hz],h⟩
    · rw [memI_append,i2,j2,memI_cons]
      congr 1
      rw [Bool.eq_iff_iff,inSp_iff,decide_eq_true_iff]
    · rw [lenI_append,i3,j3]
      have:lenI (x::M)=(x.2-x.1)+lenI M:=by simp [lenI]
      rw [this]; omega
    · refine List.pairwise_append.2 ⟨j4,i4,fun y hy z hz=>?_⟩
      obtain ⟨u,hu,h1,_⟩:=i1 z hz
      have:=g2 u hu
      have:=(j1 y hy).2.2.1
      omega
def maskD (d:List UInt8) (K:Iv):List UInt8:=(List.range d.length).map fun (i:Nat)=>if memI K (i:Int) then d.getD i 0 else 0
theorem maskD_len (d:List UInt8) (K:Iv):(maskD d K).length=d.length:=by simp [maskD]
theorem maskD_get (d:List UInt8) (K:Iv) (i:Nat):(maskD d K)[i]?=if i<d.length then some (if memI K (i:Int) then d.getD i 0 else 0) else none:=by
  unfold maskD;rw [List.getElem?_map]
  by_cases h:i<d.length
  · rw [if_pos h,List.getElem?_range h]; rfl
  · rw [if_neg h,List.getElem?_eq_none (by simpa using h)]; rfl
theorem maskD_nil (d:List UInt8):maskD d []=List.replicate d.length 0:=by
  apply List.ext_getElem?
  intro i
  rw [maskD_get]
  by_cases h:i<d.length
  · rw [if_pos h,List.getElem?_replicate,if_pos h]; rfl
  · rw [if_neg h,List.getElem?_replicate,if_neg h]
theorem maskD_all {d:List UInt8} {K:Iv} (h:∀ i:Nat,i<d.length→memI K (i:Int)=true):maskD d K=d:=by
  apply List.ext_getElem?
  intro i
  rw [maskD_get]
  by_cases hi:i<d.length
  · rw [if_pos hi,h i hi]
    simp [List.getD_eq_getElem?_getD,List.getElem?_eq_getElem hi]
  · rw [if_neg hi,List.getElem?_eq_none (by omega)]
theorem maskD_put {d:List UInt8} {K K':Iv} {a b:Nat} (hab:a≤b) (hb:b≤d.length) (hK:∀ t,memI K' t=(memI K t || decide ((a:Int)≤t∧t<(b:Int)))) :
    (maskD d K).take a ++ (d.drop a).take (b-a) ++ (maskD d K).drop b=maskD d K':=by
  apply List.ext_getElem?
  intro i
  rw [maskD_get]
  have hl:=maskD_len d K
  by_cases h1:i<a
  · rw [List.append_assoc,List.getElem?_append_left (by simp [hl]; omega),List.getElem?_take,if_pos h1,maskD_get,hK]
    rw [decide_eq_false (by omega),Bool.or_false]
  · by_cases h2:i<b
    · rw [List.getElem?_append_left (by simp [hl]; omega),List.getElem?_append_right (by simp [hl]; omega)]
      rw [List.length_take,hl,Nat.min_eq_left (by omega),List.getElem?_take,if_pos (by omega),List.getElem?_drop,if_pos (by omega),hK]
      rw [decide_eq_true (by omega),Bool.or_true,if_pos rfl]
      rw [show a+(i-a)=i from by omega]
      simp [List.getD_eq_getElem?_getD,List.getElem?_eq_getElem (show i<d.length by omega)]
    · rw [List.getElem?_append_right (by simp [hl]; omega)]
      rw [List.length_append,List.length_take,List.length_take,List.length_drop,hl,Nat.min_eq_left (by omega),Nat.min_eq_left (by omega),List.getElem?_drop,maskD_get]
      rw [show b+(i-(a+(b-a)))=i from by omega,hK]
      rw [decide_eq_false (by omega),Bool.or_false]
def InI (n:Int) (K:Iv):Prop:=NormI K∧∀ t,memI K t=true→0≤t∧t<n
theorem InI.nil (n:Int):InI n []:=⟨NormI.nil,fun t h=>by cases h⟩
theorem InI.at {n:Int} {K:Iv} (h:InI n K):∀ x∈K,0≤x.1∧x.1<x.2∧x.2≤n:=fun x hx=>by
  have h0:=h.1.1 x hx
  have h1:=h.2 x.1 (memI_iff.2 ⟨x,hx,by omega,h0⟩)
  have h2:=h.2 (x.2-1) (memI_iff.2 ⟨x,hx,by omega,by omega⟩)
  exact ⟨h1.1,h0,by omega⟩
theorem norm_len:∀ {K:Iv} {lo hi:Int},NormI K→lo≤hi+1→(∀ x∈K,lo≤x.1∧x.2≤hi)→2*(K.length:Int)≤hi-lo+1
  | [],lo,hi,_,h,_=>by simp; omega
  | x::K,lo,hi,hn,h,hk=>by
    have h1:=hk x (by simp)
    obtain ⟨g1,g2⟩:=hn.hd
    have:=norm_len (lo:=x.2+1) (hi:=hi) hn.tail (by omega) (fun y hy=>⟨by have:=g2 y hy; omega,(hk y (by simp [hy])).2⟩)
    simp only [List.length_cons,Int.natCast_add];omega
theorem InI.len {n:Int} {K:Iv} (h:InI n K) (hn:0≤n):2*(K.length:Int)≤n+1:=by
  have:=norm_len (lo:=0) (hi:=n) h.1 (by omega) (fun x hx=>by have:=h.at x hx; omega)
  omega
theorem InI.whole {n:Int} (hn:0<n):InI n [(0,n)]:=
  ⟨⟨by simp; exact hn,List.pairwise_singleton _ _⟩,fun t h=>by obtain ⟨x,hx,h1,h2⟩:=memI_iff.1 h; simp at hx; subst hx; exact ⟨h1,h2⟩⟩
theorem mem_one (a b t:Int):memI [(a,b)] t=decide (a≤t∧t<b):=by
  rw [Bool.eq_iff_iff,memI_iff,decide_eq_true_iff]; simp
theorem InI.all {n:Int} {K:Iv} (h:InI n K) (hn:0<n) (ha:∀ t,0≤t→t<n→memI K t=true):K=[(0,n)]:=
  normI_ext h.1 (InI.whole hn).1 (fun t=>by
    rw [mem_one]
    by_cases ht:0≤t∧t<n
    · rw [decide_eq_true ht,ha t ht.1 ht.2]
    · rw [decide_eq_false ht]
      cases hk:memI K t with
      | false=>rfl
      | true=>exact absurd (h.2 t hk) ht)
theorem InI.put {n:Int} {K:Iv} (h:InI n K) {a b:Int} (h0:0≤a) (hab:a<b) (hb:b≤n) :
    InI n (unionI K [(a,b)])∧(∀ t,memI (unionI K [(a,b)]) t=(memI K t || decide (a≤t∧t<b)))∧unionI K [(a,b)]≠[]:=by
  have h1:NormI [(a,b)]:=⟨by simp; exact hab,List.pairwise_singleton _ _⟩
  obtain ⟨k1,k2,_⟩:=combI_ok (f:=fun x y=>x || y) rfl h.1 h1
  have k3:∀ t,memI (unionI K [(a,b)]) t=(memI K t || decide (a≤t∧t<b)):=fun t=>by
    show memI (combI _ _ _) t=_
    rw [k2,mem_one]
  refine ⟨⟨k1,fun t ht=>?_⟩,k3,fun e=>?_⟩
  · rw [k3] at ht
    cases hk:memI K t with
    | true=>exact h.2 t hk
    | false =>
      rw [hk,Bool.false_or,decide_eq_true_iff] at ht;omega
  · have:=k3 a
    rw [e,decide_eq_true (by omega),Bool.or_true] at this
    cases this
def missI (n:Int) (K:Iv):Iv:=combI (fun x y=>x && !y) [(0,n)] K
theorem missI_ok {n:Int} {K:Iv} (h:InI n K) (hn:0<n):InI n (missI n K)∧∀ t,memI (missI n K) t=(decide (0≤t∧t<n) && !memI K t):=by
  obtain ⟨k1,k2,_⟩:=combI_ok (f:=fun x y=>x && !y) rfl (InI.whole hn).1 h.1
  have k3:∀ t,memI (missI n K) t=(decide (0≤t∧t<n) && !memI K t):=fun t=>by
    show memI (combI _ _ _) t=_
    rw [k2,mem_one]
  exact ⟨⟨k1,fun t ht=>by
    rw [k3,Bool.and_eq_true,decide_eq_true_iff] at ht
    exact ht.1⟩,k3⟩
theorem missI_none {n:Int} {K:Iv} (h:InI n K) (hn:0<n) (he:missI n K=[]):K=[(0,n)]:=
  h.all hn (fun t h1 h2=>by
    have:=(missI_ok h hn).2 t
    rw [he,decide_eq_true ⟨h1,h2⟩,Bool.true_and] at this
    cases hk:memI K t with
    | true=>rfl
    | false=>rw [hk] at this; cases this)
def hearAll (K:Iv) (P:Iv):Iv:=P.foldl (fun k x=>unionI k [x]) K
theorem hearAll_ok {n:Int}:∀ {P K:Iv},InI n K→(∀ x∈P,0≤x.1∧x.1<x.2∧x.2≤n)→InI n (hearAll K P)∧∀ t,memI (hearAll K P) t=(memI K t || memI P t)
  | [],K,h,_=>⟨h,fun t=>by show memI K t=_; simp [memI]⟩
  | x::P,K,h,hP=>by
    obtain ⟨h1,h2,h3⟩:=hP x (by simp)
    obtain ⟨k1,k2,_⟩:=h.put h1 h2 h3
    obtain ⟨i1,i2⟩:=hearAll_ok (P:=P) k1 (fun y hy=>hP y (by simp [hy]))
    refine ⟨i1,fun t=>?_⟩
    show memI (hearAll (unionI K [x]) P) t=_
    rw [i2,k2,memI_cons,Bool.or_assoc]
    congr 2
    rw [Bool.eq_iff_iff,inSp_iff,decide_eq_true_iff]
theorem InI.chk {n:Int} {K:Iv} (h:InI n K) (h0:0≤n) (hn:n≤1999):chkI K=0:=by
  have hl:=h.len h0
  refine chkI_of (by omega) h.1 (fun x hx=>?_)
  have:=h.at x hx
  exact ⟨this.2.1,by omega,by omega⟩
theorem maskD_piece {d:List UInt8} {K:Iv} {x y:Nat} (hxy:x≤y) (hy:y≤d.length) (hm:∀ t:Int,(x:Int)≤t→t<(y:Int)→memI K t=true):((maskD d K).drop x).take (y-x)=(d.drop x).take (y-x):=by
  apply List.ext_getElem?
  intro i
  rw [List.getElem?_take,List.getElem?_take]
  by_cases h:i<y-x
  · rw [if_pos h,if_pos h,List.getElem?_drop,List.getElem?_drop,maskD_get,if_pos (by omega),hm _ (by omega) (by omega),if_pos rfl]
    simp [List.getD_eq_getElem?_getD,List.getElem?_eq_getElem (show x+i<d.length by omega)]
  · rw [if_neg h,if_neg h]
theorem maskD_gap {d:List UInt8} {K:Iv} {x y:Nat} (_hxy:x≤y) (hy:y≤d.length) (hm:∀ t:Int,(x:Int)≤t→t<(y:Int)→memI K t=false):((maskD d K).drop x).take (y-x)=List.replicate (y-x) 0:=by
  apply List.ext_getElem?
  intro i
  rw [List.getElem?_take,List.getElem?_replicate]
  by_cases h:i<y-x
  · rw [if_pos h,if_pos h,List.getElem?_drop,maskD_get,if_pos (by omega),hm _ (by omega) (by omega)]
    rfl
  · rw [if_neg h,if_neg h]
theorem gap_mem {K:Iv} (h:NormI K) {i:Nat} {x:Int × Int} (hx:K[i]?=some x):(∀ t,(∀ y∈K.take i,y.2≤t)→t<x.1→memI K t=false):=by
  intro t h1 h2
  cases hk:memI K t with
  | false=>rfl
  | true =>
    obtain ⟨y,hy,a1,a2⟩:=memI_iff.1 hk
    obtain ⟨j,hj,e⟩:=List.mem_iff_getElem.1 hy
    obtain ⟨hi,e2⟩:=List.getElem?_eq_some_iff.1 hx
    rcases Nat.lt_or_ge j i with hji|hji
    · have:y∈K.take i:=by
        rw [List.mem_iff_getElem]
        exact ⟨j,by simp; omega,by simpa using e⟩
      have:=h1 y this
      omega
    · rcases Nat.eq_or_lt_of_le hji with rfl|hlt
      · rw [e] at e2; subst e2; omega
      · have:=List.pairwise_iff_getElem.1 h.2 i j hi hj hlt
        rw [e2,e] at this
        have:=h.1 x (by rw [← e2]; exact List.getElem_mem hi)
        omega
end Go.Step
namespace Go.Step
def segT (rate len:Int):Int:=(len+8+rate-1) / rate
theorem segT_pos {rate len:Int} (hr:1≤rate) (hl:1≤len):1≤segT rate len:=by
  unfold segT
  exact (Int.le_ediv_iff_mul_le (by omega)).2 (by omega)
theorem segT_le {rate len:Int} (hr:1≤rate) (hl:1≤len):segT rate len≤len+8:=by
  unfold segT
  have h1:(len+8+rate-1) / rate<len+8+1:=by
    refine (Int.ediv_lt_iff_lt_mul (by omega)).2 ?_
    have h2:(len+8)*1≤(len+8)*rate:=Int.mul_le_mul_of_nonneg_left hr (by omega)
    have h3:(len+8+1)*rate=(len+8)*rate+rate:=by rw [Int.add_mul,Int.one_mul]
    have h4:(len+7)*1≤(len+7)*rate:=Int.mul_le_mul_of_nonneg_left hr (by omega)
    have h5:(len+8)*rate=(len+7)*rate+rate:=by
      rw [show len+8=(len+7)+1 from by omega,Int.add_mul,Int.one_mul]
    omega
  omega
theorem pcsAll_ne {M:Iv} (hn:NormI M) (h0:∀ x∈M,0≤x.1) (hm:M≠[]):pcsAll M≠[]:=fun e=>by
  cases M with
  | nil=>exact hm rfl
  | cons x M =>
    have:=(pcsAll_ok hn h0).2.1 x.1
    rw [e,memI_first (hn.1 x (by simp))] at this
    cases this
theorem pcsAll_len {M:Iv} {n:Int} (hM:InI n M) (hn:0≤n):((pcsAll M).length:Int)≤n:=by
  obtain ⟨p1,p2,p3,p4⟩:=pcsAll_ok hM.1 (fun x hx=>(hM.at x hx).1)
  have key:∀ {P:Iv} {lo:Int},P.Pairwise (fun x y=>x.2≤y.1)→(∀ x∈P,lo≤x.1∧x.1<x.2∧x.2≤n)→lo≤n→(P.length:Int)≤n-lo:=by
    intro P
    induction P with
    | nil=>intro lo _ _ h; simp; omega
    | cons x P ih =>
      intro lo hp hb hlo
      obtain ⟨a1,a2⟩:=List.pairwise_cons.1 hp
      have hx:=hb x (by simp)
      have:=ih (lo:=x.2) a2 (fun y hy=>⟨a1 y hy,(hb y (by simp [hy])).2⟩) (by omega)
      simp only [List.length_cons,Int.natCast_add];omega
  have:=key (lo:=0) p4 (fun x hx=>by
    obtain ⟨y,hy,g1,g2,g3,_⟩:=p1 x hx
    have:=hM.at y hy
    omega) hn
  omega
end Go.Step
namespace Go.Eng
variable {C:Cx} {R H:List PH} {L:Env} {dst:Option Tmp} {ty:TypeId} {pos:String} {aft:Array Edge} {g:Option (Nat × Bool)}
abbrev str (l:List UInt8):Value:=.string ⟨⟨l⟩⟩
theorem str_size (l:List UInt8):(⟨⟨l⟩⟩:ByteArray).size=l.length:=rfl
theorem str_extract (l:List UInt8) (i j:Nat):(⟨⟨l⟩⟩:ByteArray).extract i j=⟨⟨(l.drop i).take (j-i)⟩⟩:=by
  apply ByteArray.ext
  rw [ByteArray.data_extract]
  apply Array.ext'
  simp
theorem B4 {x:Operand} {t:TypeId} {l:List UInt8} (h:evalE L x=some (str l)) (ht:C.P.underlying t=some .string):Quiet C R H L ⟨dst,.call ⟨.builtin .len,#[x],#[t]⟩,ty,pos,aft,g⟩ (.int .i64 (l.length:Int)):=
  ⟨by intro c; simp,fun a w hx _=>by
    have e:=hx x (by simp [Op.operands,Call.operands]) _ h
    simp [execOp,resolve,e,invoke,builtin,Builtin.len_,run_underlying ht,goInt]
    rfl⟩
theorem EO {x y z:Operand} {t:TypeId} {l:List UInt8} {k k':IntKind} {i j:Nat} (h:evalE L x=some (str l)) (hy:evalE L y=some (.int k (i:Int))) (hz:evalE L z=some (.int k' (j:Int))) (ht:C.P.underlying t=some .string) (hij:i≤j) (hj:j≤l.length) :
    Quiet C R H L ⟨dst,.slice t x (some y) (some z) none,ty,pos,aft,g⟩ (str ((l.drop i).take (j-i))):=
  ⟨by intro c; simp,fun a w hx _=>by
    have e:=hx x (by simp [Op.operands]) _ h
    have e2:=hx y (by simp [Op.operands]) _ hy
    have e3:=hx z (by simp [Op.operands]) _ hz
    have hr:=run_slice_string (P:=C.P) w t ⟨⟨l⟩⟩ k k' (i:Int) (j:Int) ht (by omega) (by omega) (by rw [str_size]; omega)
    rw [str_extract] at hr
    simp [execOp,e,e2,e3,run_sliceAt_string w t _ _ _ _ ht,hr]⟩
theorem q_cutH {x z:Operand} {t:TypeId} {l:List UInt8} {k:IntKind} {j:Nat} (h:evalE L x=some (str l)) (hz:evalE L z=some (.int k (j:Int))) (ht:C.P.underlying t=some .string) (hj:j≤l.length) :
    Quiet C R H L ⟨dst,.slice t x none (some z) none,ty,pos,aft,g⟩ (str (l.take j)):=
  ⟨by intro c; simp,fun a w hx _=>by
    have e:=hx x (by simp [Op.operands]) _ h
    have e3:=hx z (by simp [Op.operands]) _ hz
    have hr:=run_slice_string_h (P:=C.P) w t ⟨⟨l⟩⟩ ht k (j:Int) (by omega) (by rw [str_size]; omega)
    rw [str_extract] at hr
    simp [execOp,e,e3,run_sliceAt_string w t _ _ _ _ ht,hr]⟩
theorem q_idxS {x y:Operand} {t:TypeId} {l:List UInt8} {k:IntKind} {i:Nat} {b:UInt8} (h:evalE L x=some (str l)) (hy:evalE L y=some (.int k (i:Int))) (ht:C.P.underlying t=some .string) (hb:l[i]?=some b) :
    Quiet C R H L ⟨dst,.index t x y,ty,pos,aft,g⟩ (.int .u8 (b.toNat:Int)):=
  ⟨by intro c; simp,fun a w hx _=>by
    have e:=hx x (by simp [Op.operands]) _ h
    have e2:=hx y (by simp [Op.operands]) _ hy
    obtain ⟨hi,hb⟩:=List.getElem?_eq_some_iff.1 hb
    have hr:=run_index_string (P:=C.P) w t ⟨⟨l⟩⟩ k (i:Int) ht
    rw [dif_pos ⟨by omega,by rw [str_size]; omega⟩] at hr
    have hb2:(⟨⟨l⟩⟩:ByteArray)[(i:Int).toNat]'(by rw [str_size]; omega)=b:=hb
    rw [hb2] at hr
    simp [execOp,e,e2,hr]⟩
theorem EF {x y:Operand} {t:TypeId} {l:List UInt8} {k:IntKind} {i:Nat} (h:evalE L x=some (str l)) (hy:evalE L y=some (.int k (i:Int))) (ht:C.P.underlying t=some .string) (hb:l[i]?=some 0) :
    Quiet C R H L ⟨dst,.index t x y,ty,pos,aft,g⟩ (.int .u8 0):=q_idxS h hy ht hb
theorem EU {x y:Operand} {xT yT:TypeId} {l m:List UInt8} (h:evalE L x=some (str l)) (h2:evalE L y=some (str m)):Quiet C R H L ⟨dst,.binOp .eql xT x y yT,ty,pos,aft,g⟩ (.bool (l == m)):=
  ⟨by intro c; simp,fun a w hxx _=>by
    have e1:=hxx x (by simp [Op.operands]) _ h
    have e2:=hxx y (by simp [Op.operands]) _ h2
    simp [execOp,e1,e2,eqGuard,binOp,Op.stringOp]⟩
theorem GU {x y:Operand} {xT yT:TypeId} {l m:List UInt8} (h:evalE L x=some (str l)) (h2:evalE L y=some (str m)):Quiet C R H L ⟨dst,.binOp .neq xT x y yT,ty,pos,aft,g⟩ (.bool (!(l == m))):=
  ⟨by intro c; simp,fun a w hxx _=>by
    have e1:=hxx x (by simp [Op.operands]) _ h
    have e2:=hxx y (by simp [Op.operands]) _ h2
    simp [execOp,e1,e2,eqGuard,binOp,Op.stringOp]⟩
def rowS (l:List UInt8):List Value:=l.map fun b=>.int .u8 (b.toNat:Int)
theorem rowS_len (l:List UInt8):(rowS l).length=l.length:=by simp [rowS]
theorem ones_rowS (l:List UInt8):∀ u∈rowS l,u.oneCell'=true:=by
  intro u hu
  simp only [rowS,List.mem_map] at hu
  obtain ⟨b,_,rfl⟩:=hu
  rfl
theorem rowS_append (l m:List UInt8):rowS (l ++ m)=rowS l ++ rowS m:=by simp [rowS]
theorem rowS_take (l:List UInt8) (n:Nat):(rowS l).take n=rowS (l.take n):=by simp [rowS,List.map_take]
theorem rowS_drop (l:List UInt8) (n:Nat):(rowS l).drop n=rowS (l.drop n):=by simp [rowS,List.map_drop]
theorem FW {x y:Operand} {t t2 e:TypeId} {b o dl dc:Nat} {l:List UInt8} {cur:Array Value} {H':List PH}
    (hx:evalE L x=some (.slice (some ⟨b,o,none⟩) dl dc)) (hy:evalE L y=some (str l)) (ht:elemP C.P t=some e) (hs:szP C.P e=some 1)
    (htk:Take (sng b (.cells cur e (0,0))) H H') (hfit:o+Nat.min l.length dl≤cur.size) :
    Loud C R H L ⟨dst,.call ⟨.builtin .copy,#[x,y],#[t,t2]⟩,ty,pos,aft,g⟩ (fun u H2=>u=.int .i64 ((Nat.min l.length dl:Nat):Int)∧H2=sng b (.cells (cur.toList.take o ++ rowS (l.take (Nat.min l.length dl)) ++ cur.toList.drop (o+Nat.min l.length dl)).toArray e (0,0))::H'):=by
  refine ⟨fun a w hxx hsat next Q hnx=>?_⟩
  obtain ⟨ti,hi,hsz⟩:∃ i,C.P.info? e=some i∧i.size=1:=by
    unfold szP at hs
    cases hi:C.P.info? e with
    | none=>simp [hi] at hs
    | some i=>simp only [hi,Option.some.injEq] at hs; exact ⟨i,rfl,hs⟩
  have htu:=und_elem ht
  have e1:=hxx x (by simp [Op.operands,Call.operands]) _ hx
  have e2:=hxx y (by simp [Op.operands,Call.operands]) _ hy
  have hg:w.heap[b]?=some (.cells cur e (0,0)):=hsat.own htk
  obtain ⟨n,hn⟩:∃ n,Nat.min l.length dl=n:=⟨_,rfl⟩
  have hnl:n≤l.length:=by rw [← hn]; exact Nat.min_le_left _ _
  have hf:(Builtin.firstCells ti.size n (str l)).run C.P w=.ok (rowS (l.take n)).toArray w:=by
    simp only [Builtin.firstCells];rw [str_extract]
    simp [rowS]
  rw [hn] at hfit hnx
  have hlen:(rowS (l.take n)).length=n:=by rw [rowS_len,List.length_take]; omega
  have hst:=run_storeCells_at C.P b o e (rowS (l.take n)) 0 cur w hg (by rw [hlen]; simpa using hfit) (ones_rowS _)
  rw [hlen] at hst
  have hr:(Builtin.copy_ #[t,t2] ty #[.slice (some ⟨b,o,none⟩) dl dc,str l]).run C.P w=.ok (.int .i64 (n:Int)) (w.setRow b (cur.toList.take o ++ rowS (l.take n) ++ cur.toList.drop (o+n)).toArray):=by
    have hlo:(⟨⟨l⟩⟩:ByteArray).size=l.length:=rfl
    simp only [Builtin.copy_]
    simp [run_underlying htu,Builtin.lenOf,sizeOf,typeInfo,hi,goInt,hlo]
    rw [hn,hf]
    simpa using congrArg (fun r=>r.andThen fun _ w'=>Result.ok (Value.int .i64 (n:Int)) w') hst
  generalize hnew:(cur.toList.take o ++ rowS (l.take n) ++ cur.toList.drop (o+n)).toArray=new at hr hnx
  have hexec:(execOp a.eval ⟨dst,.call ⟨.builtin .copy,#[x,y],#[t,t2]⟩,ty,pos,aft,g⟩).run C.P w=.ok (.value (.int .i64 (n:Int))) (w.setRow b new):=by
    simp [execOp,resolve,e1,e2,invoke,builtin,hr]
  refine wpIn_value (by intro c; simp) hexec (hnx _ _ _ ⟨rfl,rfl⟩ (hsat.turn htk ?_ (setRow_heap w b cur _ e _ hg) (fun k hk=>setRow_other w b k _ hk)))
  simp
theorem foldl_push (l:List UInt8):∀ r:ByteArray,(l.map fun b=>(b.toNat:Int)).foldl (fun r n=>r.push (UInt8.ofNat n.toNat)) r=⟨⟨r.data.toList ++ l⟩⟩:=by
  induction l with
  | nil=>intro r; simp
  | cons b l ih=>intro r; rw [List.map_cons,List.foldl_cons,ih]; simp [ByteArray.push]
theorem q_b2s {sT dT e:TypeId} {x:Operand} {b o c:Nat} {l:List UInt8} (hx:evalE L x=some (.slice (some ⟨b,o,none⟩) l.length c)) (hc:Cells C.N R H b o (rowS l)) (h1:C.P.underlying sT=some (.slice e)) (h2:C.P.underlying e=some (.int .u8)) (h3:C.P.underlying dT=some .string) :
    Quiet C R H L ⟨dst,.convert sT dT x,ty,pos,aft,g⟩ (str l):=
  ⟨by intro c; simp,fun a w hxx hsat=>by
    have e1:=hxx x (by simp [Op.operands]) _ hx
    have hl:=run_loadCells_list (P:=C.P) (w:=w) ⟨b,o,none⟩ (rowS l) (fun j v hv=>by rw [Addr.add_lit]; exact hc w hsat j v hv)
    rw [rowS_len] at hl
    have hrow:(rowS l).toArray=((l.map fun b=>(b.toNat:Int)).map (Value.int .u8)).toArray:=by simp [rowS]
    rw [hrow] at hl;simp only [execOp,e1]
    have hb:=run_bytesToString (P:=C.P) w ⟨b,o,none⟩ l.length c _ hl
    rw [foldl_push] at hb
    simp [run_convert_bytes_string w sT dT e _ l.length c h1 h2 h3,hb]⟩
end Go.Eng
namespace Go.Step
open Go.Eng
structure Sg where
  a:Nat
  b:Nat
  sr:Int
def cutD (d:List UInt8) (a b:Nat):List UInt8:=(d.drop a).take (b-a)
theorem cutD_len {d:List UInt8} {a b:Nat} (_h:a≤b) (hb:b≤d.length):(cutD d a b).length=b-a:=by
  unfold cutD; rw [List.length_take,List.length_drop]; omega
def encG (se:Int) (d:List UInt8) (x:Sg):List Value:=[int 1,int se,int x.sr,int (x.a:Int),int (d.length:Int),.bool (decide (1≤x.sr)),str (cutD d x.a x.b),.slice none 0 0]
theorem encG_len (se:Int) (d:List UInt8) (x:Sg):(encG se d x).length=8:=rfl
theorem encG_ones (se:Int) (d:List UInt8) (x:Sg):∀ v∈encG se d x,v.oneCell'=true:=by
  intro v hv
  simp only [encG,List.mem_cons,List.not_mem_nil,or_false] at hv
  rcases hv with rfl|rfl|rfl|rfl|rfl|rfl|rfl|rfl <;> rfl
def encO (se:Int) (d:List UInt8) (x:Int × Sg):List Value:=int x.1::encG se d x.2
theorem encO_len (se:Int) (d:List UInt8) (x:Int × Sg):(encO se d x).length=9:=rfl
theorem encO_ones (se:Int) (d:List UInt8) (x:Int × Sg):∀ v∈encO se d x,v.oneCell'=true:=by
  intro v hv
  rcases List.mem_cons.1 hv with rfl|hv
  · rfl
  · exact encG_ones se d x.2 v hv
def okG (n:Nat) (x:Sg):Prop:=x.a<x.b∧x.b≤n∧x.b-x.a≤16∧0≤x.sr∧x.sr≤1099511627776
def bat (sr:Int) (P:Iv):List Sg:=P.mapIdx fun i x=>⟨x.1.toNat,x.2.toNat,if i+1=P.length then sr else 0⟩
def sg0 (x:Int × Int):Sg:=⟨x.1.toNat,x.2.toNat,0⟩
theorem bat_len (sr:Int) (P:Iv):(bat sr P).length=P.length:=by simp [bat]
theorem bat_get (sr:Int) (P:Iv) (i:Nat):(bat sr P)[i]?=(P[i]?).map (fun x=>(⟨x.1.toNat,x.2.toNat,if i+1=P.length then sr else 0⟩:Sg)):=by
  simp [bat]
def timed (rate:Int):Int→List Sg→List (Int × Sg)
  | _,[]=>[]
  | t,x::G=>(t+segT rate (((x.b-x.a:Nat):Int)),x)::timed rate (t+segT rate (((x.b-x.a:Nat):Int))) G
def endG (rate:Int):Int→List Sg→Int
  | t,[]=>t
  | t,x::G=>endG rate (t+segT rate (((x.b-x.a:Nat):Int))) G
theorem timed_len (rate:Int):∀ (G:List Sg) (t:Int),(timed rate t G).length=G.length
  | [],_=>rfl
  | x::G,t=>by simp [timed,timed_len rate G]
theorem endG_append (rate:Int):∀ (G E:List Sg) (t:Int),endG rate t (G ++ E)=endG rate (endG rate t G) E
  | [],_,_=>rfl
  | x::G,E,t=>endG_append rate G E _
theorem timed_get (rate:Int):∀ (G:List Sg) (t:Int) (i:Nat) (x:Sg),G[i]?=some x→(timed rate t G)[i]?=some (endG rate t (G.take (i+1)),x)
  | [],_,_,_,h=>by simp at h
  | y::G,t,0,x,h=>by simp at h; subst h; simp [timed,endG]
  | y::G,t,i+1,x,h=>by
    have:=timed_get rate G (t+segT rate (((y.b-y.a:Nat):Int))) i x (by simpa using h)
    simpa [timed,endG] using this
theorem endG_succ (rate:Int) {G:List Sg} {t:Int} {i:Nat} {x:Sg} (h:G[i]?=some x):endG rate t (G.take (i+1))=endG rate t (G.take i)+segT rate (((x.b-x.a:Nat):Int)):=by
  rw [List.take_add_one,h,endG_append]; rfl
theorem endG_le {rate:Int} {n:Nat} (hr:1≤rate):∀ {G:List Sg} {t:Int},(∀ x∈G,okG n x)→t+G.length≤endG rate t G∧endG rate t G≤t+24*G.length
  | [],t,_=>by simp [endG]
  | x::G,t,h=>by
    obtain ⟨h1,h2,h3,_⟩:=h x (by simp)
    have g1:=segT_pos hr (len:=((x.b-x.a:Nat):Int)) (by omega)
    have g2:=segT_le hr (len:=((x.b-x.a:Nat):Int)) (by omega)
    have:=endG_le hr (G:=G) (t:=t+segT rate (((x.b-x.a:Nat):Int))) (fun y hy=>h y (by simp [hy]))
    simp only [endG,List.length_cons,Int.natCast_add];omega
theorem bat_ok {M:Iv} {n:Nat} (hM:InI n M) {sr:Int} (h0:0≤sr) (h1:sr≤1099511627776):∀ x∈bat sr (pcsAll M),okG n x:=by
  intro x hx
  obtain ⟨i,hi⟩:=List.mem_iff_getElem?.1 hx
  rw [bat_get] at hi
  obtain ⟨y,hy,rfl⟩:=Option.map_eq_some_iff.1 hi
  obtain ⟨p1,_⟩:=pcsAll_ok hM.1 (fun x hx=>(hM.at x hx).1)
  obtain ⟨z,hz,g1,g2,g3,g4⟩:=p1 y (List.mem_of_getElem? hy)
  have:=hM.at z hz
  refine ⟨by dsimp only; omega,by dsimp only; omega,by dsimp only; omega,?_,?_⟩
  · dsimp only; split <;> omega
  · dsimp only; split <;> omega
def totR (d:List UInt8) (K:Iv):Int:=if K=[] then -1 else (d.length:Int)
def datR (d:List UInt8) (K:Iv):List UInt8:=if K=[] then [] else maskD d K
def encRp (se sr:Int) (n:Nat) (c:Value):List Value:=[int 2,int se,int sr,int 0,int (n:Int),.bool false,str [],c]
def encH (se:Int) (d:List UInt8) (x:Sg × Bool):List Value:=[int 1,int se,int x.1.sr,int (x.1.a:Int),int (d.length:Int),.bool x.2,str (cutD d x.1.a x.1.b),.slice none 0 0]
theorem encH_len (se:Int) (d:List UInt8) (x:Sg × Bool):(encH se d x).length=8:=rfl
theorem bat_enc {se sr:Int} {d:List UInt8} {P:Iv} {x:Int × Int} (hs:1≤sr) (hx:P[P.length-1]?=some x) :
    ((P.map fun y=>(sg0 y,false)).set (P.length-1) (⟨x.1.toNat,x.2.toNat,sr⟩,true)).flatMap (encH se d)=(bat sr P).flatMap (encG se d):=by
  have e:(P.map fun y=>(sg0 y,false)).set (P.length-1) ((⟨x.1.toNat,x.2.toNat,sr⟩:Sg),true)=(bat sr P).map (fun z=>(z,decide (1≤z.sr))):=by
    apply List.ext_getElem?
    intro i
    have hl:=(List.getElem?_eq_some_iff.1 hx).1
    rw [List.getElem?_set,List.getElem?_map (l:=bat sr P),bat_get,List.length_map]
    by_cases h:P.length-1=i
    · subst h
      rw [if_pos rfl,if_pos hl,hx]
      have e1:P.length-1+1=P.length:=by omega
      simp [e1,hs]
    · rw [if_neg h,List.getElem?_map]
      cases hi:P[i]? with
      | none=>rfl
      | some y =>
        have:=(List.getElem?_eq_some_iff.1 hi).1
        have e1:i+1≠P.length:=by omega
        simp [sg0,e1]
  rw [e,List.flatMap_map]
  rfl
theorem pcs_fuel:∀ (f:Nat) {a b:Int},0≤a→(b-a).toNat≤f→pcs f a b=pcs (b-a).toNat a b
  | 0,a,b,_,hf=>by
    have:(b-a).toNat=0:=by omega
    rw [this]
  | f+1,a,b,h0,hf=>by
    by_cases h:a<b
    · obtain ⟨n1,n2,n3⟩:=pcs_next h0 h
      obtain ⟨m,hm⟩:∃ m,(b-a).toNat=m+1:=⟨(b-a).toNat-1,by omega⟩
      rw [hm];simp only [pcs,if_pos h]
      rw [pcs_fuel f (by omega) (by omega),pcs_fuel m (by omega) (by omega)]
    · have e1:(b-a).toNat=0:=by omega
      rw [e1]
      simp [pcs,h]
theorem pcs_cons {a b:Int} (h0:0≤a) (h:a<b):pcs (b-a).toNat a b=(a,min b ((a / 16+1)*16))::pcs (b-min b ((a / 16+1)*16)).toNat (min b ((a / 16+1)*16)) b:=by
  obtain ⟨n1,n2,n3⟩:=pcs_next h0 h
  obtain ⟨m,hm⟩:∃ m,(b-a).toNat=m+1:=⟨(b-a).toNat-1,by omega⟩
  rw [hm];simp only [pcs,if_pos h]
  rw [pcs_fuel m (by omega) (by omega)]
theorem pcs_end {a b:Int} (h:b≤a):pcs (b-a).toNat a b=[]:=by
  have:(b-a).toNat=0:=by omega
  rw [this]; rfl
theorem pcsAll_at {M:Iv} {k:Nat} {x:Int × Int} (hx:M[k]?=some x):pcsAll M=pcsAll (M.take k) ++ (pcs (x.2-x.1).toNat x.1 x.2 ++ pcsAll (M.drop (k+1))):=by
  obtain ⟨hk,e⟩:=List.getElem?_eq_some_iff.1 hx
  have e2:M=M.take k ++ (x::M.drop (k+1)):=by
    conv=>lhs; rw [← List.take_append_drop k M,List.drop_eq_getElem_cons hk,e]
  conv=>lhs; rw [e2]
  simp [pcsAll]
theorem pcsAll_succ {M:Iv} {k:Nat} {x:Int × Int} (hx:M[k]?=some x):pcsAll (M.take (k+1))=pcsAll (M.take k) ++ pcs (x.2-x.1).toNat x.1 x.2:=by
  rw [List.take_add_one,hx]
  simp [pcsAll]
theorem pcs_step {M:Iv} {k j:Nat} {x:Int × Int} {f:Int} (hx:M[k]?=some x) (hd:(pcs (x.2-x.1).toNat x.1 x.2).drop j=pcs (x.2-f).toNat f x.2) (h0:0≤f) (h:f<x.2) :
    (pcsAll M)[(pcsAll (M.take k)).length+j]?=some (f,min x.2 ((f / 16+1)*16))∧(pcs (x.2-x.1).toNat x.1 x.2).drop (j+1)=pcs (x.2-min x.2 ((f / 16+1)*16)).toNat (min x.2 ((f / 16+1)*16)) x.2∧j+1≤(pcs (x.2-x.1).toNat x.1 x.2).length:=by
  rw [pcs_cons h0 h] at hd
  have hj:j<(pcs (x.2-x.1).toNat x.1 x.2).length:=by
    rcases Nat.lt_or_ge j (pcs (x.2-x.1).toNat x.1 x.2).length with h|h
    · exact h
    · rw [List.drop_of_length_le h] at hd; simp at hd
  have hg:(pcs (x.2-x.1).toNat x.1 x.2)[j]?=some (f,min x.2 ((f / 16+1)*16)):=by
    have e:((pcs (x.2-x.1).toNat x.1 x.2).drop j)[0]?=some (f,min x.2 ((f / 16+1)*16)):=by rw [hd]; rfl
    rw [List.getElem?_drop] at e
    simpa using e
  refine ⟨?_,?_,hj⟩
  · rw [pcsAll_at hx,List.getElem?_append_right (by omega),List.getElem?_append_left (by omega)]
    rw [show (pcsAll (M.take k)).length+j-(pcsAll (M.take k)).length=j from by omega]
    exact hg
  · rw [← List.drop_drop,hd]; rfl
end Go.Step
namespace Go.Eng
variable {C:Cx} {R H:List PH} {L:Env}
def placesP (P:Program):List Field→Option (List (Nat × Nat))
  | []=>some []
  | f::fs=>match szP P f.type,placesP P fs with
    | some n,some r=>some ((f.offset,n)::r)
    | _,_=>none
def evalPs (L:Env):List (Nat × Operand)→Option (List (Nat × Value))
  | []=>some []
  | (i,x)::ps=>match evalE L x,evalPs L ps with
    | some v,some r=>some ((i,v)::r)
    | _,_=>none
def fillL (pl:List (Nat × Nat)):List Value→List (Nat × Value)→Option (List Value)
  | zs,[]=>some zs
  | zs,(i,v)::r=>match pl[i]? with
    | none=>none
    | some (off,size)=>if v.cells.size=size∧off+size≤zs.length then fillL pl (zs.take off ++ (v.cells.toList ++ zs.drop (off+size))) r else none
theorem fillL_eq {pl:List (Nat × Nat)}:∀ {pvs:List (Nat × Value)} {zs out:List Value},fillL pl zs pvs=some out→Instr.fill (fun i=>pl[i]?) zs.toArray pvs=some out.toArray
  | [],zs,out,h=>by simp [fillL] at h; subst h; rfl
  | (i,v)::r,zs,out,h=>by
    unfold fillL at h;unfold Instr.fill
    split at h
    · simp at h
    · rename_i off size e
      rw [e]
      split at h
      · rename_i hc
        have ih:=fillL_eq h
        have hs:=splice_fold v.cells.toList 0 off zs.toArray (by simp; omega)
        simp only
        rw [if_neg (by simp; omega)]
        rw [← ih]
        congr 1
        apply Array.ext'
        simpa [← Array.toList_zipIdx,← hc.1] using hs
      · simp at h
theorem evalPs_eq {a:Act}:∀ {ps:List (Nat × Operand)} {pvs:List (Nat × Value)},evalPs L ps=some pvs→(∀ x∈ps.map (·.2),OnE L a x)→ps.map (fun (x:Nat × Operand)=>(x.1,a.eval x.2))=pvs
  | [],pvs,h,_=>by simp [evalPs] at h; subst h; rfl
  | (i,x)::ps,pvs,h,hx=>by
    unfold evalPs at h
    split at h
    · rename_i v r e1 e2
      simp at h; subst h
      rw [List.map_cons,evalPs_eq e2 (fun y hy=>hx y (by simp at hy ⊢; exact .inr hy)),hx x (by simp) v e1]
    · simp at h
theorem placesP_run {P:Program}:∀ (fs:List Field) (pl:List (Nat × Nat)) (w:World),placesP P fs=some pl→(fs.mapM (fun f=>Prod.mk f.offset <$> sizeOf f.type:Field→Sem (Nat × Nat))).run P w=.ok pl w
  | [],pl,w,h=>by simp [placesP] at h; subst h; simp
  | f::fs,pl,w,h=>by
    unfold placesP at h
    split at h
    · rename_i n r e1 e2
      simp at h; subst h
      simp [List.mapM_cons,run_sizeOf e1,placesP_run fs r w e2]
    · simp at h
theorem CE {dst:Option Tmp} {ty:TypeId} {pos:String} {aft:Array Edge} {g:Option (Nat × Bool)} {t:TypeId} {ps:List (Nat × Operand)} {fs:List Field} {pl:List (Nat × Nat)} {pvs:List (Nat × Value)} {zs out:List Value}
    (hu:C.P.underlying t=some (.struct fs.toArray)) (hz:zeroP C.P t=some (.agg zs.toArray)) (hpl:placesP C.P fs=some pl) (hv:evalPs L ps=some pvs) (ho:fillL pl zs pvs=some out) :
    Quiet C R H L ⟨dst,.build t ps.toArray,ty,pos,aft,g⟩ (.agg out.toArray):=
  ⟨by intro c; simp,fun a w hxx _=>by
    have h1:=evalPs_eq (a:=a) hv (fun x hx=>hxx x (by simp [Op.operands] at hx ⊢; exact hx))
    have h2:=placesP_run fs pl w hpl
    have h3:=fillL_eq ho
    simp only [execOp,Instr.build]
    simp [run_zeroValue hz,Value.cells,run_underlying hu,h1,h2,h3]⟩
end Go.Eng
namespace Go.Eng
variable {C:Cx} {R H:List PH} {L:Env} {dst:Option Tmp} {ty:TypeId} {pos:String} {aft:Array Edge} {g:Option (Nat × Bool)}
theorem GG {x y:Operand} {t e:TypeId} {b o n i:Nat} {k:IntKind} (h:evalE L x=some (.pointer (some ⟨b,o,none⟩))) (h2:evalE L y=some (.int k (i:Int))) (ht:C.P.underlying t=some (.array n e)) (hs:szP C.P e=some 1) (hn:i<n) :
    Quiet C R H L ⟨dst,.indexAddr t x y,ty,pos,aft,g⟩ (.pointer (some ⟨b,o+i,none⟩)):=
  ⟨by intro c; simp,fun a w hx _=>by
    simp [execOp,hx x (by simp [Op.operands]) _ h,hx y (by simp [Op.operands]) _ h2,Instr.indexAt,Instr.sureAddr,asIntOf,run_underlying ht,hn,run_sizeOf hs,Addr.add_lit]⟩
theorem GV {x y:Operand} {t e:TypeId} {b o n:Nat} {k:IntKind} (h:evalE L x=some (.pointer (some ⟨b,o,none⟩))) (h2:evalE L y=some (.int k 0)) (ht:C.P.underlying t=some (.array n e)) (hs:szP C.P e=some 1) (hn:0<n) :
    Quiet C R H L ⟨dst,.indexAddr t x y,ty,pos,aft,g⟩ (.pointer (some ⟨b,o,none⟩)):=GG (i:=0) h h2 ht hs hn
theorem GW {x y:Operand} {t e:TypeId} {b o n:Nat} {k:IntKind} (h:evalE L x=some (.pointer (some ⟨b,o,none⟩))) (h2:evalE L y=some (.int k 1)) (ht:C.P.underlying t=some (.array n e)) (hs:szP C.P e=some 1) (hn:1<n) :
    Quiet C R H L ⟨dst,.indexAddr t x y,ty,pos,aft,g⟩ (.pointer (some ⟨b,o+1,none⟩)):=GG (i:=1) h h2 ht hs hn
theorem DL {x y:Operand} {t e:TypeId} {z0 z1 v0 v1:Value} (h:evalE L x=some v0) (h2:evalE L y=some v1) (ht:C.P.underlying t=some (.array 2 e)) (hs:szP C.P e=some 1) (hz:zeroP C.P t=some (.agg #[z0,z1])) (o0:v0.oneCell'=true) (o1:v1.oneCell'=true) :
    Quiet C R H L ⟨dst,.build t #[(0,x),(1,y)],ty,pos,aft,g⟩ (.agg #[v0,v1]):=
  ⟨by intro c; simp,fun a w hx _=>by
    have c0:v0.cells = #[v0]:=by cases v0 <;> first|rfl|simp [Value.oneCell'] at o0
    have c1:v1.cells = #[v1]:=by cases v1 <;> first|rfl|simp [Value.oneCell'] at o1
    have cz:(Value.agg #[z0,z1]).cells = #[z0,z1]:=rfl
    simp [execOp,hx x (by simp [Op.operands]) _ h,hx y (by simp [Op.operands]) _ h2,Instr.build,run_zeroValue hz,run_underlying ht,run_sizeOf hs,cz,Instr.fill,c0,c1]⟩
end Go.Eng
namespace Go.Eng
variable {C:Cx} {R H:List PH} {L:Env} {dst:Option Tmp} {ty:TypeId} {pos:String} {aft:Array Edge} {g:Option (Nat × Bool)}
theorem CL {x y:Operand} {t e:TypeId} {b o n i s m:Nat} {k:IntKind} (h:evalE L x=some (.pointer (some ⟨b,o,none⟩))) (h2:evalE L y=some (.int k (i:Int))) (ht:C.P.underlying t=some (.array n e)) (hs:szP C.P e=some s) (hn:i<n) (hm:o+i*s=m) :
    Quiet C R H L ⟨dst,.indexAddr t x y,ty,pos,aft,g⟩ (.pointer (some ⟨b,m,none⟩)):=
  ⟨by intro c; simp,fun a w hx _=>by
    subst hm
    simp [execOp,hx x (by simp [Op.operands]) _ h,hx y (by simp [Op.operands]) _ h2,Instr.indexAt,Instr.sureAddr,asIntOf,run_underlying ht,hn,run_sizeOf hs,Addr.add_lit]⟩
def fillA (s:Nat):List Value→List (Nat × Value)→Option (List Value)
  | zs,[]=>some zs
  | zs,(i,v)::r=>if v.cells.size=s∧i*s+s≤zs.length then fillA s (zs.take (i*s) ++ (v.cells.toList ++ zs.drop (i*s+s))) r else none
theorem fillA_eq {s:Nat}:∀ {pvs:List (Nat × Value)} {zs out:List Value},fillA s zs pvs=some out→Instr.fill (fun i=>some (i*s,s)) zs.toArray pvs=some out.toArray
  | [],zs,out,h=>by simp [fillA] at h; subst h; rfl
  | (i,v)::r,zs,out,h=>by
    unfold fillA at h;unfold Instr.fill
    split at h
    · rename_i hc
      have ih:=fillA_eq h
      have hs:=splice_fold v.cells.toList 0 (i*s) zs.toArray (by simp; omega)
      simp only
      rw [if_neg (by simp; omega)]
      rw [← ih]
      congr 1
      apply Array.ext'
      simpa [← Array.toList_zipIdx,← hc.1] using hs
    · simp at h
theorem DQ {t e:TypeId} {n s:Nat} {ps:List (Nat × Operand)} {pvs:List (Nat × Value)} {zs out:List Value}
    (hu:C.P.underlying t=some (.array n e)) (hz:zeroP C.P t=some (.agg zs.toArray)) (hs:szP C.P e=some s) (hv:evalPs L ps=some pvs) (ho:fillA s zs pvs=some out) :
    Quiet C R H L ⟨dst,.build t ps.toArray,ty,pos,aft,g⟩ (.agg out.toArray):=
  ⟨by intro c; simp,fun a w hxx _=>by
    have h1:=evalPs_eq (a:=a) hv (fun x hx=>hxx x (by simp [Op.operands] at hx ⊢; exact hx))
    have h3:=fillA_eq ho
    simp only [execOp,Instr.build]
    simp [run_zeroValue hz,Value.cells,run_underlying hu,h1,run_sizeOf hs,h3]⟩
end Go.Eng
namespace Go.Step
end Go.Step
namespace Go.Eng
open Go.IntWalk
variable {R H:List PH} {L:Env}
theorem q_addW {C:Cx} {x y:Operand} {dst:Option Tmp} {ty:TypeId} {pos:String} {aft:Array Edge} {g:Option (Nat × Bool)} {xT yT:TypeId} {m n:Int} (h1:evalE L x=some (.int .i64 m)) (h2:evalE L y=some (.int .i64 n)):Quiet C R H L ⟨dst,.binOp .add xT x y yT,ty,pos,aft,g⟩ (.int .i64 (IntKind.i64.wrap (m+n))):=
  DV (C:=C) (R:=R) (H:=H) (dst:=dst) (ty:=ty) (pos:=pos) (aft:=aft) (g:=g) (xT:=xT) (yT:=yT) (.inl ⟨rfl,rfl⟩) h1 h2
end Go.Eng
namespace Go.Eng
variable {L:Env} {R H:List PH}
theorem resS1 {fn:Func} {N:Bs} {M:Nat} {P:Program} {t b1:Nat} {T:TypeId} {v1:List Value} (hr:fn.results = #[.cell t T]) (ht:look L t=some (.pointer (some ⟨b1,0,none⟩))) (a1:aggP P T=some true)
    (n1:szP P T=some v1.length) (c1:Cells N R H b1 0 v1):∀ a w,Frm M L a→Sat N R H w→(results fn a.tmps).run P w=.ok (.agg v1.toArray) w:=by
  intro a w hf hs
  have e1:a.tmps[t]?.getD undef=.pointer (some ⟨b1,0,none⟩):=by simpa using hf.get t _ ht
  have l1:=run_loadCells_list (P:=P) (w:=w) ⟨b1,0,none⟩ v1 (fun j v hv=>by rw [Addr.add_lit]; exact c1 w hs j v hv)
  simp [results,hr,e1,loadVar,run_isAgg a1,run_sizeOf n1,l1,asAddr]
theorem resSE {fn:Func} {N:Bs} {M:Nat} {P:Program} {t u b1:Nat} {T:TypeId} {v1:List Value} {v2:Value} (hr:fn.results = #[.cell t T,.tmp u]) (ht:look L t=some (.pointer (some ⟨b1,0,none⟩))) (hu:look L u=some v2) (a1:aggP P T=some true)
    (n1:szP P T=some v1.length) (c1:Cells N R H b1 0 v1):∀ a w,Frm M L a→Sat N R H w→(results fn a.tmps).run P w=.ok (.tuple #[.agg v1.toArray,v2]) w:=by
  intro a w hf hs
  have e1:a.tmps[t]?.getD undef=.pointer (some ⟨b1,0,none⟩):=by simpa using hf.get t _ ht
  have e2:a.tmps[u]?.getD undef=v2:=by simpa using hf.get u _ hu
  have l1:=run_loadCells_list (P:=P) (w:=w) ⟨b1,0,none⟩ v1 (fun j v hv=>by rw [Addr.add_lit]; exact c1 w hs j v hv)
  simp [results,hr,e1,e2,loadVar,run_isAgg a1,run_sizeOf n1,l1,asAddr]
end Go.Eng
