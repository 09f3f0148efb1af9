/- Texts of this proof, one after the other; no conditions. -/
import Derived.Shelf.SlSortCmp.NoneTotal
import Derived.Lib.RowBridge
import Derived.Test.YtjehnjhkcmobcaaGreatWB5
import Derived.Test.YtjehnjhkcmobcaaGreatWB3
import Derived.Test.YtjehnjhkcmobcaaGreatWB2
import Derived.Test.YtjehnjhkcmobcaaGreatWB4
import Derived.Test.YtjehnjhkcmobcaaGreatWB1
import Derived.Test.YtjehnjhkcmobcaaGreatWB9
import Derived.Test.YtjehnjhkcmobcaaGreatWB8
import Derived.Test.YtjehnjhkcmobcaaGreatWB7
import Derived.Test.YtjehnjhkcmobcaaGreatWB0
set_option linter.all false
/- Slices of api.Hold: grown, put together. -/
namespace Go.Proofs.YtjehnjhkcmobcaaGreat
open Go.Eng Go.Step
set_option maxRecDepth 100000
set_option maxHeartbeats 4000000

theorem one_Hd (x:Hd):∀ u ∈ encH x,u.oneCell' = true:=by
 intro u hu
 simp only [encH,List.mem_cons,List.not_mem_nil,or_false] at hu
 rcases hu with rfl | rfl | rfl | rfl | rfl <;> rfl
theorem ones_Hd (l:List Hd):∀ u ∈ l.flatMap encH,u.oneCell' = true:=by
 intro u hu
 rw [List.mem_flatMap] at hu
 obtain ⟨a,_,hu⟩:=hu
 exact one_Hd a u hu
theorem growHd_spec (n:Nat) (hn:n ≤ 100000000):Makes Tryz.prog (fv 90) [.slice none 0 0,int n] [] (fun r σ=>OwnS 99 5 r 0 [] σ):=by
 refine spec_in (cap:=[]) Tryz.func90 rfl rfl Tryz.ntmps90 rfl envZ (fun N β=>?_)
 rcases Nat.eq_zero_or_pos n with h0 | h0
 ·subst h0
  refine BY ?_;refine Aak ?_;refine Aai ?_;refine Aeh ?_;refine Ad ?_;refine ED ?_;refine Abv ?_;refine CN ?_;refine CN ?_;refine Aa8 ?_;refine B0 ?_;refine Aaj ?_;refine Abs ?_;exact AI (res1 rfl rfl) rsubZ selZ ⟨emp,OwnS.nil _ _,rfl⟩
 ·have e0:(n:Int) - (((0:Nat):Int) - ((0:Nat):Int)) = (n:Int):=by omega
  refine Aak ?_;refine Aai ?_;refine Aeh ?_;refine Ad ?_;refine ED ?_;refine Abv ?_;refine CN ?_;refine CN ?_;refine Aa8 ?_;refine CQ ?_;refine Aah ?_;refine Acv ?_;refine ED ?_;refine D0 ?_;refine AB ?_
  focus ((rw [e0]))
  refine BH (EU (n:=n) (by_:=40) (s:=5) rfl rfl rfl rfl rfl rfl rfl rfl (by decide) h0 (by simp only [maxLen]; omega) (by omega)) rfl rfl rfl ?_
  rintro _ _ ⟨b,cap,cur,rfl,rfl,h1,h2,h3⟩
  have hcz:=cutP_zero b cap 5
  refine CH (EN rfl) rfl rfl rfl ?_;refine CH (F4 rfl rfl) rfl rfl rfl ?_
  refine CH (EI (i:=0) (s:=5) rfl rfl rfl rfl (by omega)) rfl rfl rfl ?_
  rw [hcz];refine Aa8 ?_;refine Aaa ?_;exact AI (res1 rfl rfl) rsubZ selZ ⟨_,OwnS.room h2 h3,rfl⟩
set_option maxHeartbeats 8000000 in
theorem concatHd_spec (τ:PH) (Rs:List PH) (v:Value) (vs:List Value) (ls:List (List Hd)) (hv:SlE encW 1 τ v vs) (hlen:vs.length = ls.length) (hall:∀ (i:Nat) (w:Value) (l:List Hd),vs[i]? = some w → ls[i]? = some l → ∃ σ ∈ Rs,SlE encH 5 σ w l) (hk:vs.length ≤ 1000) (ht:totL ls ≤ 1000000) :
  Makes Tryz.prog (fv 38) [v] (τ :: Rs) (fun r σ=>OwnS 99 5 r ls.flatten.length (ls.flatten.flatMap encH) σ):=by
 obtain ⟨q,c,rfl,hr⟩:=hv.val encW_len
 refine spec_in (cap:=[]) Tryz.func38 rfl rfl Tryz.ntmps38 rfl envZ (fun N β=>?_)
 refine Aek ?_
 refine BA [0,9,10] (0:Nat) (fun k=>k ≤ vs.length) (fun k=>[(11,int k),(3,int ((totL (ls.take k):Nat):Int))]) (fun _=>[]) (fun k=>vs.length - k) pickZ (by omega) ⟨rfl,rfl,trivial⟩ selZ ?_
 rintro k hkk
 by_cases hlt:k < vs.length
 ·obtain ⟨w,hw⟩:∃ w,vs[k]? = some w:=⟨_,List.getElem?_eq_getElem hlt⟩
  obtain ⟨l,hl⟩:∃ l,ls[k]? = some l:=⟨_,List.getElem?_eq_getElem (by omega)⟩
  obtain ⟨σ,hσ,hS⟩:=hall k w l hw hl
  obtain ⟨p2,c2,rfl,_⟩:=hS.val encH_len
  obtain ⟨b1,o1,rfl,hrd⟩:=hr k _ hw
  have g0:rdc τ b1 (o1 + k) = some (.slice p2 l.length c2):=by have:=hrd.get0; rwa [Nat.mul_one] at this
  have hst:=totL_take ls k l hl
  have hle:=totL_le ls (k + 1)
  have hsum:((totL (ls.take k):Nat):Int) + (l.length:Int) = ((totL (ls.take (k + 1)):Nat):Int):=by omega
  refine Aew ?_;refine Abv ?_;refine CG ?_;refine Aa8 ?_;refine A0 ?_;refine Ac5 ?_
  focus ((rw [hsum]))
  exact AX (k + 1) (by omega) (by omega) covZ selZ
 ·have hkl:k = vs.length:=by omega
  subst hkl
  rw [List.take_of_length_le (by omega)]
  refine Abl ?_;refine Aad ?_
  refine CB (growHd_spec (totL ls) (by omega)) rfl rfl rdZ rfl rfl ?_
  rintro u0 σ0 hO0;refine Ad5 ?_
  refine BA [25,26] (X:=Nat × (Value × PH)) (0,(u0,σ0)) (fun x=>x.1 ≤ vs.length ∧ OwnS 99 5 x.2.1 (ls.take x.1).flatten.length ((ls.take x.1).flatten.flatMap encH) x.2.2) (fun x=>[(27,int x.1),(6,x.2.1)]) (fun x=>[x.2.2]) (fun x=>vs.length - x.1) pickZ ⟨by dsimp only; omega,by simpa using hO0⟩ covZ selZ ?_
  rintro ⟨k,⟨u,σ1⟩⟩ ⟨hk2,hO⟩
  dsimp only at hk2 hO ⊢
  by_cases hlt2:k < vs.length
  ·obtain ⟨w,hw⟩:∃ w,vs[k]? = some w:=⟨_,List.getElem?_eq_getElem hlt2⟩
   obtain ⟨l,hl⟩:∃ l,ls[k]? = some l:=⟨_,List.getElem?_eq_getElem (by omega)⟩
   obtain ⟨σ,hσ,hS⟩:=hall k w l hw hl
   have hS2:=hS
   obtain ⟨p2,c2,rfl,_⟩:=hS.val encH_len
   obtain ⟨b1,o1,rfl,hrd⟩:=hr k _ hw
   have g0:rdc τ b1 (o1 + k) = some (.slice p2 l.length c2):=by have:=hrd.get0; rwa [Nat.mul_one] at this
   have hst:=totL_take ls k l hl
   have hle:=totL_le ls (k + 1)
   have hfl:=totL_flat (ls.take k)
   refine Ac6 ?_;refine Aaa ?_;refine Acv ?_
   refine BH (EV (by_:=40) (s:=5) (σ:=σ) (news:=l.flatMap encH) (m:=l.length) rfl rfl rfl rfl rfl rfl rfl hO takeZ hS2 (fun b o h=>cells_of_mem (List.mem_cons_of_mem _ (List.mem_cons_of_mem _ hσ)) h) (ones_Hd l) (by simp only [maxLen]; omega) (by omega)) rfl rfl rfl ?_
   rintro u1 _ ⟨σ2,hO2,rfl⟩;refine Adp ?_
   refine AX (k + 1,(u1,σ2)) ⟨by dsimp only; omega,?_⟩ (by dsimp only; omega) covZ selZ
   dsimp only
   rw [flat_succ ls k l hl,List.length_append,List.flatMap_append];exact hO2
  ·have hkl:k = vs.length:=by omega
   subst hkl
   rw [List.take_of_length_le (by omega)] at hO
   refine Ael ?_;exact AI (res1 rfl rfl) rsubZ selZ ⟨σ1,hO,rfl⟩
end Go.Proofs.YtjehnjhkcmobcaaGreat
/- The library's sort of structs by a comparison, as a contract of this engine. No conditions. -/
namespace Go.Eng
open Go.Sort
open Go.Proofs (sortWorldK)
theorem upd_grow {w w' : World} (u : Upd [] [] w w') : ∃ q os, w' = grow (w.drewN q) os := by
  obtain ⟨⟨a1, a2, a3, a4, a5⟩, hk, _⟩ := u
  refine ⟨w'.drawn - w.drawn, w'.heap.extract w.heap.size w'.heap.size, ?_⟩
  have hh : w'.heap = w.heap ++ w'.heap.extract w.heap.size w'.heap.size := by
    apply Array.ext_getElem?
    intro i
    by_cases hi : i < w.heap.size
    · rw [Array.getElem?_append_left hi]
      exact hk i hi (by simp)
    · rw [Array.getElem?_append_right (by omega), Array.getElem?_extract]
      split
      · rw [show w.heap.size + (i - w.heap.size) = i by omega]
      · rw [Array.getElem?_eq_none (by omega)]
  obtain ⟨h1, t1, d1, o1, p1⟩ := w
  obtain ⟨h2, t2, d2, o2, p2⟩ := w'
  dsimp only at *
  subst a2 a3 a4;unfold grow World.drewN;simp only [World.mk.injEq, and_true, true_and]
  exact ⟨hh, by omega⟩
theorem calls_of {P : Program} {g : FuncId} {gn : Func} {c : Code} {args : List Value} {W : World} {v : Value} (hf : P.funcs[g]? = some gn) (hb : gn.body = some c) (hname : (gn.name == "runtime.NumGoroutine") = false)
    (hs : Ans P (fv g) args [] (fun r => r = v)) : Calls P g args.toArray W (fun e W' => e = .returned v ∧ ∃ q os, W' = grow (W.drewN q) os) := by
  have h := hs (Bs.of W) W ⟨⟨Nat.le_refl _, rfl, rfl, rfl, Nat.le_refl _⟩, by simp, by simp, List.Pairwise.nil, by simp⟩
  unfold CallsV at h
  have hrun : ((do let d ← Deferred.ofValue (fv g) args.toArray; invoke d.target d.args : Sem Next).run P W) = .ok (.enter g args.toArray) W := by
    have hname' : ¬ gn.name = "runtime.NumGoroutine" := by simpa using hname
    simp [Deferred.ofValue, invoke, callFunc, program, Sem.run, bind, Sem.bind, pure, hf, hb, hname']
  rw [hrun] at h;refine callsIn_wide.1 (CallsIn.mono h ?_);rintro e W' ⟨r, rfl, H', ⟨rfl, rfl⟩, hu⟩;exact ⟨rfl, upd_grow hu⟩
theorem flatK_list {α : Type} [Inhabited α] {enc : α → List Value} {k : Nat} (hk : ∀ x, (enc x).length = k) (l : List α) : flatK enc k l.toArray = (l.flatMap enc).toArray := by
  have hsz : (flatK enc k l.toArray).size = (l.flatMap enc).length := by rw [size_flatK, flat_len hk]; simp
  apply Array.ext
  · simpa using hsz
  intro t h1 h2
  have ht : t < l.length * k := by rw [size_flatK] at h1; simpa using h1
  have k0 : 0 < k := by
    rcases Nat.eq_zero_or_pos k with h | h
    · subst h; simp at ht
    · exact h
  have hj : t / k < l.length := Nat.div_lt_of_lt_mul (by rw [Nat.mul_comm]; exact ht)
  have hg := get_flatK enc k l.toArray t (by simpa using ht)
  rw [getElem!_pos _ t h1] at hg;rw [hg]
  have e1 : l.toArray[t / k]! = l[t / k] := by rw [getElem!_pos _ _ (by simpa using hj)]; simp
  have hm : t % k < (enc l[t / k]).length := by rw [hk]; exact Nat.mod_lt _ k0
  rw [e1, getElem!_pos (enc l[t / k]) (t % k) hm]
  have hf := flat_get hk l (t / k) _ (List.getElem?_eq_getElem hj) (t % k) _ (List.getElem?_eq_getElem hm)
  rw [show t / k * k + t % k = t by rw [Nat.mul_comm]; exact Nat.div_add_mod t k] at hf
  have h3 : t < (l.flatMap enc).length := by simpa using h2
  rw [List.getElem?_eq_getElem h3] at hf;rw [← Option.some.inj hf]
  simp
theorem take_putCellsF (cur : Array Value) (F : List Value) (h : F.length ≤ cur.size) : (putCells id 0 F.toArray cur).toList.take F.length = F := by
  apply List.ext_getElem?
  intro j
  by_cases hj : j < F.length
  · rw [List.getElem?_take_of_lt hj, Array.getElem?_toList]
    simp [putCells, hj, show j < cur.size by omega]
  · rw [List.getElem?_take_eq_none (by omega), List.getElem?_eq_none (by omega)]
theorem sortF_of {α : Type} [Inhabited α] {P : Program} {f g : FuncId} {fn gn : Func} {c cg : Code} {enc : α → List Value} {k : Nat} {cf : α → α → Int} (hf : P.funcs[f]? = some fn) (hb : fn.body = some c) (hname : (fn.name == "runtime.NumGoroutine") = false)
    (hgf : P.funcs[g]? = some gn) (hgb : gn.body = some cg) (hgn : (gn.name == "runtime.NumGoroutine") = false) (hk : ∀ x, (enc x).length = k)
    (hany : ∀ (blk cap : Nat) (d : Array α) (w : World), Go.Proofs.CmpLays P g #[] enc k cf blk 0 d.size w → HoldsK enc k w blk 0 d → blk < w.heap.size → d.size < 4611686018427387904 →
      Calls P f #[.slice (some ⟨blk, 0, none⟩) d.size cap, fv g] w (fun e w' => e = .returned (.tuple #[]) ∧ ∃ d' n os, PermIn 0 d.size d d' ∧ SortedIn (Go.Proofs.ltOf cf) 0 d.size d' ∧ w' = sortWorldK enc k w blk 0 n d' os))
    (hnone : ∀ (p : Option Addr) (cap : Nat) (w : World), Calls P f #[.slice p 0 cap, fv g] w (fun e w' => e = .returned (.tuple #[]) ∧ w' = w))
    (hc : ∀ x y, Ans P (fv g) [.agg (enc x).toArray, .agg (enc y).toArray] [] (fun r => r = int (cf x y)))
    {e : TypeId} {σ : PH} {v : Value} {l : List α} (hO : OwnS e k v l.length (l.flatMap enc) σ) (hl : l.length < 4611686018427387904) :
    Spec P (fv f) [v, fv g] [] [σ] (fun r H' => r = .tuple #[] ∧ ∃ (m : List α) (σ' : PH), m.Perm l ∧ m.Pairwise (fun x y => ¬ cf y x < 0) ∧ OwnS e k v m.length (m.flatMap enc) σ' ∧ H' = [σ']) := by
  intro N w hs
  obtain ⟨β, hsat, hup⟩ := exists_base hs
  rcases hO.block with ⟨rfl, hl0, rfl⟩ | ⟨b, cap, cur, rfl, rfl, h1, h2, h3, h4⟩
  · subst hl0
    refine calls_v hf hb hname (Calls.mono (hnone none 0 w) ?_);rintro _ _ ⟨rfl, rfl⟩;exact ⟨_, rfl, [emp], ⟨rfl, [], emp, List.Perm.refl _, List.Pairwise.nil, OwnS.nil e k, rfl⟩, hup _ _ hsat⟩
  · have hg : w.heap[b]? = some (.cells cur e (0, 0)) := hs.own .here
    have hblt : b < w.heap.size := (Array.getElem?_eq_some_iff.1 hg).1
    have hle : l.length * k ≤ cap * k := Nat.mul_le_mul_right k h1
    have hH : HoldsK enc k w b 0 l.toArray := by
      unfold HoldsK;rw [flatK_list hk]
      intro j hj
      simp only [List.size_toArray] at hj
      have hj2 : j < l.length * k := by rwa [flat_len hk] at hj
      have hj' : (cur.toList.take (l.length * k))[j]? = some (l.flatMap enc)[j] := by rw [h4, List.getElem?_eq_getElem hj]
      rw [List.getElem?_take_of_lt hj2, Array.getElem?_toList] at hj';refine ⟨?_, ?_⟩
      · rw [cell_of_row w b _ cur e (0, 0) hg, Nat.zero_add, hj']
        congr 1
        show _ = ((l.flatMap enc).toArray)[j]!
        rw [getElem!_pos _ _ (by simpa using hj)]
        simp
      · simp [World.frozen?, hg]
    have hcl : Go.Proofs.CmpLays P g #[] enc k cf b 0 l.toArray.size w := fun m os dk _ x y => by
      have := calls_of (W := sortWorldK enc k w b 0 m dk os) hgf hgb hgn (hc x y)
      simpa using this
    have hany' := hany b cap l.toArray w hcl hH hblt (by simpa using hl)
    rw [List.size_toArray] at hany';refine calls_v hf hb hname (Calls.mono hany' ?_);rintro _ _ ⟨rfl, d', n, os, hp, hso, rfl⟩
    obtain ⟨m, rfl⟩ : ∃ m : List α, d' = m.toArray := ⟨d'.toList, by simp⟩
    have hsz : m.length = l.length := by have := hp.1; simpa using this
    have hperm : m.Perm l := by
      have := hp.2.2
      rw [show (m.toArray.extract 0 l.length).toList = m by simp [hsz.symm], show (l.toArray.extract 0 l.length).toList = l by simp] at this
      exact this
    have hheap : (sortWorldK enc k w b 0 n m.toArray os).heap = (w.heap.modify b (onCells (putCells id 0 (m.flatMap enc).toArray))) ++ os := by
      unfold sortWorldK putRowK;rw [flatK_list hk]
      rfl
    refine ⟨_, rfl, [sng b (.cells (putCells id 0 (m.flatMap enc).toArray cur) e (0, 0))], ⟨rfl, m, _, hperm, List.pairwise_iff_getElem.2 (fun i j hi hj hij => ?_), ⟨by rw [flat_len hk], .inr ⟨b, cap, _, by rw [hsz], rfl, by omega, h2, ?_, ?_⟩⟩, rfl⟩, ?_⟩
    · have := hso i j (Nat.zero_le _) hij (by omega)
      rw [getElem!_pos _ i (by simpa using hi), getElem!_pos _ j (by simpa using hj)] at this
      unfold Go.Proofs.ltOf at this;rw [decide_eq_false_iff_not] at this
      simpa using this
    · simp [putCells, h3]
    · have := take_putCellsF cur (m.flatMap enc) (by rw [flat_len hk, hsz, h3]; exact hle)
      rwa [flat_len hk] at this
    · refine ⟨⟨?_, rfl, rfl, rfl, Nat.le_add_right _ _⟩, fun k' hk' hno => ?_, fun ρ hρ => ?_, by simp, fun ρ hρ k' hk' => ?_⟩
      · rw [hheap]; simp
      · have hne : k' ≠ b := fun he => by
          subst he
          have := hno (sng k' (.cells cur e (0, 0))) (by simp)
          simp [sng_self] at this
        rw [hheap, Array.getElem?_append_left (by simpa using hk'), Array.getElem?_modify, if_neg (Ne.symm hne)]
      · simp at hρ; subst hρ
        intro k' o hk'
        obtain ⟨rfl, rfl⟩ := sng_some hk'
        rw [hheap, Array.getElem?_append_left (by simpa using hblt), Array.getElem?_modify, if_pos rfl, hg]
        rfl
      · simp at hρ; subst hρ
        left
        refine ⟨sng b (.cells cur e (0, 0)), by simp, ?_⟩
        cases hks : sng b (Obj.cells (putCells id 0 (m.flatMap enc).toArray cur) e (0, 0)) k' with
        | none => exact absurd hks hk'
        | some o =>
          obtain ⟨rfl, _⟩ := sng_some hks
          simp [sng_self]
end Go.Eng
/- The library's sorts by a comparison. -/
namespace Go.Proofs
open Go.Shelf
def Tryz.layT_ren : Go.Shelf.Ren := ⟨fun | 6 => 86 | 15 => 92 | 14 => 136 | 28 => 146 | 29 => 147 | 20 => 181 | 21 => 182 | 22 => 183 | 23 => 184 | 24 => 185 | 25 => 186 | 26 => 187 | 27 => 188 | 46 => 220 | 47 => 190 | 48 => 191 | 49 => 221 | 50 => 222 | 57 => 230 | n => n, fun | 22 => 183 | 24 => 173 | 25 => 187 | 3 => 3 | 39 => 192 | 0 => 0 | 53 => 238 | 55 => 240 | 4 => 4 | 46 => 231 | 45 => 230 | 50 => 235 | 5 => 5 | 9 => 9 | 66 => 277 | 70 => 281 | 76 => 306 | 77 => 307 | n => n, fun | n => n⟩
theorem Tryz.layT : Go.Proofs.SlLaysF0.n6 Tryz.prog Tryz.layT_ren := {
  mixed := by kernel_rfl
  f6 := ⟨Tryz.f86.name, by decide, Tryz.func86.trans (congrArg some (by kernel_rfl))⟩
  f14 := ⟨Tryz.f136.name, by decide, Tryz.func136.trans (congrArg some (by kernel_rfl))⟩
  f15 := Tryz.func92.trans (congrArg some (by kernel_rfl))
  f20 := ⟨Tryz.f181.name, by decide, Tryz.func181.trans (congrArg some (by kernel_rfl))⟩
  f21 := ⟨Tryz.f182.name, by decide, Tryz.func182.trans (congrArg some (by kernel_rfl))⟩
  f22 := ⟨Tryz.f183.name, by decide, Tryz.func183.trans (congrArg some (by kernel_rfl))⟩
  f23 := ⟨Tryz.f184.name, by decide, Tryz.func184.trans (congrArg some (by kernel_rfl))⟩
  f24 := ⟨Tryz.f185.name, by decide, Tryz.func185.trans (congrArg some (by kernel_rfl))⟩
  f25 := ⟨Tryz.f186.name, by decide, Tryz.func186.trans (congrArg some (by kernel_rfl))⟩
  f26 := ⟨Tryz.f187.name, by decide, Tryz.func187.trans (congrArg some (by kernel_rfl))⟩
  f27 := ⟨Tryz.f188.name, by decide, Tryz.func188.trans (congrArg some (by kernel_rfl))⟩
  f28 := Tryz.func146.trans (congrArg some (by kernel_rfl))
  f29 := Tryz.func147.trans (congrArg some (by kernel_rfl))
  f46 := ⟨Tryz.f220.name, by decide, Tryz.func220.trans (congrArg some (by kernel_rfl))⟩
  f47 := Tryz.func190.trans (congrArg some (by kernel_rfl))
  f48 := Tryz.func191.trans (congrArg some (by kernel_rfl))
  f49 := ⟨Tryz.f221.name, by decide, Tryz.func221.trans (congrArg some (by kernel_rfl))⟩
  f50 := ⟨Tryz.f222.name, by decide, Tryz.func222.trans (congrArg some (by kernel_rfl))⟩
  f57 := ⟨Tryz.f230.name, by decide, Tryz.func230.trans (congrArg some (by kernel_rfl))⟩
  t0 := Tryz.underlying0
  a0 := Tryz.isAgg0
  z0 := Tryz.sizeOf0
  v0 := Tryz.zeroValue0
  t3 := Tryz.underlying3
  a3 := Tryz.isAgg3
  z3 := Tryz.sizeOf3
  v3 := Tryz.zeroValue3
  t4 := Tryz.underlying4
  a4 := Tryz.isAgg4
  z4 := Tryz.sizeOf4
  v4 := Tryz.zeroValue4
  t5 := Tryz.underlying5
  a5 := Tryz.isAgg5
  z5 := Tryz.sizeOf5
  v5 := Tryz.zeroValue5
  t9 := Tryz.underlying9
  a9 := Tryz.isAgg9
  z9 := Tryz.sizeOf9
  v9 := Tryz.zeroValue9
  t22 := Tryz.underlying183
  a22 := Tryz.isAgg183
  z22 := Tryz.sizeOf183
  v22 := Tryz.zeroValue183
  t25 := Tryz.underlying187
  a25 := Tryz.isAgg187
  z25 := Tryz.sizeOf187
  v25 := Tryz.zeroValue187
  t39 := Tryz.underlying192
  a39 := Tryz.isAgg192
  z39 := Tryz.sizeOf192
  v39 := Tryz.zeroValue192
  t45 := Tryz.underlying230
  a45 := Tryz.isAgg230
  z45 := Tryz.sizeOf230
  v45 := Tryz.zeroValue230
  t46 := Tryz.underlying231
  a46 := Tryz.isAgg231
  z46 := Tryz.sizeOf231
  v46 := Tryz.zeroValue231
  t50 := Tryz.underlying235
  a50 := Tryz.isAgg235
  z50 := Tryz.sizeOf235
  v50 := Tryz.zeroValue235
  t53 := Tryz.underlying238
  a53 := Tryz.isAgg238
  z53 := Tryz.sizeOf238
  v53 := Tryz.zeroValue238
  t55 := Tryz.underlying240
  a55 := Tryz.isAgg240
  z55 := Tryz.sizeOf240
  v55 := Tryz.zeroValue240
  t66 := Tryz.underlying277
  a66 := Tryz.isAgg277
  z66 := Tryz.sizeOf277
  v66 := Tryz.zeroValue277
  t70 := Tryz.underlying281
  a70 := Tryz.isAgg281
  z70 := Tryz.sizeOf281
  v70 := Tryz.zeroValue281
  t76 := Tryz.underlying306
  a76 := Tryz.isAgg306
  z76 := Tryz.sizeOf306
  v76 := Tryz.zeroValue306
  t77 := Tryz.underlying307
  a77 := Tryz.isAgg307
  z77 := Tryz.sizeOf307
  v77 := Tryz.zeroValue307 }
def Tryz.layB_ren : Go.Shelf.Ren := ⟨fun | 6 => 39 | 15 => 92 | 14 => 91 | 28 => 146 | 29 => 147 | 20 => 138 | 21 => 139 | 22 => 140 | 23 => 141 | 24 => 142 | 25 => 143 | 26 => 144 | 27 => 145 | 46 => 189 | 47 => 190 | 48 => 191 | 49 => 192 | 50 => 193 | 57 => 223 | n => n, fun | 22 => 26 | 24 => 95 | 25 => 101 | 3 => 3 | 39 => 192 | 0 => 0 | 53 => 238 | 55 => 240 | 4 => 4 | 46 => 231 | 45 => 230 | 50 => 235 | 5 => 5 | 9 => 9 | 66 => 277 | 70 => 281 | 76 => 306 | 77 => 307 | n => n, fun | n => n⟩
theorem Tryz.layB : Go.Proofs.SlLaysF0.n6 Tryz.prog Tryz.layB_ren := {
  mixed := by kernel_rfl
  f6 := ⟨Tryz.f39.name, by decide, Tryz.func39.trans (congrArg some (by kernel_rfl))⟩
  f14 := ⟨Tryz.f91.name, by decide, Tryz.func91.trans (congrArg some (by kernel_rfl))⟩
  f15 := Tryz.func92.trans (congrArg some (by kernel_rfl))
  f20 := ⟨Tryz.f138.name, by decide, Tryz.func138.trans (congrArg some (by kernel_rfl))⟩
  f21 := ⟨Tryz.f139.name, by decide, Tryz.func139.trans (congrArg some (by kernel_rfl))⟩
  f22 := ⟨Tryz.f140.name, by decide, Tryz.func140.trans (congrArg some (by kernel_rfl))⟩
  f23 := ⟨Tryz.f141.name, by decide, Tryz.func141.trans (congrArg some (by kernel_rfl))⟩
  f24 := ⟨Tryz.f142.name, by decide, Tryz.func142.trans (congrArg some (by kernel_rfl))⟩
  f25 := ⟨Tryz.f143.name, by decide, Tryz.func143.trans (congrArg some (by kernel_rfl))⟩
  f26 := ⟨Tryz.f144.name, by decide, Tryz.func144.trans (congrArg some (by kernel_rfl))⟩
  f27 := ⟨Tryz.f145.name, by decide, Tryz.func145.trans (congrArg some (by kernel_rfl))⟩
  f28 := Tryz.func146.trans (congrArg some (by kernel_rfl))
  f29 := Tryz.func147.trans (congrArg some (by kernel_rfl))
  f46 := ⟨Tryz.f189.name, by decide, Tryz.func189.trans (congrArg some (by kernel_rfl))⟩
  f47 := Tryz.func190.trans (congrArg some (by kernel_rfl))
  f48 := Tryz.func191.trans (congrArg some (by kernel_rfl))
  f49 := ⟨Tryz.f192.name, by decide, Tryz.func192.trans (congrArg some (by kernel_rfl))⟩
  f50 := ⟨Tryz.f193.name, by decide, Tryz.func193.trans (congrArg some (by kernel_rfl))⟩
  f57 := ⟨Tryz.f223.name, by decide, Tryz.func223.trans (congrArg some (by kernel_rfl))⟩
  t0 := Tryz.underlying0
  a0 := Tryz.isAgg0
  z0 := Tryz.sizeOf0
  v0 := Tryz.zeroValue0
  t3 := Tryz.underlying3
  a3 := Tryz.isAgg3
  z3 := Tryz.sizeOf3
  v3 := Tryz.zeroValue3
  t4 := Tryz.underlying4
  a4 := Tryz.isAgg4
  z4 := Tryz.sizeOf4
  v4 := Tryz.zeroValue4
  t5 := Tryz.underlying5
  a5 := Tryz.isAgg5
  z5 := Tryz.sizeOf5
  v5 := Tryz.zeroValue5
  t9 := Tryz.underlying9
  a9 := Tryz.isAgg9
  z9 := Tryz.sizeOf9
  v9 := Tryz.zeroValue9
  t22 := Tryz.underlying26
  a22 := Tryz.isAgg26
  z22 := Tryz.sizeOf26
  v22 := Tryz.zeroValue26
  t25 := Tryz.underlying101
  a25 := Tryz.isAgg101
  z25 := Tryz.sizeOf101
  v25 := Tryz.zeroValue101
  t39 := Tryz.underlying192
  a39 := Tryz.isAgg192
  z39 := Tryz.sizeOf192
  v39 := Tryz.zeroValue192
  t45 := Tryz.underlying230
  a45 := Tryz.isAgg230
  z45 := Tryz.sizeOf230
  v45 := Tryz.zeroValue230
  t46 := Tryz.underlying231
  a46 := Tryz.isAgg231
  z46 := Tryz.sizeOf231
  v46 := Tryz.zeroValue231
  t50 := Tryz.underlying235
  a50 := Tryz.isAgg235
  z50 := Tryz.sizeOf235
  v50 := Tryz.zeroValue235
  t53 := Tryz.underlying238
  a53 := Tryz.isAgg238
  z53 := Tryz.sizeOf238
  v53 := Tryz.zeroValue238
  t55 := Tryz.underlying240
  a55 := Tryz.isAgg240
  z55 := Tryz.sizeOf240
  v55 := Tryz.zeroValue240
  t66 := Tryz.underlying277
  a66 := Tryz.isAgg277
  z66 := Tryz.sizeOf277
  v66 := Tryz.zeroValue277
  t70 := Tryz.underlying281
  a70 := Tryz.isAgg281
  z70 := Tryz.sizeOf281
  v70 := Tryz.zeroValue281
  t76 := Tryz.underlying306
  a76 := Tryz.isAgg306
  z76 := Tryz.sizeOf306
  v76 := Tryz.zeroValue306
  t77 := Tryz.underlying307
  a77 := Tryz.isAgg307
  z77 := Tryz.sizeOf307
  v77 := Tryz.zeroValue307 }
def Tryz.layH_ren : Go.Shelf.Ren := ⟨fun | 6 => 41 | 15 => 92 | 14 => 93 | 28 => 146 | 29 => 147 | 20 => 148 | 21 => 149 | 22 => 150 | 23 => 151 | 24 => 152 | 25 => 153 | 26 => 154 | 27 => 155 | 46 => 194 | 47 => 190 | 48 => 191 | 49 => 195 | 50 => 196 | 57 => 224 | n => n, fun | 22 => 27 | 24 => 99 | 25 => 103 | 3 => 3 | 39 => 192 | 0 => 0 | 53 => 238 | 55 => 240 | 4 => 4 | 46 => 231 | 45 => 230 | 50 => 235 | 5 => 5 | 9 => 9 | 66 => 277 | 70 => 281 | 76 => 306 | 77 => 307 | n => n, fun | n => n⟩
theorem Tryz.layH : Go.Proofs.SlLaysF0.n6 Tryz.prog Tryz.layH_ren := {
  mixed := by kernel_rfl
  f6 := ⟨Tryz.f41.name, by decide, Tryz.func41.trans (congrArg some (by kernel_rfl))⟩
  f14 := ⟨Tryz.f93.name, by decide, Tryz.func93.trans (congrArg some (by kernel_rfl))⟩
  f15 := Tryz.func92.trans (congrArg some (by kernel_rfl))
  f20 := ⟨Tryz.f148.name, by decide, Tryz.func148.trans (congrArg some (by kernel_rfl))⟩
  f21 := ⟨Tryz.f149.name, by decide, Tryz.func149.trans (congrArg some (by kernel_rfl))⟩
  f22 := ⟨Tryz.f150.name, by decide, Tryz.func150.trans (congrArg some (by kernel_rfl))⟩
  f23 := ⟨Tryz.f151.name, by decide, Tryz.func151.trans (congrArg some (by kernel_rfl))⟩
  f24 := ⟨Tryz.f152.name, by decide, Tryz.func152.trans (congrArg some (by kernel_rfl))⟩
  f25 := ⟨Tryz.f153.name, by decide, Tryz.func153.trans (congrArg some (by kernel_rfl))⟩
  f26 := ⟨Tryz.f154.name, by decide, Tryz.func154.trans (congrArg some (by kernel_rfl))⟩
  f27 := ⟨Tryz.f155.name, by decide, Tryz.func155.trans (congrArg some (by kernel_rfl))⟩
  f28 := Tryz.func146.trans (congrArg some (by kernel_rfl))
  f29 := Tryz.func147.trans (congrArg some (by kernel_rfl))
  f46 := ⟨Tryz.f194.name, by decide, Tryz.func194.trans (congrArg some (by kernel_rfl))⟩
  f47 := Tryz.func190.trans (congrArg some (by kernel_rfl))
  f48 := Tryz.func191.trans (congrArg some (by kernel_rfl))
  f49 := ⟨Tryz.f195.name, by decide, Tryz.func195.trans (congrArg some (by kernel_rfl))⟩
  f50 := ⟨Tryz.f196.name, by decide, Tryz.func196.trans (congrArg some (by kernel_rfl))⟩
  f57 := ⟨Tryz.f224.name, by decide, Tryz.func224.trans (congrArg some (by kernel_rfl))⟩
  t0 := Tryz.underlying0
  a0 := Tryz.isAgg0
  z0 := Tryz.sizeOf0
  v0 := Tryz.zeroValue0
  t3 := Tryz.underlying3
  a3 := Tryz.isAgg3
  z3 := Tryz.sizeOf3
  v3 := Tryz.zeroValue3
  t4 := Tryz.underlying4
  a4 := Tryz.isAgg4
  z4 := Tryz.sizeOf4
  v4 := Tryz.zeroValue4
  t5 := Tryz.underlying5
  a5 := Tryz.isAgg5
  z5 := Tryz.sizeOf5
  v5 := Tryz.zeroValue5
  t9 := Tryz.underlying9
  a9 := Tryz.isAgg9
  z9 := Tryz.sizeOf9
  v9 := Tryz.zeroValue9
  t22 := Tryz.underlying27
  a22 := Tryz.isAgg27
  z22 := Tryz.sizeOf27
  v22 := Tryz.zeroValue27
  t25 := Tryz.underlying103
  a25 := Tryz.isAgg103
  z25 := Tryz.sizeOf103
  v25 := Tryz.zeroValue103
  t39 := Tryz.underlying192
  a39 := Tryz.isAgg192
  z39 := Tryz.sizeOf192
  v39 := Tryz.zeroValue192
  t45 := Tryz.underlying230
  a45 := Tryz.isAgg230
  z45 := Tryz.sizeOf230
  v45 := Tryz.zeroValue230
  t46 := Tryz.underlying231
  a46 := Tryz.isAgg231
  z46 := Tryz.sizeOf231
  v46 := Tryz.zeroValue231
  t50 := Tryz.underlying235
  a50 := Tryz.isAgg235
  z50 := Tryz.sizeOf235
  v50 := Tryz.zeroValue235
  t53 := Tryz.underlying238
  a53 := Tryz.isAgg238
  z53 := Tryz.sizeOf238
  v53 := Tryz.zeroValue238
  t55 := Tryz.underlying240
  a55 := Tryz.isAgg240
  z55 := Tryz.sizeOf240
  v55 := Tryz.zeroValue240
  t66 := Tryz.underlying277
  a66 := Tryz.isAgg277
  z66 := Tryz.sizeOf277
  v66 := Tryz.zeroValue277
  t70 := Tryz.underlying281
  a70 := Tryz.isAgg281
  z70 := Tryz.sizeOf281
  v70 := Tryz.zeroValue281
  t76 := Tryz.underlying306
  a76 := Tryz.isAgg306
  z76 := Tryz.sizeOf306
  v76 := Tryz.zeroValue306
  t77 := Tryz.underlying307
  a77 := Tryz.isAgg307
  z77 := Tryz.sizeOf307
  v77 := Tryz.zeroValue307 }
end Go.Proofs
namespace Go.Proofs.YtjehnjhkcmobcaaGreat
open Go.Eng Go.Step
set_option maxRecDepth 100000
set_option maxHeartbeats 4000000

def cmpT (x y:Int × Int):Int:=orI [cmpI x.1 y.1,cmpI x.2 y.2]
theorem cmpT_lt (x y:Int × Int):cmpT x y < 0 ↔ lexT x y:=by
 have:=cmpBk_lt ⟨x.1,x.2,0,0⟩ ⟨y.1,y.2,0,0⟩
 exact this
set_option maxHeartbeats 16000000 in
theorem tickCmp_spec (x y:Int × Int):Ans Tryz.prog (fv 87) [.agg #[int x.1,int x.2],.agg #[int y.1,int y.2]] [] (fun r=>r = int (cmpT x y)):=by
 refine spec_in (cap:=[]) Tryz.func87 rfl rfl Tryz.ntmps87 rfl envZ (fun N β=>?_)
 refine Aa ?_;refine CD ?_; rintro _ _ ⟨b,rfl,rfl⟩;refine CD ?_; rintro _ _ ⟨b,rfl,rfl⟩;refine Abi ?_
 refine A8 (.q 0 (.q 1 (.q 2 (.q 3 (.q 5 (.q 6 (.q 7 (.q 8 (.l 4 .e (.l 9 .e (.l 10 .e (.l 11 .e (.q 12 .nil))))))))))))) [] rfl (by kernel_rfl) selZ ?_
 refine Acn ?_;refine Acn ?_
 focus ((refine B7 (CC rfl (cmpI_spec _ _) rfl rfl rdZ rfl rfl ?_); rintro _ rfl))
 focus ((refine B7 (CC rfl (cmpI_spec _ _) rfl rfl rdZ rfl rfl ?_); rintro _ rfl))
 refine BK ?_; rintro _ _ ⟨b,rfl,rfl⟩
 revert b; intro bo
 refine B7 (CC rfl (or_spec (sng bo _) _ [cmpI x.1 y.1,cmpI x.2 y.2] (slE_sng Eng.encI_len) (by simp)) rfl rfl rdZ rfl rfl ?_)
 rintro _ rfl;refine Adm ?_
 skip
 exact AI (res1 rfl rfl) rsubZ selZ ⟨rfl,rfl⟩
set_option maxHeartbeats 16000000 in
theorem bkCmp_spec (x y:Bk):Ans Tryz.prog (fv 40) [.agg #[int x.c,int x.a,int x.b,int x.k],.agg #[int y.c,int y.a,int y.b,int y.k]] [] (fun r=>r = int (cmpBk x y)):=by
 refine spec_in (cap:=[]) Tryz.func40 rfl rfl Tryz.ntmps40 rfl envZ (fun N β=>?_)
 refine Aa ?_;refine CD ?_; rintro _ _ ⟨b,rfl,rfl⟩;refine CD ?_; rintro _ _ ⟨b,rfl,rfl⟩;refine Abi ?_
 refine A8 (.q 0 (.q 1 (.q 2 (.q 3 (.q 5 (.q 6 (.q 7 (.q 8 (.l 4 .e (.l 9 .e (.l 10 .e (.l 11 .e (.q 12 .nil))))))))))))) [] rfl (by kernel_rfl) selZ ?_
 refine Acn ?_;refine Acn ?_
 focus ((refine B7 (CC rfl (cmpI_spec _ _) rfl rfl rdZ rfl rfl ?_); rintro _ rfl))
 focus ((refine B7 (CC rfl (cmpI_spec _ _) rfl rfl rdZ rfl rfl ?_); rintro _ rfl))
 refine BK ?_; rintro _ _ ⟨b,rfl,rfl⟩
 revert b; intro bo
 refine B7 (CC rfl (or_spec (sng bo _) _ [cmpI x.c y.c,cmpI x.a y.a] (slE_sng Eng.encI_len) (by simp)) rfl rfl rdZ rfl rfl ?_)
 rintro _ rfl;refine Adm ?_
 skip
 exact AI (res1 rfl rfl) rsubZ selZ ⟨rfl,rfl⟩
set_option maxHeartbeats 16000000 in
theorem hdCmp_spec (x y:Hd):Ans Tryz.prog (fv 42) [.agg #[int x.n,int x.a,int x.b,int x.s,int x.k],.agg #[int y.n,int y.a,int y.b,int y.s,int y.k]] [] (fun r=>r = int (cmpHd x y)):=by
 refine spec_in (cap:=[]) Tryz.func42 rfl rfl Tryz.ntmps42 rfl envZ (fun N β=>?_)
 refine Aa ?_;refine CD ?_; rintro _ _ ⟨b,rfl,rfl⟩;refine CD ?_; rintro _ _ ⟨b,rfl,rfl⟩;refine Abi ?_
 refine A8 (.q 0 (.q 1 (.q 2 (.q 3 (.q 5 (.q 6 (.q 7 (.q 8 (.q 10 (.q 11 (.q 12 (.q 13 (.q 15 (.q 16 (.q 17 (.q 18 (.q 20 (.q 21 (.q 22 (.q 23 (.l 4 .e (.l 9 .e (.l 14 .e (.l 19 .e (.l 24 .e (.l 25 .e (.l 26 .e (.q 27 .nil)))))))))))))))))))))))))))) [] rfl (by kernel_rfl) selZ ?_
 refine Acn ?_;refine Acn ?_;refine Acn ?_;refine Acn ?_;refine Acn ?_
 focus ((refine B7 (CC rfl (cmpI_spec _ _) rfl rfl rdZ rfl rfl ?_); rintro _ rfl))
 focus ((refine B7 (CC rfl (cmpI_spec _ _) rfl rfl rdZ rfl rfl ?_); rintro _ rfl))
 focus ((refine B7 (CC rfl (cmpI_spec _ _) rfl rfl rdZ rfl rfl ?_); rintro _ rfl))
 focus ((refine B7 (CC rfl (cmpI_spec _ _) rfl rfl rdZ rfl rfl ?_); rintro _ rfl))
 focus ((refine B7 (CC rfl (cmpI_spec _ _) rfl rfl rdZ rfl rfl ?_); rintro _ rfl))
 refine BK ?_; rintro _ _ ⟨b,rfl,rfl⟩
 revert b; intro bo
 refine B7 (CC rfl (or_spec (sng bo _) _ [cmpI x.n y.n,cmpI x.a y.a,cmpI x.b y.b,cmpI x.k y.k,cmpI x.s y.s] (slE_sng Eng.encI_len) (by simp)) rfl rfl rdZ rfl rfl ?_)
 rintro _ rfl;refine Adm ?_
 skip
 exact AI (res1 rfl rfl) rsubZ selZ ⟨rfl,rfl⟩
theorem swoT:Go.Sort.SWO (Go.Proofs.ltOf cmpT):=by
 have h:∀ x y,Go.Proofs.ltOf cmpT x y = true ↔ lexT x y:=fun x y=>by unfold Go.Proofs.ltOf; rw [decide_eq_true_eq,cmpT_lt]
 have h2:∀ x y,Go.Proofs.ltOf cmpT x y = false ↔ ¬ lexT x y:=fun x y=>by rw [← h x y,Bool.not_eq_true]
 refine ⟨fun x=>(h2 x x).2 (by unfold lexT; omega),fun x y z a b=>(h x z).2 ?_,fun x y z a b=>(h2 x z).2 ?_⟩
 ·have a:=(h x y).1 a; have b:=(h y z).1 b; unfold lexT at *; omega
 ·have a:=(h2 x y).1 a; have b:=(h2 y z).1 b; unfold lexT at *; omega
theorem swoB:Go.Sort.SWO (Go.Proofs.ltOf cmpBk):=by
 have h:∀ x y,Go.Proofs.ltOf cmpBk x y = true ↔ x.c < y.c ∨ (x.c = y.c ∧ x.a < y.a):=fun x y=>by unfold Go.Proofs.ltOf; rw [decide_eq_true_eq,cmpBk_lt]
 have h2:∀ x y,Go.Proofs.ltOf cmpBk x y = false ↔ ¬ (x.c < y.c ∨ (x.c = y.c ∧ x.a < y.a)):=fun x y=>by rw [← h x y,Bool.not_eq_true]
 refine ⟨fun x=>(h2 x x).2 (by omega),fun x y z a b=>(h x z).2 ?_,fun x y z a b=>(h2 x z).2 ?_⟩
 ·have a:=(h x y).1 a; have b:=(h y z).1 b; omega
 ·have a:=(h2 x y).1 a; have b:=(h2 y z).1 b; omega
theorem swoH:Go.Sort.SWO (Go.Proofs.ltOf cmpHd):=by
 have h:∀ x y,Go.Proofs.ltOf cmpHd x y = true ↔ cmpHd x y < 0:=fun x y=>by unfold Go.Proofs.ltOf; rw [decide_eq_true_eq]
 have h2:∀ x y,Go.Proofs.ltOf cmpHd x y = false ↔ ¬ cmpHd x y < 0:=fun x y=>by unfold Go.Proofs.ltOf; rw [decide_eq_false_iff_not]
 refine ⟨fun x=>(h2 x x).2 (by rw [cmpHd_refl]; omega),fun x y z a b=>(h x z).2 ?_,fun x y z a b=>(h2 x z).2 ?_⟩
 ·exact cmpHd_lt_trans (by have:=(h x y).1 a; omega) ((h y z).1 b)
 ·have a:=(h2 x y).1 a
  have b:=(h2 y z).1 b
  have e1:=cmpHd_neg x y
  have e2:=cmpHd_neg y z
  have e3:=cmpHd_neg x z
  have:=cmpHd_trans (x:=z) (y:=y) (z:=x) (by omega) (by omega)
  omega
instance:Inhabited Bk:=⟨⟨0,0,0,0⟩⟩
instance:Inhabited Hd:=⟨⟨0,0,0,0,0⟩⟩
theorem one_T (x:Int × Int):∀ u ∈ encS x,u.oneCell' = true:=by
 intro u hu
 simp only [encS,List.mem_cons,List.not_mem_nil,or_false] at hu
 rcases hu with rfl | rfl <;> rfl
theorem sortT_spec (σ:PH) (v:Value) (l:List (Int × Int)) (hO:OwnS 173 2 v l.length (l.flatMap encS) σ) (hl:l.length ≤ 1000000) :
  Eng.Spec Tryz.prog (fv 86) [v,fv 87] [] [σ] (fun r H'=>r = .tuple #[] ∧ ∃ (m:List (Int × Int)) (σ':PH),m.Perm l ∧ m.Pairwise (fun x y=>¬ cmpT y x < 0) ∧ OwnS 173 2 v m.length (m.flatMap encS) σ' ∧ H' = [σ']):=
 sortF_of (f:=86) (g:=87) (enc:=encS) (cf:=cmpT) Tryz.func86 rfl rfl Tryz.func87 rfl rfl encS_len
  (fun blk cap d w hc hH hb hs=>Go.Proofs.AnyQ.slices_SortFunc Tryz.layT 2 Tryz.isAgg173 Tryz.sizeOf173 encS encS_len one_T cmpT swoT 87 #[] blk 0 cap d w (Go.Proofs.enters_of Tryz.func87 (by kernel_rfl) rfl) hc hH hb hs)
  (fun p cap w=>Go.Proofs.AnyF.slices_SortFunc_none { Tryz.layT with } p cap (fv 87) w)
  (fun x y=>tickCmp_spec x y) hO (by omega)
theorem sortB_spec (σ:PH) (v:Value) (l:List (Bk)) (hO:OwnS 95 4 v l.length (l.flatMap encB) σ) (hl:l.length ≤ 1000000) :
  Eng.Spec Tryz.prog (fv 39) [v,fv 40] [] [σ] (fun r H'=>r = .tuple #[] ∧ ∃ (m:List (Bk)) (σ':PH),m.Perm l ∧ m.Pairwise (fun x y=>¬ cmpBk y x < 0) ∧ OwnS 95 4 v m.length (m.flatMap encB) σ' ∧ H' = [σ']):=
 sortF_of (f:=39) (g:=40) (enc:=encB) (cf:=cmpBk) Tryz.func39 rfl rfl Tryz.func40 rfl rfl encB_len
  (fun blk cap d w hc hH hb hs=>Go.Proofs.AnyQ.slices_SortFunc Tryz.layB 4 Tryz.isAgg95 Tryz.sizeOf95 encB encB_len one_Bk cmpBk swoB 40 #[] blk 0 cap d w (Go.Proofs.enters_of Tryz.func40 (by kernel_rfl) rfl) hc hH hb hs)
  (fun p cap w=>Go.Proofs.AnyF.slices_SortFunc_none { Tryz.layB with } p cap (fv 40) w)
  (fun x y=>bkCmp_spec x y) hO (by omega)
theorem sortH_spec (σ:PH) (v:Value) (l:List (Hd)) (hO:OwnS 99 5 v l.length (l.flatMap encH) σ) (hl:l.length ≤ 1000000) :
  Eng.Spec Tryz.prog (fv 41) [v,fv 42] [] [σ] (fun r H'=>r = .tuple #[] ∧ ∃ (m:List (Hd)) (σ':PH),m.Perm l ∧ m.Pairwise (fun x y=>¬ cmpHd y x < 0) ∧ OwnS 99 5 v m.length (m.flatMap encH) σ' ∧ H' = [σ']):=
 sortF_of (f:=41) (g:=42) (enc:=encH) (cf:=cmpHd) Tryz.func41 rfl rfl Tryz.func42 rfl rfl encH_len
  (fun blk cap d w hc hH hb hs=>Go.Proofs.AnyQ.slices_SortFunc Tryz.layH 5 Tryz.isAgg99 Tryz.sizeOf99 encH encH_len one_Hd cmpHd swoH 42 #[] blk 0 cap d w (Go.Proofs.enters_of Tryz.func42 (by kernel_rfl) rfl) hc hH hb hs)
  (fun p cap w=>Go.Proofs.AnyF.slices_SortFunc_none { Tryz.layH with } p cap (fv 42) w)
  (fun x y=>hdCmp_spec x y) hO (by omega)
end Go.Proofs.YtjehnjhkcmobcaaGreat
/- Sorted lists with what shipments need; a list of holds that ends where it is too long. No program in sight. No conditions. -/
namespace Go.Step
section
variable {qs:List Int} {cs:List Ct} {bs:List Bk} {hs:List Hd} {l:List Sh} {R bs':List Bk} {hs':List Hd}
theorem bks_strict (h0:chkB qs cs bs = 0) (hE:firstE (rsvE cs bs l) l.length = 0) (rn:R.Nodup) (rm:∀ b,b ∈ R ↔ IsRun (ticksS l) b) (pb:bs'.Perm (bs ++ R)) (hp:bs'.Pairwise (fun x y=>¬ cmpBk y x < 0)) :
    bs'.Pairwise (fun x y=>cmpBk x y < 0):=by
  obtain ⟨a1,a2⟩:=chkB_ok h0
  obtain ⟨f1,_⟩:=rsv_facts hE
  have hok:∀ y ∈ bs',okBk cs y:=fun y hy=>by
    rcases List.mem_append.1 (pb.mem_iff.1 hy) with hy | hy
    · exact bkE_ok a2 y hy
    · exact run_ok (fun x hx=>(f1 x hx).1) ((rm y).1 hy)
  have hdis:∀ x ∈ bs,x ∉ R:=fun x hx hr=>by
    obtain ⟨_,_,_,_,k1,_⟩:=bkE_ok a2 x hx
    obtain ⟨z,hz,e1,e2⟩:=mem_ticks.1 (((rm x).1 hr).2.2.1 x.a (Int.le_refl _) k1)
    have:=(f1 z hz).2
    rw [e1,e2,bookedB_iff.2 ⟨x,hx,rfl,Int.le_refl _,k1⟩] at this
    simp at this
  have hbn:bs.Nodup:=by
    have hpa:=bks_apart a2
    refine hpa.imp_of_mem (fun {x y} hx hy hxy e=>?_)
    subst e
    obtain ⟨_,_,_,_,k1,_⟩:=bkE_ok a2 x hx
    omega
  have hnd:bs'.Nodup:=pb.nodup_iff.2 (List.nodup_append.2 ⟨hbn,rn,fun x hx y hy e=>hdis x hx (e ▸ hy)⟩)
  refine (hp.and hnd).imp_of_mem (fun {x y} hx hy hxy=>?_)
  obtain ⟨g1,g2⟩:=hxy
  rw [cmpBk_lt] at g1 ⊢
  by_cases hc:x.c = y.c ∧ x.a = y.a
  · obtain ⟨_,_,_,_,k1,_⟩:=hok x hx
    obtain ⟨_,_,_,_,k2,_⟩:=hok y hy
    exact absurd (rsv_same a2 (fun x hx=>(f1 x hx).2) rm (pb.mem_iff.1 hx) (pb.mem_iff.1 hy) hc.1 (t:=y.a) (by omega) (by omega) (Int.le_refl _) k2) g2
  · omega
theorem hds_sort {a:List Hd} (h:a.Pairwise (fun x y=>¬ cmpHd y x < 0)):SortH a:=
  h.imp (fun {x y} h=>by have:=cmpHd_neg x y; omega)
theorem rsv_exists (h0:chkB qs cs bs = 0) (hE:firstE (rsvE cs bs l) l.length = 0):∃ R bs1 hs1,RsvOK qs cs bs hs l R bs1 hs1:=by
  obtain ⟨f1,f2⟩:=rsv_facts hE
  obtain ⟨R,rn,rm⟩:=runs_exist (ticks_nodup f2)
  have p1:=List.pairwise_mergeSort (le:=fun x y:Bk=>decide (¬ cmpBk y x < 0)) (by
    intro a b c h1 h2
    simp only [decide_eq_true_eq,cmpBk_lt] at *
    omega) (by
    intro a b
    simp only [Bool.or_eq_true,decide_eq_true_eq,cmpBk_lt]
    omega) (bs ++ R)
  have p2:=List.pairwise_mergeSort (le:=fun x y:Hd=>decide (¬ cmpHd y x < 0)) (by
    intro a b c h1 h2
    simp only [decide_eq_true_eq] at *
    have e1:=cmpHd_neg a b
    have e2:=cmpHd_neg b c
    have e3:=cmpHd_neg a c
    have:=cmpHd_trans (x:=a) (y:=b) (z:=c) (by omega) (by omega)
    omega) (by
    intro a b
    simp only [Bool.or_eq_true,decide_eq_true_eq]
    have e1:=cmpHd_neg a b
    omega) (hs ++ holdsA cs l qs.length)
  have q1:=List.mergeSort_perm (bs ++ R) (fun x y:Bk=>decide (¬ cmpBk y x < 0))
  have q2:=List.mergeSort_perm (hs ++ holdsA cs l qs.length) (fun x y:Hd=>decide (¬ cmpHd y x < 0))
  exact ⟨R,_,_,⟨rn,rm,q1,bks_strict h0 hE rn rm q1 (p1.imp (fun h=>of_decide_eq_true h)),q2,hds_sort (p2.imp (fun h=>of_decide_eq_true h))⟩⟩
end
def TruncH (m:Nat) (O T:List Hd) (many:Bool):Prop:=(many = false ∧ O = T ∧ m + O.length ≤ 512) ∨ (many = true ∧ 512 < m + O.length ∧ O.length ≤ 513 ∧ O.length ≤ T.length)
theorem TruncH.nil {m:Nat} (h:m ≤ 512):TruncH m [] [] false:=.inl ⟨rfl,rfl,by simpa using h⟩
theorem TruncH.push {m:Nat} {O T:List Hd} (x:Hd) (h:TruncH m O T false):TruncH m (O ++ [x]) (T ++ [x]) (decide (512 < m + (O.length + 1))):=by
  rcases h with ⟨_,rfl,h1⟩ | ⟨h,_⟩
  · by_cases c:512 < m + (O.length + 1)
    · rw [decide_eq_true c]
      refine .inr ⟨rfl,?_,?_,?_⟩ <;> rw [List.length_append,List.length_singleton] <;> omega
    · rw [decide_eq_false c]
      refine .inl ⟨rfl,rfl,?_⟩;rw [List.length_append,List.length_singleton];omega
  · simp at h
theorem TruncH.len {m:Nat} {O T:List Hd} {b:Bool} (h:TruncH m O T b):O.length ≤ 513:=by
  rcases h with ⟨_,rfl,h1⟩ | ⟨_,h1,h2,h3⟩ <;> omega
theorem TruncH.short {m:Nat} {O T:List Hd} (h:TruncH m O T false):O.length ≤ 512:=by
  rcases h with ⟨_,rfl,h1⟩ | ⟨h,_⟩
  · omega
  · simp at h
theorem pieces_snoc (n a b s:Int) (k:Nat):pieces n a b s (k + 1) = pieces n a b s k ++ [⟨n,a,b,min (s - 65536 * k) 65536,0⟩]:=by
  unfold pieces;rw [List.range_succ,List.map_append]
  rfl
theorem pieces_zero (n a b s:Int):pieces n a b s 0 = []:=rfl
theorem pieceN_end {s:Int} {k:Nat} (hk:k ≤ pieceN s) (h:¬ 0 < s - 65536 * k):k = pieceN s:=by
  unfold pieceN at *;omega
theorem pieceN_lt {s:Int} {k:Nat} (h:0 < s - 65536 * k):k + 1 ≤ pieceN s:=by
  unfold pieceN;omega
def holdsT (n:Int) (L:List ((Int × Int) × Int)):List Hd:=L.flatMap (fun p=>pieces n p.1.1 p.1.2 p.2 (pieceN p.2))
theorem holdsT_snoc (n:Int) (L:List ((Int × Int) × Int)) (k:Nat) (h:k < L.length):holdsT n (L.take (k + 1)) = holdsT n (L.take k) ++ pieces n L[k].1.1 L[k].1.2 L[k].2 (pieceN L[k].2):=by
  unfold holdsT;rw [List.take_succ_eq_append_getElem h,List.flatMap_append]
  simp
theorem holdsA_even {cs:List Ct} {l:List Sh} {k:Nat} (h:netS cs k l = 0):holdsA cs l (k + 1) = holdsA cs l k ++ holdsT k (spL (lvN cs k l)):=by
  show holdsA cs l k ++ _ = _
  rw [if_pos h]
  rfl
theorem pieces_len (n a b s:Int) (k:Nat):(pieces n a b s k).length = k:=by
  unfold pieces;rw [List.length_map,List.length_range]
theorem TruncH.more {m:Nat} {O T T':List Hd} (h:TruncH m O T true) (hl:T.length ≤ T'.length):TruncH m O T' true:=by
  rcases h with ⟨h,_⟩ | ⟨_,h1,h2,h3⟩
  · simp at h
  · exact .inr ⟨rfl,h1,h2,by omega⟩
theorem holdsA_odd {cs:List Ct} {l:List Sh} {k:Nat} (h:netS cs k l ≠ 0):holdsA cs l (k + 1) = holdsA cs l k:=by
  show holdsA cs l k ++ _ = _
  rw [if_neg h,List.append_nil]
end Go.Step
/- The holds of shipments. -/
namespace Go.Proofs.YtjehnjhkcmobcaaGreat
open Go.Eng Go.Step
set_option maxRecDepth 100000
set_option maxHeartbeats 4000000

set_option maxHeartbeats 64000000 in
theorem holds_spec {ρ τ σ υ:PH} (ω:PH) {pq pc pb ph:Option Addr} {kq kc kb kh:Nat} {qs:List Int} {cs:List Ct} {bs:List Bk} {hs:List Hd} (hT:TbAt ρ τ σ υ pq pc pb ph kq kc kb kh qs cs bs hs) (v:Value) (l:List Sh) (hv:ShAt ω v l) (hll:l.length ≤ 500000) (hok:∀ x ∈ l,ShB cs x) (hnh:hs.length ≤ 512) (hnq:qs.length ≤ 1000) :
  Eng.Spec Tryz.prog (fv 35) [.agg #[.slice pq qs.length kq,.slice pc cs.length kc,.slice pb bs.length kb,.slice ph hs.length kh],v] [ρ,τ,σ,υ,ω] [] (fun r H'=>∃ u e χ,r = .tuple #[u,int e] ∧ H' = [χ] ∧ ((negA cs qs.length l ∧ e = 24) ∨ (¬ negA cs qs.length l ∧ 512 < hs.length + (holdsA cs l qs.length).length ∧ e = 4) ∨ (¬ negA cs qs.length l ∧ hs.length + (holdsA cs l qs.length).length ≤ 512 ∧ e = 0 ∧ OwnS 99 5 u (holdsA cs l qs.length).length ((holdsA cs l qs.length).flatMap encH) χ))):=by
 have hql:=hT.lq
 refine spec_in (cap:=[]) Tryz.func35 rfl rfl Tryz.ntmps35 rfl envZ (fun N β=>?_)
 refine Aa ?_;refine BH (BM rfl) rfl rfl rfl ?_;rintro _ _ ⟨b1,rfl,rfl⟩;refine AT (ρ:=sng b1 _) takeZ ?_
 have ct:=rdB b1 29 [.slice pq qs.length kq,.slice pc cs.length kc,.slice pb bs.length kb,.slice ph hs.length kh]
 have ct0:=rdC ct 0
 have ct1:=rdC ct 1
 have ct2:=rdC ct 2
 have ct3:=rdC ct 3
 have ctp:RdP (sng b1 (.cells #[.slice pq qs.length kq,.slice pc cs.length kc,.slice pb bs.length kb,.slice ph hs.length kh] 29 (0,0))) b1 0 [.slice pq qs.length kq,.slice pc cs.length kc]:=rdP_sng (xs:=[.slice pq qs.length kq,.slice pc cs.length kc,.slice pb bs.length kb,.slice ph hs.length kh]) rfl
 refine BY ?_;refine Aan ?_;refine Aak ?_;refine Aak ?_;refine AC ?_;refine Aci ?_;refine Ac ?_;refine Abd ?_
 refine BA [1,2,20] (X:=Nat × List Hd × Bool × Value × PH) (0,[],false,.slice none 0 0,emp) (fun x=>x.1 ≤ qs.length ∧ (∀ m:Nat,m < x.1 → negN cs m l = false) ∧ TruncH hs.length x.2.1 (holdsA cs l x.1) x.2.2.1 ∧ OwnS 99 5 x.2.2.2.1 x.2.1.length (x.2.1.flatMap encH) x.2.2.2.2) (fun x=>[(21,int x.1),(6,x.2.2.2.1),(7,.bool x.2.2.1)]) (fun x=>[x.2.2.2.2]) (fun x=>qs.length - x.1) pickZ ⟨by dsimp only; omega,by intro m hm; dsimp only at hm; omega,TruncH.nil hnh,OwnS.nil _ _⟩ covZ selZ ?_
 rintro ⟨k,O,mny,u,χ⟩ ⟨hk,hng,hTr,hO⟩
 dsimp only at hk hng hTr hO ⊢
 by_cases hlt:k < qs.length
 rotate_left
 ·have hke:k = qs.length:=by omega
  rw [hke] at hTr hng
  have hnA:¬ negA cs qs.length l:=fun ⟨n,h1,h2⟩=>by rw [hng n h1] at h2; simp at h2
  cases mny with
  | true =>
   rcases hTr with ⟨h,_⟩ | ⟨_,h1,h2,h3⟩
   ·simp at h
   refine Abl ?_;refine Aai ?_;refine Aah ?_;refine Acj ?_
   exact AI (res2 rfl rfl rfl) rsubZ selZ ⟨_,4,χ,rfl,rfl,.inr (.inl ⟨hnA,by omega,rfl⟩)⟩
  | false =>
   rcases hTr with ⟨_,rfl,h1⟩ | ⟨h,_⟩
   rotate_left
   ·simp at h
   refine Abl ?_;refine Aai ?_;refine Aaj ?_;refine Adf ?_;exact AI (res2 rfl rfl rfl) rsubZ selZ ⟨_,0,χ,rfl,rfl,.inr (.inr ⟨hnA,h1,rfl,hO⟩)⟩
 have hOl:=hTr.len
 refine Aa3 ?_;refine Abs ?_;refine Abp ?_;refine Aa1 ?_
 refine BC (changes_spec ω hT v l (k:Int) hv (by omega) hok) rfl rfl Takes.nil rdZ rfl rfl ?_
 rintro _ _ ⟨bm,m,rfl,rfl,hE⟩
 by_cases hz:netS cs (k:Int) l = 0
 rotate_left
 ·rw [decide_eq_false hz]
  have hn1:negN cs (k:Int) l = false:=by unfold negN; rw [decide_eq_false hz,Bool.false_and]
  have hod:=holdsA_odd hz
  refine Acc ?_;refine Ad1 ?_;refine A6 rfl ?_;refine AA ?_;refine Aaz ?_
  exact AX (k + 1,O,mny,u,χ) ⟨by dsimp only; omega,fun m hm=>by dsimp only at hm; rcases Nat.lt_succ_iff_lt_or_eq.1 hm with h | rfl; exact hng m h; exact hn1,by dsimp only; rw [hod]; exact hTr,hO⟩ (by dsimp only; omega) covZ selZ
 rw [decide_eq_true hz]
 have hev:=holdsA_even hz
 refine Acc ?_;refine Acb ?_;refine Aad ?_;refine BC (intervals_spec cs (k:Int) l bm m hE hok hll) rfl rfl Takes.nil rdZ rfl rfl ?_;rintro _ _ ⟨u1,u2,okk,σ1,σ2,rfl,rfl,⟨rfl,y,hy,hneg⟩ | ⟨rfl,hnn,hO1,hO2⟩⟩
 ·have hn1:negN cs (k:Int) l = true:=by
   unfold negN;rw [decide_eq_true hz,Bool.true_and,List.any_eq_true];exact ⟨y,hy,decide_eq_true hneg⟩
  refine Abe ?_;refine AP ?_;refine Acf ?_;refine Aai ?_;refine Ad1 ?_;refine Acj ?_;exact AI (res2 rfl rfl rfl) rsubZ selZ ⟨_,24,χ,rfl,rfl,.inl ⟨⟨k,hlt,hn1⟩,rfl⟩⟩
 have hn1:negN cs (k:Int) l = false:=by
  unfold negN;rw [decide_eq_true hz,Bool.true_and,List.any_eq_false]
  intro y hy
  have:=hnn y hy
  simp
  omega
 have hLl:=spL_len (lvN cs (k:Int) l)
 have hll2:=lvN_len cs (k:Int) l
 have hLv:∀ p ∈ spL (lvN cs (k:Int) l),0 < p.2 ∧ p.2 ≤ 1000000000:=fun p hp=>by
  obtain ⟨q1,q2,q3,⟨y,hy,e1,e2⟩,_⟩:=spL_low (p:=-1000000000000000) (lvN_ok cs (k:Int) l).1 (fun y hy=>by
   have h1:=(((lvN_ok cs (k:Int) l).2.1 y).1 hy).2
   have h3:y.a ∈ evsN cs (k:Int) l:=Classical.not_not.1 (fun h=>h1 (chg_evs h))
   obtain ⟨x,hx,⟨_,h4⟩ | ⟨_,h4⟩⟩:=mem_evsN.1 h3
   ·obtain ⟨c,_,_,_,h5,_⟩:=hok x hx
    omega
   ·obtain ⟨c,_,h8,_,h5,_,h6⟩:=hok x hx
    rw [h4];unfold arrOf;rw [h8]
    omega) p hp
  have h1:=(((lvN_ok cs (k:Int) l).2.1 y).1 hy).1
  have h2:=haveS_bd cs (k:Int) y.a l (fun z hz=>(hok z hz).n)
  omega
 have hI1:SlE encS 2 σ1 u1 ((spL (lvN cs (k:Int) l)).map (fun p=>p.1)):=hO1.at
 have hI2:IntsAt σ2 u2 ((spL (lvN cs (k:Int) l)).map (fun p=>p.2)):=hO2.at
 obtain ⟨pu1,ku1,rfl⟩:=hO1.form
 obtain ⟨pu2,ku2,rfl⟩:=hO2.form
 have hr1:=rowN encS_len hI1
 have hr2:=rowN Eng.encI_len hI2
 generalize hL:spL (lvN cs (k:Int) l) = Ls at hev hO1 hO2 hLl hLv hI1 hI2 hr1 hr2
 have e1:(Ls.map (fun p=>p.1)).length = Ls.length:=List.length_map _
 have e2:(Ls.map (fun p=>p.2)).length = Ls.length:=List.length_map _
 rw [e1,e2];refine Abe ?_;refine AP ?_;refine Acf ?_;refine Aai ?_;refine Acb ?_;refine Aad ?_;refine Ada ?_
 refine BA [1,2,8,12,20,21,41,42] (X:=Nat × List Hd × Bool × Value × PH) (0,O,mny,u,χ) (fun x=>x.1 ≤ Ls.length ∧ TruncH hs.length x.2.1 (holdsA cs l k ++ holdsT (k:Int) (Ls.take x.1)) x.2.2.1 ∧ OwnS 99 5 x.2.2.2.1 x.2.1.length (x.2.1.flatMap encH) x.2.2.2.2) (fun x=>[(43,int x.1),(6,x.2.2.2.1),(7,.bool x.2.2.1)]) (fun x=>[σ1,σ2,x.2.2.2.2]) (fun x=>Ls.length - x.1) pickZ ⟨by dsimp only; omega,by dsimp only; rw [List.take_zero]; show TruncH _ _ (_ ++ []) _; rw [List.append_nil]; exact hTr,hO⟩ covZ selZ ?_
 rintro ⟨i,O1,mny1,w1,χ1⟩ ⟨hi,hTr1,hO3⟩
 dsimp only at hi hTr1 hO3 ⊢
 by_cases hil:i < Ls.length
 rotate_left
 ·have hie:i = Ls.length:=by omega
  rw [hie,List.take_length,← hev] at hTr1;refine Abl ?_;refine Aa0 ?_
  exact AX (k + 1,O1,mny1,w1,χ1) ⟨by dsimp only; omega,fun m hm=>by dsimp only at hm; rcases Nat.lt_succ_iff_lt_or_eq.1 hm with h | rfl; exact hng m h; exact hn1,hTr1,hO3⟩ (by dsimp only; omega) covZ selZ
 have hx:=List.getElem?_eq_getElem hil
 have hsn:=holdsT_snoc (k:Int) Ls i hil
 have hxv:=hLv _ (List.getElem_mem hil)
 obtain ⟨b3,o3,rfl,hrd3,hq0,hq1⟩:=spRow hr1 (show (Ls.map (fun p=>p.1))[i]? = some Ls[i].1 by rw [List.getElem?_map,hx]; rfl)
 obtain ⟨b4,o4,rfl,g4⟩:=hr2.int (show (Ls.map (fun p=>p.2))[i]? = some Ls[i].2 by rw [List.getElem?_map,hx]; rfl)
 generalize Ls[i] = x at hx hsn hxv hrd3 hq0 hq1 g4
 obtain ⟨⟨xa,xb⟩,sz⟩:=x
 dsimp only at hsn hxv hrd3 hq0 hq1 g4
 refine Ado ?_;refine AY ?_; rintro _ _ ⟨b,rfl,rfl⟩;refine AD ?_;refine AU ?_; rintro _ _ ⟨rfl,rfl⟩;refine AE ?_;refine Abn ?_;refine Abx ?_;refine Aaa ?_;refine AO ?_
 revert b; intro b15
 skip
 refine BA [1,2,8,12,15,20,21,41,42,43] (X:=Nat × List Hd × Bool × Value × PH) (0,O1,mny1,w1,χ1) (fun x=>x.1 ≤ pieceN sz ∧ TruncH hs.length x.2.1 (holdsA cs l k ++ holdsT (k:Int) (Ls.take i) ++ pieces (k:Int) xa xb sz x.1) x.2.2.1 ∧ OwnS 99 5 x.2.2.2.1 x.2.1.length (x.2.1.flatMap encH) x.2.2.2.2) (fun x=>[(16,int (sz - 65536 * (x.1:Int))),(6,x.2.2.2.1),(7,.bool x.2.2.1)]) (fun x=>[sng b15 (.cells #[int xa,int xb] 152 (0,0)),σ1,σ2,x.2.2.2.2]) (fun x=>pieceN sz - x.1) pickZ ⟨by dsimp only; omega,by dsimp only; rw [pieces_zero,List.append_nil]; exact hTr1,hO3⟩ (by dsimp only; rw [show sz - 65536 * ((0:Nat):Int) = sz by omega]; exact covZ) selZ ?_
 rintro ⟨j,O2,mny2,w2,χ2⟩ ⟨hj,hTr2,hO4⟩
 dsimp only at hj hTr2 hO4 ⊢
 have hpb:=(pieceN_ok hxv.1).1
 by_cases hpos:0 < sz - 65536 * (j:Int)
 rotate_left
 ·have hje:=pieceN_end hj hpos
  rw [hje,List.append_assoc,← hsn] at hTr2;refine Aai ?_;refine B0 ?_;refine Aay ?_;refine AJ ?_;refine Ac3 ?_;refine Aa0 ?_
  exact AX (i + 1,O2,mny2,w2,χ2) ⟨by dsimp only; omega,hTr2,hO4⟩ (by dsimp only; omega) covZ selZ
 cases mny2 with
 | true =>
  have hTr3:TruncH hs.length O2 (holdsA cs l k ++ holdsT (k:Int) (Ls.take (i + 1))) true:=hTr2.more (by
   rw [hsn];simp only [List.length_append,pieces_len]
   omega)
  refine Aai ?_;refine CQ ?_;refine Aa1 ?_;refine BE ?_;refine AN ?_;refine Ac3 ?_;refine Aa0 ?_
  exact AX (i + 1,O2,true,w2,χ2) ⟨by dsimp only; omega,hTr3,hO4⟩ (by dsimp only; omega) covZ selZ
 | false =>
 have hO2l:=hTr2.short
 have hj1:=pieceN_lt hpos
 have hps:=hTr2.push ⟨(k:Int),xa,xb,min (sz - 65536 * (j:Int)) 65536,0⟩
 rw [List.append_assoc,← pieces_snoc] at hps;refine Aai ?_;refine CQ ?_;refine Aa1 ?_;refine BE ?_;refine AN ?_;refine Acm ?_;refine Aad ?_;refine Aa5 ?_;refine AB ?_;refine FH ?_;refine BR ?_;refine BD ?_; rintro _ _ ⟨b,rfl,rfl⟩
 refine BH (B8 (by_:=40) (s:=5) (news:=[int (k:Int),int xa,int xb,int (min (sz - 65536 * (j:Int)) 65536),int 0]) rfl rfl rfl rfl rfl rfl rfl hO4 takeZ (cells_own memZ) rfl (by (repeat (first | exact (fun v hv=>absurd hv List.not_mem_nil) | (refine List.forall_mem_cons.2 ⟨?_,?_⟩; (focus (first | exact rfl | assumption))))); first | done | fail) (by omega) (by simp only [maxLen]; omega) (by omega)) rfl rfl rfl ?_
 rintro u3 _ ⟨σ3,hO5,rfl⟩
 obtain ⟨p3,k3,rfl⟩:=hO5.form
 have hgoal:OwnS 99 5 (.slice p3 (O2.length + 1) k3) (O2 ++ [(⟨(k:Int),xa,xb,min (sz - 65536 * (j:Int)) 65536,0⟩:Hd)]).length ((O2 ++ [(⟨(k:Int),xa,xb,min (sz - 65536 * (j:Int)) 65536,0⟩:Hd)]).flatMap encH) σ3:=by
  rw [List.length_append,List.flatMap_append];exact hO5
 by_cases hc:512 < hs.length + (O2.length + 1)
 ·rw [decide_eq_true hc] at hps
  refine Aaa ?_;refine AA ?_;refine Ac ?_;refine Abv ?_;refine CG ?_;refine CQ ?_;refine Aaa ?_;refine Aca ?_;refine CN ?_;refine Aaa ?_
  refine AX (j + 1,O2 ++ [(⟨(k:Int),xa,xb,min (sz - 65536 * (j:Int)) 65536,0⟩:Hd)],true,.slice p3 (O2.length + 1) k3,σ3) ⟨by dsimp only; omega,hps,hgoal⟩ (by dsimp only; omega) ?_ selZ
  dsimp only
  rw [show sz - 65536 * ((j + 1:Nat):Int) = sz - 65536 * (j:Int) - 65536 by omega]
  exact covZ
 ·rw [decide_eq_false hc] at hps
  refine Aaa ?_;refine AA ?_;refine Ac ?_;refine Abv ?_;refine CG ?_;refine B0 ?_;refine Aaa ?_;refine Aca ?_;refine CN ?_;refine Aaa ?_
  refine AX (j + 1,O2 ++ [(⟨(k:Int),xa,xb,min (sz - 65536 * (j:Int)) 65536,0⟩:Hd)],false,.slice p3 (O2.length + 1) k3,σ3) ⟨by dsimp only; omega,hps,hgoal⟩ (by dsimp only; omega) ?_ selZ
  dsimp only
  rw [show sz - 65536 * ((j + 1:Nat):Int) = sz - 65536 * (j:Int) - 65536 by omega]
  exact covZ
end Go.Proofs.YtjehnjhkcmobcaaGreat
/- Capacity and Value, of the program and of the reference. -/
namespace Go.Proofs.YtjehnjhkcmobcaaGreat
open Go.Eng Go.Flow
set_option maxRecDepth 100000
set_option maxHeartbeats 4000000

theorem capFun_eq (n:Nat) (side:List Int) (l:List Arc) (hok:∀ a ∈ l,okArc n a = true):capOf (fun j=>(marksOf n side).getD j false) l = capOf (fun j=>decide ((j:Int) ∈ side)) l:=by
 induction l with
 | nil=>rfl
 | cons a l ih =>
  obtain ⟨g1,g2,g3,g4,g5,g6,g7⟩:=okArc_iff.1 (hok a (by simp))
  simp only [capOf]
  rw [ih (fun b hb=>hok b (by simp [hb]))]
  have e1:(marksOf n side).getD a.f.toNat false = decide ((a.f.toNat:Int) ∈ side):=by
   rw [List.getD_eq_getElem?_getD,marksOf_get (by omega)]; rfl
  have e2:(marksOf n side).getD a.t.toNat false = decide ((a.t.toNat:Int) ∈ side):=by
   rw [List.getD_eq_getElem?_getD,marksOf_get (by omega)]; rfl
  simp only [e1,e2]

theorem flowCapacity_spec (ρ σ:PH) (v u:Value) (n:Int) (l:List Arc) (side:List Int) (hv:ArcsAt ρ v l) (hu:IntsAt σ u side) (hl:l.length ≤ 1000000) (hm:side.length ≤ 1000000) :
  Ans Tryz.prog (fv 69) [int n,v,u] [ρ,σ] (fun r=>r = .tuple #[int (capacitySpec n l side).1,int (capacitySpec n l side).2]):=by
 obtain ⟨q2,c2,rfl,hr2⟩:=hu.val Eng.encI_len
 refine spec_in (cap:=[]) Tryz.func69 rfl rfl Tryz.ntmps69 rfl envZ (fun N β=>?_)
 refine Acj ?_;refine Ad ?_
 focus ((refine A3 (check_spec ρ v n l hv hl) rfl rfl rdZ rfl rfl ?_; rintro _ rfl))
 refine Aa8 ?_
 by_cases hc:chk n l = 0
 rotate_left
 ·refine CK ?_
  refine Aah ?_;refine Adf ?_;refine AI (res2 rfl rfl rfl) rsubZ selZ ⟨rfl,?_⟩;unfold capacitySpec; rw [if_pos hc]
 obtain ⟨a1,a2,a3,hok⟩:=chk_ok hc
 obtain ⟨n,rfl⟩:=Int.eq_ofNat_of_zero_le a1
 refine Abb ?_;refine Aad ?_;refine FJ ?_; rintro _ _ ⟨b,rfl,rfl⟩;refine Ad5 ?_;rw [← marksOf_nil]
 refine BA [0,1,2,9,20,21] (0:Nat) (fun k=>k ≤ side.length ∧ sideChk n none side = sideChk n (prevAt side k) (side.drop k)) (fun k=>[(22,int k)]) (fun k=>[sng b (.cells (bools (marksOf n (side.take k))) 4 (0,0))]) (fun k=>side.length - k) pickZ ⟨by omega,by simp [prevAt]⟩ covZ selZ ?_
 rintro k ⟨hk,hy⟩
 have hml:=marksOf_len n (side.take k)
 by_cases hlt:k < side.length
 ·obtain ⟨b2,o2,rfl,g1⟩:=hr2.int (List.getElem?_eq_getElem hlt)
  have g2:1 ≤ k → rdc σ b2 (o2 + (k - 1)) = some (int side[k - 1]):=fun h=>by
   obtain ⟨b3,o3,e,g⟩:=hr2.int (List.getElem?_eq_getElem (show k - 1 < side.length by omega))
   simp only [Option.some.injEq,Addr.mk.injEq,and_true] at e;rw [e.1,e.2]; exact g
  have hin:0 ≤ side[k] ∧ side[k] < (n:Int) ∨ side[k] < 0 ∨ (n:Int) ≤ side[k]:=by omega
  rcases hin with hin | hin
  ·have hpv:k = 0 ∨ (1 ≤ k ∧ side[k] ≤ side[k - 1]) ∨ (1 ≤ k ∧ side[k - 1] < side[k]):=by omega
   have hpa:1 ≤ k → prevAt side k = some side[k - 1]:=fun h=>by
    obtain ⟨j,rfl⟩:∃ j,k = j + 1:=⟨k - 1,by omega⟩
    simp [prevAt]
   obtain ⟨x,hx⟩:=Int.eq_ofNat_of_zero_le hin.1
   rcases hpv with rfl | ⟨h1,h2⟩ | ⟨h1,h2⟩
   ·have hst:=sideChk_step (n:=n) hlt hin.1 hin.2 (by simp [prevAt])
    rw [hx] at g1 hin;refine Ab3 ?_;refine Abx ?_;refine Aan ?_;refine Ad ?_
    focus ((refine A3 (inside_spec _ _) rfl rfl rdZ rfl rfl ?_; rintro v (⟨rfl,h⟩ | ⟨rfl,h⟩); rotate_left; (focus (exfalso; omega))))
    refine Acb ?_;refine Aai ?_;refine B0 ?_;refine Abg ?_;refine Aam ?_;refine Abh ?_;refine Acv ?_;refine B9 ?_;refine DP ?_; rintro _ _ ⟨rfl,rfl⟩;refine Adj ?_
    refine AX 1 ⟨by omega,by rw [hy,hst]⟩ (by omega) covZ ?_
    rw [take_snoc' hlt,hx,marksOf_snoc];exact selZ
   ·have hst:=sideChk_nine (n:=n) hlt hin.1 hin.2 (hpa h1) h2
    have hcs:capacitySpec n l side = (0,9):=by
     unfold capacitySpec
     rw [if_neg (by rw [hc]; simp),hy,hst,if_pos (by simp)]
    have g3:=g2 h1
    rw [hx] at g1 hin h2;refine Ab3 ?_;refine Abx ?_;refine Aan ?_;refine Ad ?_
    focus ((refine A3 (inside_spec _ _) rfl rfl rdZ rfl rfl ?_; rintro v (⟨rfl,h⟩ | ⟨rfl,h⟩); rotate_left; (focus (exfalso; omega))))
    refine Acb ?_;refine Aai ?_;refine CQ ?_;refine Aa1 ?_;refine Aa1 ?_;refine DH ?_;refine Abx ?_;refine CU ?_;refine AN ?_;refine Aah ?_;refine Acj ?_
    exact AI (res2 rfl rfl rfl) rsubZ selZ ⟨rfl,by rw [hcs]⟩
   ·have hst:=sideChk_step (n:=n) hlt hin.1 hin.2 (fun p hp=>by rw [hpa h1] at hp; simp at hp; omega)
    have g3:=g2 h1
    rw [hx] at g1 hin h2;refine Ab3 ?_;refine Abx ?_;refine Aan ?_;refine Ad ?_
    focus ((refine A3 (inside_spec _ _) rfl rfl rdZ rfl rfl ?_; rintro v (⟨rfl,h⟩ | ⟨rfl,h⟩); rotate_left; (focus (exfalso; omega))))
    refine Acb ?_;refine Aai ?_;refine CQ ?_;refine Aa1 ?_;refine Aa1 ?_;refine DH ?_;refine Abx ?_;refine CZ ?_;refine AN ?_;refine Aaj ?_;refine Acv ?_;refine B9 ?_;refine DP ?_; rintro _ _ ⟨rfl,rfl⟩;refine Adj ?_
    refine AX (k + 1) ⟨by omega,by rw [hy,hst]⟩ (by omega) covZ ?_
    rw [take_snoc' hlt,hx,marksOf_snoc];exact selZ
  ·have hst:=sideChk_two (n:=n) (prevAt side k) hlt hin
   have hcs:capacitySpec n l side = (0,2):=by
    unfold capacitySpec
    rw [if_neg (by rw [hc]; simp),hy,hst,if_pos (by simp)]
   refine Ab3 ?_;refine Abx ?_;refine Aan ?_;refine Ad ?_
   focus ((refine A3 (inside_spec _ _) rfl rfl rdZ rfl rfl ?_; rintro v (⟨rfl,h⟩ | ⟨rfl,h⟩); (focus (exfalso; omega))))
   refine Ad1 ?_;refine Acj ?_
   exact AI (res2 rfl rfl rfl) rsubZ selZ ⟨rfl,by rw [hcs]⟩
 ·obtain rfl:k = side.length:=by omega
  rw [List.take_length] at hml;rw [List.take_length];refine Abl ?_;refine Abn ?_
  focus ((refine A3 (capacity_spec ρ v n b n 4 l (marksOf n side) hv (by omega) hok hml) rfl rfl rdZ rfl rfl ?_; rintro _ rfl))
  refine Aan ?_;refine AI (res2 rfl rfl rfl) rsubZ selZ ⟨rfl,?_⟩;unfold capacitySpec
  rw [if_neg (by rw [hc]; simp),hy,List.drop_length]
  rw [if_neg (by simp [sideChk]),capFun_eq n side l hok]

end Go.Proofs.YtjehnjhkcmobcaaGreat
/- Value, of the program and of the reference. -/
namespace Go.Proofs.YtjehnjhkcmobcaaGreat
open Go.Eng Go.Flow
set_option maxRecDepth 100000
set_option maxHeartbeats 4000000

theorem balanced_of {n:Nat} {l:List Arc} {fl:List Int} {s t:Int} (h:∀ v:Nat,v < n → (v:Int) = s ∨ (v:Int) = t ∨ fval v l fl = 0):balanced n l fl s t = true:=by
 unfold balanced;rw [List.all_eq_true]
 intro v hv
 rw [decide_eq_true_eq]
 exact h v (by simpa using hv)
theorem balanced_not {n:Nat} {l:List Arc} {fl:List Int} {s t:Int} {v:Nat} (hv:v < n) (h1:(v:Int) ≠ s) (h2:(v:Int) ≠ t) (h3:fval v l fl ≠ 0):balanced n l fl s t = false:=by
 cases h:balanced n l fl s t with
 | false=>rfl
 | true =>
  unfold balanced at h;rw [List.all_eq_true] at h
  have:=h v (by simpa using hv)
  rw [decide_eq_true_eq] at this
  exact absurd this (by simp [h1,h2,h3])
theorem inCap_take_false {l:List Arc} {fl:List Int} {k:Nat} (hk:k < l.length) (hfl:fl.length = l.length) (h:¬ (0 ≤ fl[k] ∧ fl[k] ≤ l[k].c)):inCap l fl = false:=by
 cases hc:inCap l fl with
 | false=>rfl
 | true=>exact absurd (inCap_get l fl hc k l[k] fl[k] (List.getElem?_eq_getElem hk) (List.getElem?_eq_getElem (by omega))) h

theorem flowValue_spec (ρ σ:PH) (v u:Value) (n s t:Int) (l:List Arc) (fl:List Int) (hv:ArcsAt ρ v l) (hu:IntsAt σ u fl) (hl:l.length ≤ 1000000) :
    Ans Tryz.prog (fv 71) [int n,v,u,int s,int t] [ρ,σ] (fun r=>r = .tuple #[int (valueSpec n l fl s t).1,int (valueSpec n l fl s t).2]):=by
  obtain ⟨q,c,rfl,hr⟩:=hv.val encA_len
  obtain ⟨q2,c2,rfl,hr2⟩:=hu.val Eng.encI_len
  refine spec_in (cap:=[]) Tryz.func71 rfl rfl Tryz.ntmps71 rfl envZ (fun N β=>?_)
  refine Acj ?_;refine Ad ?_
  focus ((refine A3 (check_spec ρ _ n l hv hl) rfl rfl rdZ rfl rfl ?_; rintro _ rfl))
  refine Aa8 ?_
  by_cases hc:chk n l = 0
  rotate_left
  · refine CK ?_
    refine Aah ?_;refine Adf ?_;refine AI (res2 rfl rfl rfl) rsubZ selZ ⟨rfl,?_⟩;unfold valueSpec; rw [if_pos hc]
  obtain ⟨a1,a2,a3,hok⟩:=chk_ok hc
  obtain ⟨n,rfl⟩:=Int.eq_ofNat_of_zero_le a1
  by_cases he:okEnds n s t = true
  rotate_left
  · have he':okEnds n s t = false:=by simpa using he
    refine Abb ?_;refine Aai ?_;refine Aa1 ?_
    focus ((refine A3 (ends_spec n s t) rfl rfl rdZ rfl rfl ?_; rintro _ rfl; rw [he',if_neg (by simp)]))
    refine Aej ?_;refine Adf ?_;refine AI (res2 rfl rfl rfl) rsubZ selZ ⟨rfl,?_⟩
    unfold valueSpec; rw [if_neg (by rw [hc]; simp),if_pos he']
  obtain ⟨s1,s2,t1,t2,st⟩:=okEnds_iff.1 he
  refine Abb ?_;refine Aai ?_;refine Aa1 ?_
  focus ((refine A3 (ends_spec n s t) rfl rfl rdZ rfl rfl ?_; rintro _ rfl; rw [he,if_pos rfl]))
  refine Ad4 ?_;refine Aeu ?_
  by_cases hfl:fl.length = l.length
  rotate_left
  · refine CK ?_
    refine Aah ?_;refine Acj ?_;refine AI (res2 rfl rfl rfl) rsubZ selZ ⟨rfl,?_⟩
    unfold valueSpec; rw [if_neg (by rw [hc]; simp),if_neg (by rw [he]; simp),if_pos hfl]
  refine Abb ?_;refine Aad ?_;refine D3 ?_; rintro _ _ ⟨b,rfl,rfl⟩;refine Ad5 ?_
  rw [show List.replicate n (0:Int) = negL (netL n [] []) from by rw [netL_nil]; simp [negL]]
  refine BA [0,1,2,3,4,14,39,40] (0:Nat) (fun k=>k ≤ l.length ∧ inCap (l.take k) (fl.take k) = true) (fun k=>[(41,int k)]) (fun k=>[sng b (.cells (ints (negL (netL n (l.take k) (fl.take k)))) 3 (0,0))]) (fun k=>l.length - k) pickZ ⟨by omega,by simp [inCap]⟩ covZ selZ ?_
  rintro k ⟨hk,hy⟩
  by_cases hlt:k < l.length
  · have hltf:k < fl.length:=by omega
    obtain ⟨b',o,rfl,hA,h0,h1,h2⟩:=arcRow hr (List.getElem?_eq_getElem hlt)
    obtain ⟨b2,o2,rfl,f0⟩:=hr2.int (List.getElem?_eq_getElem hltf)
    obtain ⟨g1,g2,g3,g4,g5,g6,g7⟩:=okArc_iff.1 (hok l[k] (List.getElem_mem hlt))
    by_cases hin:0 ≤ fl[k] ∧ fl[k] ≤ l[k].c
    rotate_left
    · have hvs:valueSpec n l fl s t = (0,2):=by
        unfold valueSpec
        rw [if_neg (by rw [hc]; simp),if_neg (by rw [he]; simp),if_neg (by simpa using hfl),if_pos (inCap_take_false hlt hfl hin)]
      rcases (show fl[k] < 0 ∨ (0 ≤ fl[k] ∧ l[k].c < fl[k]) by omega) with hin' | hin'
      all_goals
        refine Ado ?_;refine AY ?_; rintro _ _ ⟨b,rfl,rfl⟩;refine AD ?_;refine AU ?_; rintro _ _ ⟨rfl,rfl⟩;refine Aal ?_;refine AC ?_
        refine A8 (.q 0 (.q 1 (.q 2 (.q 3 (.q 4 (.q 5 (.q 6 (.q 7 (.q 8 (.q 9 (.q 10 (.q 11 (.q 12 (.q 13 .nil)))))))))))))) [] rfl (by kernel_rfl) selZ ?_
        repeat' (first
          | (refine AQ ?_)
          | (refine AR ?_)
          | (refine AW ?_)
          | (refine C9 ?_)
          | (refine BV ?_)
          | (refine BZ ?_)
          | (refine FM ?_)
          | (refine D8 ?_)
          | (refine DW ?_)
          | (refine AZ rfl rfl rfl rfl rfl ?_)
          | (refine A5 ?_)
          | fail)
        refine AM rfl ?_;refine Acj ?_
        exact AI (res2 rfl rfl rfl) rsubZ selZ ⟨rfl,by rw [hvs]⟩
    obtain ⟨f,hf⟩:=Int.eq_ofNat_of_zero_le g1
    obtain ⟨t',ht⟩:=Int.eq_ofNat_of_zero_le g3
    rw [hf,ht] at hA g5;rw [hf] at g2;rw [ht] at g4
    have hst:(l.take k).length = (fl.take k).length:=by simp; omega
    have hlen:(fl.take k).length = k:=by simp; omega
    have hnet:=netL_snoc (n:=n) (l:=l.take k) (fl:=fl.take k) (a:=l[k]) (x:=fl[k]) hst hf ht (by omega)
    rw [← take_snoc' hlt,← take_snoc' hltf] at hnet
    have hsm:small (fl.take k):=inCap_small _ _ hst hy (fun a ha=>hok a (List.mem_of_mem_take ha))
    have b1:=fval_bd f (l.take k) (fl.take k) hsm
    have b2':=fval_bd t' (l.take k) (fl.take k) hsm
    rw [hlen] at b1 b2'
    generalize hE:negL (netL n (l.take k) (fl.take k)) = E
    have hEl:E.length = n:=by rw [← hE,negL_len,netL_len]
    have e1:E.getD f 0 = -(fval f (l.take k) (fl.take k)):=by rw [← hE,negL_get (by rw [netL_len]; omega),netL_get (by omega)]
    have e2:E.getD t' 0 = -(fval t' (l.take k) (fl.take k)):=by rw [← hE,negL_get (by rw [netL_len]; omega),netL_get (by omega)]
    have e3:(E.set f (E.getD f 0 - fl[k])).getD t' 0 = E.getD t' 0:=by
      rw [List.getD_eq_getElem?_getD,List.getElem?_set_ne (by omega),← List.getD_eq_getElem?_getD]
    have e4:(E.set f (E.getD f 0 - fl[k])).length = n:=by simp [hEl]
    refine Ado ?_;refine AY ?_; rintro _ _ ⟨b,rfl,rfl⟩;refine AD ?_;refine AU ?_; rintro _ _ ⟨rfl,rfl⟩;refine Aal ?_;refine AC ?_
    refine A8 (.q 0 (.q 1 (.q 2 (.q 3 (.q 4 (.q 5 (.q 6 (.q 7 (.q 8 (.q 9 (.q 10 (.q 11 (.q 12 (.q 13 .nil)))))))))))))) [] rfl (by kernel_rfl) selZ ?_
    refine Aa7 ?_;refine C9 ?_;refine AR ?_;refine D8 ?_;refine Adv ?_;refine C9 ?_;refine AR ?_;refine Aar ?_;refine DO ?_;refine BZ ?_;refine Aes ?_
    refine A8 (.q 0 (.q 1 (.q 2 (.q 3 (.q 4 (.q 5 (.q 6 (.q 7 (.q 8 (.q 9 (.q 10 (.l 11 .b .nil)))))))))))) [] rfl (by kernel_rfl) selZ ?_
    refine Acx ?_;refine Ad9 ?_;refine Aa7 ?_;refine C9 ?_;refine AR ?_;refine FE ?_;refine CP ?_;refine EB ?_; rintro _ _ ⟨rfl,rfl⟩;refine A5 ?_
    skip
    refine A8 (.q 0 (.q 1 (.q 2 (.q 3 (.q 4 (.q 5 (.q 6 (.q 7 (.q 8 (.q 9 (.q 10 (.l 11 .b .nil)))))))))))) [] rfl (by kernel_rfl) selZ ?_
    refine Acx ?_;refine Ad9 ?_;refine Aa7 ?_;refine C9 ?_;refine AR ?_;refine DK ?_;refine CP ?_;refine EB ?_; rintro _ _ ⟨rfl,rfl⟩;refine A5 ?_;refine Aa0 ?_
    refine AX (k + 1) ⟨by omega,?_⟩ (by omega) covZ ?_
    · rw [take_snoc' hlt,take_snoc' hltf,inCap_snoc _ _ _ _ hst,hy]
      simp; omega
    · rw [hnet,negL_set,negL_set,hE]
      rw [show -(fval f (l.take k) (fl.take k) + fl[k]) = E.getD f 0 - fl[k] from by omega]
      rw [show -(fval t' (l.take k) (fl.take k) - fl[k]) = (E.set f (E.getD f 0 - fl[k])).getD t' 0 + fl[k] from by rw [e3]; omega]
      exact selZ
  obtain rfl:k = l.length:=by omega
  rw [List.take_length,List.take_of_length_le (by omega)] at hy
  rw [List.take_length,List.take_of_length_le (by omega)]
  have hsm:small fl:=inCap_small _ _ hfl.symm hy hok
  generalize hE:negL (netL n l fl) = E
  have hEl:E.length = n:=by rw [← hE,negL_len,netL_len]
  refine Abl ?_;refine Abt ?_
  refine BA [1,2,3,4,83,84] (0:Nat) (fun k=>k ≤ n ∧ ∀ v:Nat,v < k → (v:Int) = s ∨ (v:Int) = t ∨ fval v l fl = 0) (fun k=>[(85,int k)]) (fun _=>[sng b (.cells (ints E) 3 (0,0))]) (fun k=>n - k) pickZ ⟨by omega,by simp⟩ covZ selZ ?_
  rintro k ⟨hk,hz⟩
  by_cases hlt:k < n
  · have e1:E.getD k 0 = -(fval k l fl):=by rw [← hE,negL_get (by rw [netL_len]; omega),netL_get (by omega)]
    repeat' (first
      | (refine AB ?_)
      | (refine AD ?_)
      | (refine AF ?_)
      | (refine B9 ?_)
      | (refine AN ?_)
      | (refine AJ ?_)
      | (refine A7 ?_)
      | (refine BB ?_)
      | (refine AC ?_)
      | (refine AA ?_)
      | (refine AE ?_)
      | (refine AO ?_)
      | (refine A2 ?_)
      | (refine AK ?_)
      | (refine AM rfl ?_)
      | (refine AL rfl ?_)
      | (refine AH rfl rfl rfl ?_)
      | (focus ((refine CM rfl rfl (cmp_ne _ _) rfl rfl (fun h=>?_) (fun h=>?_))))
      | fail)
    all_goals first
      | (refine AX (k + 1) ⟨by omega,fun v hv=>?_⟩ (by omega) covZ selZ
         rcases Nat.lt_or_ge v k with hv' | hv'
         · exact hz v hv'
         · obtain rfl:v = k:=by omega
           omega)
      | (refine AI (res2 rfl rfl rfl) rsubZ selZ ⟨rfl,?_⟩
         have hb:=balanced_not (l:=l) (fl:=fl) (s:=s) (t:=t) hlt (by omega) (by omega) (by omega)
         unfold valueSpec
         rw [if_neg (by rw [hc]; simp),if_neg (by rw [he]; simp),if_neg (by simpa using hfl),if_neg (by rw [hy]; simp),Int.toNat_natCast,if_pos hb])
  · refine AC ?_
    refine Adz ?_;refine Aad ?_;refine Aa1 ?_
    focus ((refine A3 (value_spec ρ σ _ _ s l fl hv hu a3 hfl hsm) rfl rfl rdZ rfl rfl ?_; rintro _ rfl))
    refine Aan ?_;refine AI (res2 rfl rfl rfl) rsubZ selZ ⟨rfl,?_⟩
    have hb:=balanced_of (n:=n) (l:=l) (fl:=fl) (s:=s) (t:=t) (fun v hv=>hz v (by omega))
    unfold valueSpec
    rw [if_neg (by rw [hc]; simp),if_neg (by rw [he]; simp),if_neg (by simpa using hfl),if_neg (by rw [hy]; simp),Int.toNat_natCast,if_neg (by rw [hb]; simp)]

end Go.Proofs.YtjehnjhkcmobcaaGreat
/- The laws: duality, bounds. -/
namespace Go.Proofs.YtjehnjhkcmobcaaGreat
open Go.Eng Go.Flow
set_option maxRecDepth 100000
set_option maxHeartbeats 4000000

end Go.Proofs.YtjehnjhkcmobcaaGreat
/- The laws: bounds, the least cut. -/
namespace Go.Proofs.YtjehnjhkcmobcaaGreat
open Go.Eng Go.Flow
set_option maxRecDepth 100000
set_option maxHeartbeats 4000000

end Go.Proofs.YtjehnjhkcmobcaaGreat
/- Copies of arcs, arcs in the opposite order; the laws: greater capacities, arcs turned round. -/
namespace Go.Proofs.YtjehnjhkcmobcaaGreat
open Go.Eng Go.Flow
set_option maxRecDepth 100000
set_option maxHeartbeats 4000000

theorem OwnS.row {α:Type} {enc:α → List Value} {s:Nat} (he:∀ x,(enc x).length = s) {e:TypeId} {b n cap:Nat} {l:List α} {ρ:PH} (h:OwnS e s (.slice (some ⟨b,0,none⟩) n cap) l.length (l.flatMap enc) ρ) {i:Nat} {x:α} (hx:l[i]? = some x):RdN ρ b (0 + i * s) (enc x):=by
 have hS:SlE enc s ρ (.slice (some ⟨b,0,none⟩) n cap) l:=h.at
 obtain ⟨p,c,e1,hr⟩:=hS.val he
 simp only [Value.slice.injEq] at e1
 obtain ⟨b',o',e2,h2⟩:=hr i x hx
 rw [← e1.1] at e2;simp only [Option.some.injEq,Addr.mk.injEq,and_true] at e2
 obtain ⟨rfl,rfl⟩:=e2
 exact h2
end Go.Proofs.YtjehnjhkcmobcaaGreat
/- The bookings of shipments. -/
namespace Go.Proofs.YtjehnjhkcmobcaaGreat
open Go.Eng Go.Step
set_option maxRecDepth 100000
set_option maxHeartbeats 4000000

theorem addT_len (out:List Bk) (x:Int × Int):(addT out x).length ≤ out.length + 1:=by
 unfold addT
 split
 ·split
  ·rw [List.length_append,List.length_dropLast,List.length_singleton]; omega
  ·simp
 ·simp
theorem runsK_len:∀ K:List (Int × Int),(runsK K).length ≤ K.length:=fun K=>by
 have h:∀ k,k ≤ K.length → (runsK (K.take k)).length ≤ k:=fun k=>by
  induction k with
  | zero=>intro _; simp [runsK]
  | succ k ih =>
   intro hk
   rw [List.take_succ_eq_append_getElem (by omega),runsK_snoc]
   have:=addT_len (runsK (K.take k)) K[k]
   have:=ih (by omega)
   omega
 have:=h K.length (Nat.le_refl _)
 rwa [List.take_length] at this
theorem set_last {α:Type} (l:List α) (x y:α):(l ++ [x]).set ((l ++ [x]).length - 1) y = l ++ [y]:=by
 rw [List.length_append,List.length_singleton,Nat.add_sub_cancel,List.set_append_right _ _ (Nat.le_refl _),Nat.sub_self]
 rfl
set_option maxHeartbeats 64000000 in
theorem bookings_spec (ω:PH) (v:Value) (l:List Sh) (hv:ShAt ω v l) (hll:l.length ≤ 1000000) (hok:∀ x ∈ l,0 ≤ x.t ∧ x.t ≤ 1099511627776) (hnd:(ticksS l).Nodup) :
  Makes Tryz.prog (fv 37) [v] [ω] (fun r σ=>∃ R:List Bk,OwnS 95 4 r R.length (R.flatMap encB) σ ∧ R.length ≤ l.length ∧ R.Nodup ∧ ∀ b,b ∈ R ↔ IsRun (ticksS l) b):=by
 obtain ⟨q,cc,rfl,hr⟩:=hv.val encX_len
 have htl:(ticksS l).length = l.length:=by unfold ticksS; rw [List.length_map]
 refine spec_in (cap:=[]) Tryz.func37 rfl rfl Tryz.ntmps37 rfl envZ (fun N β=>?_)
 refine BY ?_;refine Aak ?_;refine Aad ?_;refine AV ?_
 refine BH (GX (enc:=encS) (s:=2) (by_:=16) ((0,0):Int × Int) rfl rfl rfl rfl rfl rfl rfl rfl (by omega) (by omega)) rfl rfl rfl ?_
 rintro _ _ ⟨bk,rfl,rfl⟩;refine Ad5 ?_
 refine BA [0,3,13,14] (X:=Nat × List (Int × Int)) (0,List.replicate l.length (0,0)) (fun x=>x.1 ≤ l.length ∧ x.2.length = l.length ∧ x.2.take x.1 = (ticksS l).take x.1) (fun x=>[(15,int x.1)]) (fun x=>[sng bk (.cells (elems encS x.2) 173 (0,0)),emp]) (fun x=>l.length - x.1) pickZ ⟨by dsimp only; omega,by simp,by simp⟩ covZ selZ ?_
 rintro ⟨k,K⟩ ⟨hk,hKl,hKt⟩
 dsimp only at hk hKl hKt ⊢
 by_cases hlt:k < l.length
 ·have hx:=List.getElem?_eq_getElem hlt
  have htk:(ticksS l)[k]? = some (l[k].c,l[k].t):=by unfold ticksS; rw [List.getElem?_map,hx]; rfl
  obtain ⟨b6,o6,rfl,hrx,_⟩:=shRow hr hx
  generalize l[k] = x at hx hrx htk
  refine Ado ?_;refine AY ?_; rintro _ _ ⟨b,rfl,rfl⟩;refine AD ?_;refine AU ?_; rintro _ _ ⟨rfl,rfl⟩;refine Adt ?_;refine AB ?_;refine Aa5 ?_;refine BR ?_;refine A9 ?_
  refine B5 (F7 encS_len (a:=(x.c,x.t)) k rfl (by first | omega | (show 0 + k * 2 = k * 2; omega) | (show k * 2 = k * 2; rfl)) rfl (one_T _) rfl takeZ (by omega)) rfl rfl ?_
  rintro _ _ ⟨rfl,rfl⟩;refine Adj ?_
  refine AX (k + 1,K.set k (x.c,x.t)) ⟨by dsimp only; omega,by dsimp only; rw [List.length_set]; exact hKl,?_⟩ (by dsimp only; omega) covZ selZ
  dsimp only
  obtain ⟨h1,h2⟩:=List.getElem?_eq_some_iff.1 htk
  rw [List.take_succ_eq_append_getElem (show k < (K.set k (x.c,x.t)).length by rw [List.length_set]; omega),List.getElem_set_self,List.take_set_of_le (Nat.le_refl _),hKt,List.take_succ_eq_append_getElem h1,h2]
 have hKe:K = ticksS l:=by
  have h1:K.take k = K:=List.take_of_length_le (by omega)
  have h2:(ticksS l).take k = ticksS l:=List.take_of_length_le (by omega)
  rw [← h1,hKt,h2]
 subst hKe
 have hO0:OwnS 173 2 (.slice (some ⟨bk,0,none⟩) l.length l.length) (ticksS l).length ((ticksS l).flatMap encS) (sng bk (.cells (elems encS (ticksS l)) 173 (0,0))):=by
  rw [← htl]
  exact ⟨by rw [flat_len encS_len],.inr ⟨bk,_,_,rfl,rfl,Nat.le_refl _,by simp only [maxLen]; omega,elems_size encS_len _,by unfold elems; rw [← flat_len encS_len,List.take_length]⟩⟩
 refine Abl ?_;refine Aad ?_
 refine BC (sortT_spec _ _ _ hO0 (by omega)) rfl rfl takesZ (fun τ hτ=>by simp at hτ) rfl rfl ?_
 rintro _ _ ⟨rfl,K,σK,hperm,hpw,hOK,rfl⟩
 have hKn:K.Nodup:=hperm.nodup_iff.2 hnd
 have hlex:K.Pairwise lexT:=(hpw.and hKn).imp (fun {x y} h=>by
  have h1:=h.1
  rw [cmpT_lt] at h1
  have h2:x.1 ≠ y.1 ∨ x.2 ≠ y.2:=by
   apply Decidable.byContradiction
   intro hh
   rw [not_or,Decidable.not_not,Decidable.not_not] at hh;exact h.2 (Prod.ext hh.1 hh.2)
  unfold lexT at *
  omega)
 have hKlen:K.length = l.length:=by rw [hperm.length_eq,htl]
 rw [← hKlen] at hOK
 have hKA:SlE encS 2 σK (.slice (some ⟨bk,0,none⟩) K.length K.length) K:=hOK.at
 have hrK:=rowN encS_len hKA
 have hKb:∀ x ∈ K,0 ≤ x.2 ∧ x.2 ≤ 1099511627776:=fun x hx=>by
  obtain ⟨y,hy,e⟩:=List.mem_map.1 (hperm.mem_iff.1 hx)
  subst e;exact hok y hy
 have hRO:=runsK_ok hlex
 refine AT (ρ:=σK) takeZ ?_;rw [← hKlen];refine AE ?_;refine Acy ?_
 refine BA [3,31,32] (X:=Nat × Value × PH) (0,.slice none 0 0,emp) (fun x=>x.1 ≤ K.length ∧ OwnS 95 4 x.2.1 (runsK (K.take x.1)).length ((runsK (K.take x.1)).flatMap encB) x.2.2) (fun x=>[(33,int x.1),(6,x.2.1)]) (fun x=>[x.2.2]) (fun x=>K.length - x.1) pickZ ⟨by dsimp only; omega,OwnS.nil _ _⟩ covZ selZ ?_
 rintro ⟨k,u,σ⟩ ⟨hk,hO⟩
 dsimp only at hk hO ⊢
 by_cases hlt:k < K.length
 rotate_left
 ·have hke:k = K.length:=by omega
  rw [hke,List.take_length] at hO;refine Ael ?_
  refine AI (res1 rfl rfl) rsubZ selZ ⟨σ,⟨runsK K,hO,by have:=runsK_len K; omega,hRO.is.2,fun b=>?_⟩,rfl⟩
  rw [hRO.is.1];unfold IsRun;simp only [hperm.mem_iff]
 have hx:=List.getElem?_eq_getElem hlt
 have hxb:=hKb _ (List.getElem_mem hlt)
 have hsn:runsK (K.take (k + 1)) = addT (runsK (K.take k)) K[k]:=by rw [List.take_succ_eq_append_getElem hlt,runsK_snoc]
 have hOl:(runsK (K.take k)).length ≤ K.length:=by
  have:=runsK_len (K.take k)
  rw [List.length_take] at this;omega
 obtain ⟨b9,o9,e9,hrd9,_⟩:=spRow hrK hx
 generalize K[k] = x at hx hxb hsn hrd9
 obtain ⟨xc,xt⟩:=x
 dsimp only at hxb
 generalize runsK (K.take k) = O at hO hsn hOl
 simp only [Option.some.injEq,Addr.mk.injEq,and_true] at e9
 obtain ⟨rfl,rfl⟩:=e9
 rcases List.eq_nil_or_concat O with rfl | ⟨pre,b,rfl⟩
 ·have hz0:([]:List Bk).length = 0:=rfl
  have ha:addT [] (xc,xt) = [⟨xc,xt,xt + 1,0⟩]:=rfl
  rw [ha] at hsn
  obtain ⟨pu,cu,rfl⟩:=hO.form
  refine Ab1 ?_;refine AY ?_; rintro _ _ ⟨b,rfl,rfl⟩;refine AU ?_; rintro _ _ ⟨rfl,rfl⟩;refine AE ?_;refine Ab ?_;refine Abi ?_
  revert b; intro b8
  refine D4 (X:=Unit) [3,31,32,33,6,8] (fun _=>True) (fun _=>[(62,.bool false)]) (fun _=>[sng b8 (.cells #[int xc,int xt] 173 (0,0)),σ]) pickZ ?_ ?_
  ·refine A8 (.q 0 (.q 1 (.q 2 (.q 3 (.q 4 (.q 5 (.q 6 (.q 7 (.q 8 (.q 9 (.q 10 (.q 11 (.q 12 (.q 13 (.q 14 (.q 15 (.q 16 (.q 17 (.q 18 (.q 19 (.q 20 (.q 21 (.q 22 (.q 23 .nil)))))))))))))))))))))))) [] rfl (by kernel_rfl) selZ ?_
   refine AQ ?_;refine DO ?_;refine Adq ?_;refine Ads ?_;refine Adq ?_;refine Ads ?_;refine A5 ?_;exact BW () trivial covZ selZ
  rintro _ _
  try dsimp only
  refine Aae ?_;refine AA ?_;refine Aa5 ?_;refine Aac ?_;refine CG ?_;refine BR ?_;refine BD ?_; rintro _ _ ⟨b,rfl,rfl⟩
  refine BH (B8 (by_:=32) (s:=4) (news:=[int xc,int xt,int (xt + 1),int 0]) rfl rfl rfl rfl rfl rfl rfl hO takeZ (cells_own memZ) rfl (by (repeat (first | exact (fun v hv=>absurd hv List.not_mem_nil) | (refine List.forall_mem_cons.2 ⟨?_,?_⟩; (focus (first | exact rfl | assumption))))); first | done | fail) (by omega) (by simp [maxLen]) (by simp)) rfl rfl rfl ?_
  rintro u1 _ ⟨σ1,hO1,rfl⟩;refine Adp ?_
  refine AX (k + 1,u1,σ1) ⟨by dsimp only; omega,?_⟩ (by dsimp only; omega) covZ selZ
  dsimp only
  rw [hsn];exact hO1
 rw [List.concat_eq_append] at hO hsn hOl
 obtain ⟨bo,cu,rfl⟩:=hO.formP (by simp)
 have hbl:(pre ++ [b])[(pre ++ [b]).length - 1]? = some b:=by simp
 have hrb:=OwnS.row encB_len hO hbl
 have g0:rdc σ bo (0 + ((pre ++ [b]).length - 1) * 4) = some (int b.c):=hrb.get0
 have g2:rdc σ bo (0 + ((pre ++ [b]).length - 1) * 4 + 2) = some (int b.b):=hrb.get (j:=2) rfl
 have hp1:1 ≤ (pre ++ [b]).length:=by simp
 have hgl:(pre ++ [b]).getLast? = some b:=by simp
 have hsn2:addT (pre ++ [b]) (xc,xt) = if b.c = xc ∧ b.b = xt then pre ++ [⟨b.c,b.a,b.b + 1,b.k⟩] else (pre ++ [b]) ++ [⟨xc,xt,xt + 1,0⟩]:=by
  unfold addT;rw [hgl]
  dsimp only
  rw [List.dropLast_concat]
 rw [hsn2] at hsn
 have hsl:=set_last pre b ⟨b.c,b.a,b.b + 1,b.k⟩
 generalize hPB:pre ++ [b] = PB at hO hsn hOl hbl hrb g0 g2 hp1 hsl
 clear hgl hsn2;refine Ab1 ?_;refine AY ?_; rintro _ _ ⟨b,rfl,rfl⟩;refine AU ?_; rintro _ _ ⟨rfl,rfl⟩;refine AE ?_;refine Ab ?_;refine Abi ?_
 revert b; intro b8
 refine D4 (X:=Unit) [3,31,32,33,6,8,9] (fun _=>True) (fun _=>[(62,.bool (decide (b.c = xc ∧ b.b = xt)))]) (fun _=>[sng b8 (.cells #[int xc,int xt] 173 (0,0)),σ]) pickZ ?_ ?_
 ·refine A8 (.q 0 (.q 1 (.q 2 (.q 3 (.q 4 (.q 5 (.q 6 (.q 7 (.q 8 (.q 9 (.q 10 (.q 11 (.q 12 (.q 13 (.q 14 (.q 15 (.q 16 (.q 17 (.q 18 (.q 19 (.q 20 (.q 21 (.q 22 (.q 23 .nil)))))))))))))))))))))))) [] rfl (by kernel_rfl) selZ ?_
  by_cases d1:b.c = xc
  ·by_cases d2:b.b = xt
   ·rw [decide_eq_true (And.intro d1 d2)]
    refine AQ ?_;refine DW ?_;refine Adv ?_;refine Acd ?_;refine Acl ?_;refine Aar ?_;refine D9 ?_;refine BV ?_;refine Adv ?_;refine Acd ?_;refine Ab8 ?_;refine Aar ?_;refine D9 ?_;refine BV ?_;refine A5 ?_;exact BW () trivial covZ selZ
   ·rw [decide_eq_false (fun c=>d2 c.2)]
    refine AQ ?_;refine DW ?_;refine Adv ?_;refine Acd ?_;refine Acl ?_;refine Aar ?_;refine D9 ?_;refine BV ?_;refine Adv ?_;refine Acd ?_;refine Ab8 ?_;refine Aar ?_;refine DD ?_;refine BV ?_;refine A5 ?_;exact BW () trivial covZ selZ
  ·rw [decide_eq_false (fun c=>d1 c.1)]
   refine AQ ?_;refine DW ?_;refine Adv ?_;refine Acd ?_;refine Acl ?_;refine Aar ?_;refine DD ?_;refine BV ?_;refine Adq ?_;refine Ads ?_;refine A5 ?_;exact BW () trivial covZ selZ
 rintro _ _
 try dsimp only
 by_cases hc:b.c = xc ∧ b.b = xt
 ·rw [decide_eq_true hc]
  rw [if_pos hc] at hsn;refine AM rfl ?_;refine Abn ?_;refine DH ?_;refine A9 ?_;refine DN ?_;refine AF ?_;refine CG ?_;refine A9 ?_;refine DN ?_
  refine B5 (EJ encB_len (a:=b) (PB.length - 1) 2 ⟨b.c,b.a,b.b + 1,b.k⟩ hO rfl (by show 0 + (PB.length - 1) * 4 + 2 = (PB.length - 1) * 4 + 2; omega) (by decide) hbl rfl rfl rfl rfl takeZ) rfl rfl ?_
  rintro _ _ ⟨rfl,σ2,hO2,rfl⟩;rw [hsl] at hO2;refine AE ?_;refine A6 rfl ?_;refine AA ?_;refine Aaz ?_
  refine AX (k + 1,_,σ2) ⟨by dsimp only; omega,?_⟩ (by dsimp only; omega) covZ selZ
  dsimp only
  rw [hsn]
  have hlen:(pre ++ [(⟨b.c,b.a,b.b + 1,b.k⟩:Bk)]).length = PB.length:=by rw [← hPB]; simp
  rw [← hlen];exact hO2
 ·rw [decide_eq_false hc]
  rw [if_neg hc] at hsn;refine Aae ?_;refine AA ?_;refine Aa5 ?_;refine Aac ?_;refine CG ?_;refine BR ?_;refine BD ?_; rintro _ _ ⟨b,rfl,rfl⟩
  refine BH (B8 (by_:=32) (s:=4) (news:=[int xc,int xt,int (xt + 1),int 0]) rfl rfl rfl rfl rfl rfl rfl hO takeZ (cells_own memZ) rfl (by (repeat (first | exact (fun v hv=>absurd hv List.not_mem_nil) | (refine List.forall_mem_cons.2 ⟨?_,?_⟩; (focus (first | exact rfl | assumption))))); first | done | fail) (by omega) (by simp only [maxLen]; omega) (by omega)) rfl rfl rfl ?_
  rintro u1 _ ⟨σ1,hO1,rfl⟩;refine Adp ?_
  refine AX (k + 1,u1,σ1) ⟨by dsimp only; omega,?_⟩ (by dsimp only; omega) covZ selZ
  dsimp only
  rw [hsn,List.length_append,List.flatMap_append];exact hO1
end Go.Proofs.YtjehnjhkcmobcaaGreat
/- Profiles and peaks, of the program and of the reference. -/
namespace Go.Proofs.YtjehnjhkcmobcaaGreat
open Go.Eng Go.Step
set_option maxRecDepth 100000
set_option maxHeartbeats 4000000

theorem chkH_ok {qs:List Int} {cs:List Ct} {l:List Hd} (h:chkH qs cs l = 0):(∀ x ∈ l,okHd qs.length x) ∧ l.length ≤ 512 ∧ (1 ≤ qs.length ∧ qs.length ≤ 16):=by
 unfold chkH at h
 split at h
 ·omega
 ·rename_i hp
  split at h
  ·omega
  ·split at h
   ·rename_i h2; exact absurd h h2
   ·rename_i h1 h2
    have h3:firstE (hdE qs.length l) l.length = 0:=Decidable.not_not.1 h2
    have:=hdE_ok h3
    rw [List.take_length] at this
    exact ⟨this,by omega,(chkPl_quo (Decidable.not_not.1 hp)).1⟩
end Go.Proofs.YtjehnjhkcmobcaaGreat
/- Results that lie in memory: one struct, or a struct and an error. -/
namespace Go.Eng
variable {L:Env} {R H:List PH}
theorem resS1 {fn:Func} {N:Bs} {M:Nat} {P:Program} {t b1:Nat} {T:TypeId} {v1:List Value} (hr:fn.results = #[.cell t T]) (ht:look L t = some (.pointer (some ⟨b1,0,none⟩))) (a1:aggP P T = some true)
    (n1:szP P T = some v1.length) (c1:Cells N R H b1 0 v1):∀ a w,Frm M L a → Sat N R H w → (results fn a.tmps).run P w = .ok (.agg v1.toArray) w:=by
  intro a w hf hs
  have e1:a.tmps[t]?.getD undef = .pointer (some ⟨b1,0,none⟩):=by simpa using hf.get t _ ht
  have l1:=run_loadCells_list (P:=P) (w:=w) ⟨b1,0,none⟩ v1 (fun j v hv=>by rw [Addr.add_lit]; exact c1 w hs j v hv)
  simp [results,hr,e1,loadVar,run_isAgg a1,run_sizeOf n1,l1,asAddr]
theorem resSE {fn:Func} {N:Bs} {M:Nat} {P:Program} {t u b1:Nat} {T:TypeId} {v1:List Value} {v2:Value} (hr:fn.results = #[.cell t T,.tmp u]) (ht:look L t = some (.pointer (some ⟨b1,0,none⟩))) (hu:look L u = some v2) (a1:aggP P T = some true)
    (n1:szP P T = some v1.length) (c1:Cells N R H b1 0 v1):∀ a w,Frm M L a → Sat N R H w → (results fn a.tmps).run P w = .ok (.tuple #[.agg v1.toArray,v2]) w:=by
  intro a w hf hs
  have e1:a.tmps[t]?.getD undef = .pointer (some ⟨b1,0,none⟩):=by simpa using hf.get t _ ht
  have e2:a.tmps[u]?.getD undef = v2:=by simpa using hf.get u _ hu
  have l1:=run_loadCells_list (P:=P) (w:=w) ⟨b1,0,none⟩ v1 (fun j v hv=>by rw [Addr.add_lit]; exact c1 w hs j v hv)
  simp [results,hr,e1,e2,loadVar,run_isAgg a1,run_sizeOf n1,l1,asAddr]
end Go.Eng
/- Building structs whose fields are structs. No conditions. -/
namespace Go.Eng
variable {C:Cx} {R H:List PH} {L:Env}
def placesP (P:Program):List Field → Option (List (Nat × Nat))
  | []=>some []
  | f :: fs=>match szP P f.type,placesP P fs with
    | some n,some r=>some ((f.offset,n) :: r)
    | _,_=>none
def evalPs (L:Env):List (Nat × Operand) → Option (List (Nat × Value))
  | []=>some []
  | (i,x) :: ps=>match evalE L x,evalPs L ps with
    | some v,some r=>some ((i,v) :: r)
    | _,_=>none
def fillL (pl:List (Nat × Nat)):List Value → List (Nat × Value) → Option (List Value)
  | zs,[]=>some zs
  | zs,(i,v) :: r=>match pl[i]? with
    | none=>none
    | some (off,size)=>if v.cells.size = size ∧ off + size ≤ zs.length then fillL pl (zs.take off ++ (v.cells.toList ++ zs.drop (off + size))) r else none
theorem fillL_eq {pl:List (Nat × Nat)}:∀ {pvs:List (Nat × Value)} {zs out:List Value},fillL pl zs pvs = some out → Instr.fill (fun i=>pl[i]?) zs.toArray pvs = some out.toArray
  | [],zs,out,h=>by simp [fillL] at h; subst h; rfl
  | (i,v) :: r,zs,out,h=>by
    unfold fillL at h;unfold Instr.fill

    split at h
    · simp at h
    · rename_i off size e
      rw [e]
      split at h
      · rename_i hc
        have ih:=fillL_eq h
        have hs:=splice_fold v.cells.toList 0 off zs.toArray (by simp; omega)
        simp only
        rw [if_neg (by simp; omega)]
        rw [← ih]
        congr 1
        apply Array.ext'
        simpa [← Array.toList_zipIdx,← hc.1] using hs
      · simp at h
theorem evalPs_eq {a:Act}:∀ {ps:List (Nat × Operand)} {pvs:List (Nat × Value)},evalPs L ps = some pvs → (∀ x ∈ ps.map (·.2),OnE L a x) → ps.map (fun (x:Nat × Operand)=>(x.1,a.eval x.2)) = pvs
  | [],pvs,h,_=>by simp [evalPs] at h; subst h; rfl
  | (i,x) :: ps,pvs,h,hx=>by
    unfold evalPs at h
    split at h
    · rename_i v r e1 e2
      simp at h; subst h
      rw [List.map_cons,evalPs_eq e2 (fun y hy=>hx y (by simp at hy ⊢; exact .inr hy)),hx x (by simp) v e1]
    · simp at h
theorem placesP_run {P:Program}:∀ (fs:List Field) (pl:List (Nat × Nat)) (w:World),placesP P fs = some pl → (fs.mapM (fun f=>Prod.mk f.offset <$> sizeOf f.type:Field → Sem (Nat × Nat))).run P w = .ok pl w
  | [],pl,w,h=>by simp [placesP] at h; subst h; simp
  | f :: fs,pl,w,h=>by
    unfold placesP at h
    split at h
    · rename_i n r e1 e2
      simp at h; subst h
      simp [List.mapM_cons,run_sizeOf e1,placesP_run fs r w e2]
    · simp at h
theorem BO {dst:Option Tmp} {ty:TypeId} {pos:String} {aft:Array Edge} {g:Option (Nat × Bool)} {t:TypeId} {ps:List (Nat × Operand)} {fs:List Field} {pl:List (Nat × Nat)} {pvs:List (Nat × Value)} {zs out:List Value}
    (hu:C.P.underlying t = some (.struct fs.toArray)) (hz:zeroP C.P t = some (.agg zs.toArray)) (hpl:placesP C.P fs = some pl) (hv:evalPs L ps = some pvs) (ho:fillL pl zs pvs = some out) :
    Quiet C R H L ⟨dst,.build t ps.toArray,ty,pos,aft,g⟩ (.agg out.toArray):=
  ⟨by intro c; simp,fun a w hxx _=>by
    have h1:=evalPs_eq (a:=a) hv (fun x hx=>hxx x (by simp [Op.operands] at hx ⊢; exact hx))
    have h2:=placesP_run fs pl w hpl
    have h3:=fillL_eq ho
    simp only [execOp,Instr.build]

    simp [run_zeroValue hz,Value.cells,run_underlying hu,h1,h2,h3]⟩
end Go.Eng
