/- Texts of this proof, one after the other; no conditions. -/
import Derived.Laws.BytesString
import Derived.Test.YtjopknnkcnehmaaGreatDoorWB4
set_option linter.all false
/- Runs of closed calls, reckoned: what only reads is right. No conditions. -/
namespace Go.Ev
open Go.Eng
def EK (ρ:Rn) (fr:Fr) (ev:Operand→Value) (xs:Array Operand):Prop:=∀ x∈xs,∀ v,evX fr x=some v→(∃ t,x=.tmp t)∨flat v=true→∃ u,rn ρ v=some u∧ev x=u
section
variable {P:Program} {ρ:Rn} {fr:Fr} {ev:Operand→Value} {w:World}
def FR (_:Rn) (_:Fr):Prop:=True
theorem odOf_ev {x:Operand} {d:Od} (h:odOf x=some d):evO fr d=evX fr x∧((∃ t,x=.tmp t)∨∃ v,evX fr x=some v∧flat v=true):=by
  cases x with
  | tmp t=>simp only [odOf,Option.some.injEq] at h; subst h; exact ⟨rfl,.inl ⟨t,rfl⟩⟩
  | const v =>
    simp only [odOf] at h
    cases hf:flat v with
    | true=>rw [hf] at h; simp only [cond_true,Option.some.injEq] at h; subst h; exact ⟨rfl,.inr ⟨v,rfl,hf⟩⟩
    | false=>rw [hf] at h; cases h
  | global g=>cases h
  | func f=>simp only [odOf,Option.some.injEq] at h; subst h; exact ⟨rfl,.inr ⟨_,rfl,rfl⟩⟩
theorem od_ev (hf:FR ρ fr) {xs:Array Operand} (hk:EK ρ fr ev xs) {x:Operand} (hx:x∈xs) {d:Od} (h:odOf x=some d) {v:Value} (hv:evO fr d=some v):∃ u,rn ρ v=some u∧ev x=u:=by
  obtain ⟨h1,h2⟩:=odOf_ev (fr:=fr) h
  rw [h1] at hv
  rcases h2 with ⟨t,rfl⟩|⟨v',h3,h4⟩
  · exact hk _ hx v hv (.inl ⟨t,rfl⟩)
  · rw [h3] at hv; cases hv
    exact hk _ hx _ h3 (.inr h4)
theorem evOs_c {x:Od} {l:List Od} {vs:List Value}:evOs fr (x::l)=some vs↔∃ v r,evO fr x=some v∧evOs fr l=some r∧vs=v::r:=by
  show (Option.rec none (fun v=>Option.rec none (fun vs=>some (v::vs)) (evOs fr l)) (evO fr x):Option (List Value))=some vs↔_
  cases evO fr x with
  | none=>simp
  | some v=>cases evOs fr l with
    | none=>simp
    | some r=>simp [eq_comm]
theorem ods_ev (hf:FR ρ fr) {xs:Array Operand} (hk:EK ρ fr ev xs):∀ {l:List Operand} {ds:List Od},(∀ x∈l,x∈xs)→odsOf l=some ds→∀ {vs:List Value},evOs fr ds=some vs→∃ us,rnL ρ vs=some us∧l.map ev=us
  | [],ds,_,h,vs,hv=>by
    cases h; cases hv; exact ⟨[],rfl,rfl⟩
  | x::l,ds,hl,h,vs,hv=>by
    simp only [odsOf] at h
    cases h1:odOf x with
    | none=>simp [h1] at h
    | some d=>cases h2:odsOf l with
      | none=>simp [h1,h2] at h
      | some r =>
        simp only [h1,h2,Option.some.injEq] at h; subst h
        obtain ⟨v,r',e1,e2,rfl⟩:=evOs_c.1 hv
        obtain ⟨u,k1,k2⟩:=od_ev hf hk (hl x (by simp)) h1 e1
        obtain ⟨us,k3,k4⟩:=ods_ev hf hk (fun y hy=>hl y (by simp [hy])) h2 e2
        exact ⟨u::us,rnL_cons.2 ⟨u,us,k1,k3,rfl⟩,by simp [k2,k4]⟩
/-! what values are -/
theorem rn_ptr {i o:Nat} {u:Value} (h:rn ρ (.pointer (some ⟨i,o,none⟩))=some u):∃ b s e,ρ i=some (b,s,e)∧u=.pointer (some ⟨b,s+o,none⟩):=by
  simp only [rn,rnA] at h
  cases hi:ρ i with
  | none=>simp [hi] at h
  | some x=>obtain ⟨b,s,e⟩:=x; rw [hi] at h; simp only [Option.some.injEq] at h; exact ⟨b,s,e,rfl,h.symm⟩
theorem rn_agg {l:List Value} {u:Value} (h:rn ρ (.agg ⟨l⟩)=some u):∃ us,rnL ρ l=some us∧u=.agg us.toArray:=by
  simp only [rn,rnR] at h
  cases hl:rnL ρ l with
  | none=>simp [hl] at h
  | some us=>simp only [hl,Option.some.injEq] at h; exact ⟨us,rfl,h.symm⟩
theorem rn_tuple {l:List Value} {u:Value} (h:rn ρ (.tuple ⟨l⟩)=some u):∃ us,rnL ρ l=some us∧u=.tuple us.toArray:=by
  simp only [rn,rnR] at h
  cases hl:rnL ρ l with
  | none=>simp [hl] at h
  | some us=>simp only [hl,Option.some.injEq] at h; exact ⟨us,rfl,h.symm⟩
theorem rn_slice {i o n c:Nat} {u:Value} (h:rn ρ (.slice (some ⟨i,o,none⟩) n c)=some u):∃ b s e,ρ i=some (b,s,e)∧rnS ρ i o n c=some u:=by
  simp only [rn] at h
  cases hi:ρ i with
  | none=>simp [rnS,hi] at h
  | some x=>obtain ⟨b,s,e⟩:=x; exact ⟨b,s,e,rfl,h⟩
theorem rnS_pos {i o n c:Nat} {u:Value} (h:rnS ρ i o n c=some u) (hn:0<n):∃ b s e c',ρ i=some (b,s,e)∧u=.slice (some ⟨b,s+o,none⟩) n c':=by
  unfold rnS at h
  cases hi:ρ i with
  | none=>simp [hi] at h
  | some x =>
    obtain ⟨b,s,e⟩:=x
    rw [hi] at h;simp only at h
    split at h
    · cases h; exact ⟨b,s,e,_,rfl,rfl⟩
    · split at h
      · cases h; exact ⟨b,s,e,_,rfl,rfl⟩
      · rw [if_neg (by omega)] at h; cases h
theorem rnS_any {i o n c:Nat} {u:Value} (h:rnS ρ i o n c=some u):∃ b o' c',u=.slice (some ⟨b,o',none⟩) n c':=by
  unfold rnS at h
  cases hi:ρ i with
  | none=>simp [hi] at h
  | some x =>
    obtain ⟨b,s,e⟩:=x
    rw [hi] at h;simp only at h
    split at h
    · cases h; exact ⟨_,_,_,rfl⟩
    · split at h
      · cases h; exact ⟨_,_,_,rfl⟩
      · split at h
        · rename_i h0; subst h0
          split at h <;> cases h <;> exact ⟨_,_,_,rfl⟩
        · cases h
theorem natOf_some {v:Option Value} {n:Nat} (h:natOf v=some n):∃ k,v=some (.int k (n:Int)):=by
  unfold natOf at h
  split at h
  · cases h; exact ⟨_,rfl⟩
  · cases h
end
/-! words without memory -/
section
variable {P:Program}
theorem runP_run {α:Type}:∀ (s:Sem α) {a:α} (w:World),runP P s=some a→s.run P w=.ok a w
  | .pure a,b,w,h=>by simp only [runP,Option.some.injEq] at h; subst h; rfl
  | .program k,b,w,h=>by simp only [runP] at h; simp only [Sem.run]; exact runP_run (k P) w h
  | .mark m k,b,w,h=>by simp only [runP] at h; simp only [Sem.run]; exact runP_run k w h
  | .load ..,b,w,h=>by simp [runP] at h
  | .store ..,b,w,h=>by simp [runP] at h
  | .new ..,b,w,h=>by simp [runP] at h
  | .shape ..,b,w,h=>by simp [runP] at h
  | .freeze ..,b,w,h=>by simp [runP] at h
  | .frozen ..,b,w,h=>by simp [runP] at h
  | .getObj ..,b,w,h=>by simp [runP] at h
  | .setObj ..,b,w,h=>by simp [runP] at h
  | .choose ..,b,w,h=>by simp [runP] at h
  | .sys ..,b,w,h=>by simp [runP] at h
  | .halt ..,b,w,h=>by simp [runP] at h
def genK:Op→Bool
  | .binOp .. | .unOp .. | .index .. | .slice .. | .convert .. | .call ⟨.builtin _,_,_⟩=>true
  | _=>false
theorem execOp_congr {r1 r2:Operand→Value} {o:Oper} (hk:genK o.op=true) (h:∀ x∈o.op.operands,r1 x=r2 x):execOp r1 o=execOp r2 o:=by
  obtain ⟨dst,op,ty,pos,aft,g⟩:=o
  cases op with
  | binOp op t x y yt =>
    have h1:=h x (by simp [Op.operands]); have h2:=h y (by simp [Op.operands])
    simp only [execOp,h1,h2]
  | unOp op t x=>have h1:=h x (by simp [Op.operands]); simp only [execOp,h1]
  | convert s d x=>have h1:=h x (by simp [Op.operands]); simp only [execOp,h1]
  | index t x y =>
    have h1:=h x (by simp [Op.operands]); have h2:=h y (by simp [Op.operands])
    simp only [execOp,h1,h2]
  | slice t x lo hi mx =>
    have h1:=h x (by simp [Op.operands])
    have h2:lo.map r1=lo.map r2:=by cases lo with
      | none=>rfl
      | some y=>simp only [Option.map_some,Option.some.injEq]; exact h y (by simp [Op.operands])
    have h3:hi.map r1=hi.map r2:=by cases hi with
      | none=>rfl
      | some y=>simp only [Option.map_some,Option.some.injEq]; exact h y (by simp [Op.operands])
    have h4:mx.map r1=mx.map r2:=by cases mx with
      | none=>rfl
      | some y=>simp only [Option.map_some,Option.some.injEq]; exact h y (by simp [Op.operands])
    simp only [execOp,h1,h2,h3,h4]
  | call c =>
    obtain ⟨cal,args,ts⟩:=c
    cases cal with
    | builtin b =>
      have h1:args.map r1=args.map r2:=Array.map_congr_left (fun x hx=>h x (by simp [Op.operands,Call.operands,hx]))
      simp only [execOp,resolve,h1]
    | value f=>simp [genK] at hk
    | invoke r n=>simp [genK] at hk
  | _=>simp [genK] at hk
theorem valO_some {n:Option Next} {v:Value} (h:valO n=some v):n=some (.value v)∧flat v=true:=by
  unfold valO at h
  split at h
  · rename_i u
    cases hf:flat u with
    | true=>rw [hf] at h; simp only [cond_true,Option.some.injEq] at h; subst h; exact ⟨rfl,hf⟩
    | false=>rw [hf] at h; cases h
  · cases h
theorem gen_run {o:Oper} {fr:Fr} {ev:Operand→Value} {ρ:Rn} {v:Value} (hk:genK o.op=true) (h:genF P o fr=some v) (he:EK ρ fr ev o.op.operands) (w:World):rn ρ v=some v∧(execOp ev o).run P w=.ok (.value v) w:=by
  unfold genF at h
  cases ha:allFlat fr o.op with
  | false=>rw [ha] at h; cases h
  | true =>
    rw [ha] at h
    obtain ⟨h1,h2⟩:=valO_some h
    refine ⟨rn_flat h2,?_⟩
    have hc:execOp (rdX fr) o=execOp ev o:=execOp_congr hk (fun x hx=>by
      unfold allFlat at ha;rw [List.all_eq_true] at ha
      have:=ha x (by simpa using hx)
      unfold rdX
      cases e:evX fr x with
      | none=>simp [e] at this
      | some u =>
        simp only [e] at this
        obtain ⟨u',k1,k2⟩:=he x hx u e (.inr this)
        rw [rn_flat this] at k1; cases k1; exact k2.symm)
    rw [← hc];exact runP_run _ w h1
end
/-! numbers -/
theorem wr_eq (k:IntKind) (n:Int):wr k n=k.wrap n:=by
  cases n with
  | negSucc m=>rfl
  | ofNat m =>
    show (Bool.rec (IntKind.wrap k (Int.ofNat m)) (.ofNat m) (Nat.blt m (half k)):Int)=_
    cases e:Nat.blt m (half k) with
    | false=>rfl
    | true =>
      have h:m<half k:=Nat.le_of_ble_eq_true e
      have hm:(0:Int)≤(m:Int):=by omega
      cases k <;> simp only [half] at h <;> simp [IntKind.wrap,IntKind.bits,IntKind.signed] <;> omega
theorem nbeq (a b:Nat):Nat.beq a b=decide (a=b):=by
  by_cases h:a=b
  · subst h; rw [show Nat.beq a a=true from Nat.beq_refl a]; simp
  · cases e:Nat.beq a b with
    | true=>exact absurd (Nat.eq_of_beq_eq_true e) h
    | false=>simp [h]
theorem beI_eq (m n:Int):beI m n=(m == n):=by
  have e:∀ m n:Int,(m == n)=decide (m=n):=fun m n=>rfl
  rw [e]
  cases m <;> cases n <;> simp only [beI,nbeq] <;> rw [Bool.eq_iff_iff] <;> simp <;> omega
theorem ltI_eq (m n:Int):ltI m n=decide (m<n):=by
  have e:∀ a b:Nat,Nat.blt a b=decide (a<b):=fun a b=>by
    rw [Bool.eq_iff_iff]; simp [Nat.blt,Nat.lt_iff_add_one_le]
  cases m <;> cases n <;> simp only [ltI,e] <;> rw [Bool.eq_iff_iff] <;> simp <;> omega
theorem kB_eq {k k':IntKind} (h:kB k k'=true):k=k':=by cases k <;> cases k' <;> first|rfl|cases h
theorem beB_eq:∀ (a b:List UInt8),beB a b=(a == b)
  | [],[]=>rfl
  | [],_::_=>rfl
  | _::_,[]=>rfl
  | a::l,b::m=>by
    have e:Nat.beq a.toNat b.toNat=(a == b):=by
      rw [Bool.eq_iff_iff]; simp [UInt8.toNat_inj]
    simp only [beB,e,beB_eq l m]; rfl
end Go.Ev
namespace Go.Ev
open Go.Eng
theorem bl (b:ByteArray):∀ (n i:Nat) (r:List UInt8),b.size-i=n→ByteArray.toList.loop b i r=r.reverse ++ b.data.toList.drop i:=by
  intro n
  induction n with
  | zero =>
    intro i r h
    rw [ByteArray.toList.loop]
    have h1:¬ i<b.size:=by omega
    have h2:b.data.toList.length≤i:=by simp only [ByteArray.size] at h; simp; omega
    rw [if_neg h1,List.drop_of_length_le h2]; simp
  | succ n ih =>
    intro i r h
    rw [ByteArray.toList.loop]
    have h1:i<b.size:=by omega
    have h2:i<b.data.toList.length:=by simp only [ByteArray.size] at h1; simpa using h1
    rw [if_pos h1,ih (i+1) _ (by omega),List.drop_eq_getElem_cons h2]
    have h3:b.get! i=b.data.toList[i]:=by
      have:i<b.data.size:=by simpa using h2
      simp only [ByteArray.get!];rw [getElem!_pos b.data i this]; simp
    rw [h3]; simp
theorem byteList (b:ByteArray):b.toList=b.data.toList:=by
  have:=bl b (b.size-0) 0 [] rfl
  simpa [ByteArray.toList] using this
section
variable {P:Program} {w:World}
theorem bit_wrap {f:Nat→Nat→Nat} (k:IntKind) {a b:Nat} (ha:a<half k) (hb:b<half k) (hf:∀ n,a<2 ^ n→b<2 ^ n→f a b<2 ^ n):k.wrap ((f a b:Nat):Int)=((f a b:Nat):Int):=by
  have:f a b<half k:=by
    cases k <;> simp only [half] at ha hb ⊢
    · exact hf 7 ha hb
    · exact hf 15 ha hb
    · exact hf 31 ha hb
    · exact hf 63 ha hb
    · exact hf 8 ha hb
    · exact hf 16 ha hb
    · exact hf 32 ha hb
    · exact hf 64 ha hb
  rw [← wr_eq]
  show (Bool.rec (IntKind.wrap k (Int.ofNat (f a b))) (.ofNat (f a b)) (Nat.blt (f a b) (half k)):Int)=_
  rw [show Nat.blt (f a b) (half k)=true from Nat.ble_eq_true_of_le this]; rfl
theorem bit_of (k:IntKind) {a:Nat} (ha:a<half k):(BitVec.ofInt k.bits (a:Int)).toNat=a:=by
  rw [BitVec.toNat_ofInt]
  have:a<2 ^ k.bits:=by cases k <;> simp only [half] at ha <;> simp [IntKind.bits] <;> omega
  rw [show ((2 ^ k.bits:Nat):Int)=((2 ^ k.bits:Nat):Int) from rfl,← Int.natCast_emod,Int.toNat_natCast,Nat.mod_eq_of_lt this]
theorem bitI_some {f:Nat→Nat→Nat} {k:IntKind} {m n:Int} {r:Value} (h:bitI f k m n=some r):∃ a b:Nat,m=a∧n=b∧a<half k∧b<half k∧r=.int k (f a b:Nat):=by
  cases m with
  | negSucc a=>cases h
  | ofNat a=>cases n with
    | negSucc b=>cases h
    | ofNat b =>
      have h:(Bool.rec none (some (.int k (.ofNat (f a b)))) (Nat.blt a (half k) && Nat.blt b (half k)):Option Value)=some r:=h
      cases e:(Nat.blt a (half k) && Nat.blt b (half k)) with
      | false=>rw [e] at h; cases h
      | true =>
        rw [e] at h;simp only [Bool.and_eq_true] at e
        cases h
        exact ⟨a,b,rfl,rfl,Nat.le_of_ble_eq_true e.1,Nat.le_of_ble_eq_true e.2,rfl⟩
theorem binI_run {op:BinOp} {k:IntKind} {m n:Int} {r:Value} (h:binI op k m n=some r) (hs:shO op=0) (t:TypeId) (x y:Operand) :
    (do eqGuard op t x y (.int k m) (.int k n); binOp op t (.int k m) (.int k n):Sem Value).run P w=.ok r w∧flat r=true:=by
  have hw:∀ z,wr k z=k.wrap z:=wr_eq k
  cases op <;> simp only [binI] at h <;> try (cases h; done)
  case add=>cases h; simp [eqGuard,binOp,Op.intArith,hw,flat]
  case sub=>cases h; simp [eqGuard,binOp,Op.intArith,hw,flat]
  case mul=>cases h; simp [eqGuard,binOp,Op.intArith,hw,flat]
  case eql=>cases h; simp [eqGuard,binOp,Op.intCmp,beI_eq,flat]
  case neq=>cases h; simp [eqGuard,binOp,Op.intCmp,beI_eq,flat,bne]
  case lss=>cases h; simp [eqGuard,binOp,Op.intCmp,ltI_eq,flat]
  case leq=>cases h; simp [eqGuard,binOp,Op.intCmp,ltI_eq,flat,← decide_not,Int.not_lt]
  case gtr=>cases h; simp [eqGuard,binOp,Op.intCmp,ltI_eq,flat]
  case geq=>cases h; simp [eqGuard,binOp,Op.intCmp,ltI_eq,flat,← decide_not,Int.not_lt]
  case quo =>
    cases m with
    | negSucc a=>cases h
    | ofNat a=>cases n with
      | negSucc b=>cases h
      | ofNat b =>
        simp only [quoI,nbeq] at h
        by_cases hb:b=0
        · simp [hb] at h
        · simp only [hb,decide_false,cond_false,Option.some.injEq] at h
          subst h
          have hz:((b:Nat):Int)≠0:=by omega
          have hd:((a:Nat):Int).tdiv (b:Nat)=((a / b:Nat):Int):=by simp [Int.ofNat_tdiv]
          simp [eqGuard,binOp,Op.intDiv,hb,hd,hw,flat]
  case rem =>
    cases m with
    | negSucc a=>cases h
    | ofNat a=>cases n with
      | negSucc b=>cases h
      | ofNat b =>
        simp only [remI,nbeq] at h
        by_cases hb:b=0
        · simp [hb] at h
        · simp only [hb,decide_false,cond_false,Option.some.injEq] at h
          subst h
          have hd:((a:Nat):Int).tmod (b:Nat)=((a % b:Nat):Int):=by rw [Int.tmod_eq_emod_of_nonneg (by omega)]; rfl
          simp [eqGuard,binOp,Op.intDiv,hb,hd,flat]
  case and =>
    obtain ⟨a,b,rfl,rfl,ha,hb,rfl⟩:=bitI_some h
    have h1:=bit_wrap (f:=Nat.land) k ha hb (fun n h1 h2=>Nat.and_lt_two_pow _ h2)
    have h2:=bit_of k ha; have h3:=bit_of k hb
    have h4:(BitVec.ofInt k.bits (a:Int) &&& BitVec.ofInt k.bits (b:Int)).toNat=Nat.land a b:=by rw [BitVec.toNat_and,h2,h3]; rfl
    simp only [eqGuard,binOp,Op.intBits,h4,h1]; simp [flat]
  case or =>
    obtain ⟨a,b,rfl,rfl,ha,hb,rfl⟩:=bitI_some h
    have h1:=bit_wrap (f:=Nat.lor) k ha hb (fun n h1 h2=>Nat.or_lt_two_pow h1 h2)
    have h2:=bit_of k ha; have h3:=bit_of k hb
    have h4:(BitVec.ofInt k.bits (a:Int) ||| BitVec.ofInt k.bits (b:Int)).toNat=Nat.lor a b:=by rw [BitVec.toNat_or,h2,h3]; rfl
    simp only [eqGuard,binOp,Op.intBits,h4,h1]; simp [flat]
  case xor =>
    obtain ⟨a,b,rfl,rfl,ha,hb,rfl⟩:=bitI_some h
    have h1:=bit_wrap (f:=Nat.xor) k ha hb (fun n h1 h2=>Nat.xor_lt_two_pow h1 h2)
    have h2:=bit_of k ha; have h3:=bit_of k hb
    have h4:(BitVec.ofInt k.bits (a:Int) ^^^ BitVec.ofInt k.bits (b:Int)).toNat=Nat.xor a b:=by rw [BitVec.toNat_xor,h2,h3]; rfl
    simp only [eqGuard,binOp,Op.intBits,h4,h1]; simp [flat]
theorem binS_run {op:BinOp} {s s':ByteArray} {r:Value} (h:binS op s s'=some r) (t:TypeId) (x y:Operand) :
    (do eqGuard op t x y (.string s) (.string s'); binOp op t (.string s) (.string s'):Sem Value).run P w=.ok r w∧flat r=true:=by
  have e:(s.toList == s'.toList)=beB s.data.toList s'.data.toList:=by
    rw [beB_eq,byteList,byteList]
  cases op <;> simp only [binS] at h <;> try (cases h; done)
  case eql=>cases h; refine ⟨?_,rfl⟩; simp only [eqGuard,binOp,Op.stringOp,e]; simp [Sem.run]
  case neq=>cases h; refine ⟨?_,rfl⟩; simp only [eqGuard,binOp,Op.stringOp,e]; simp [Sem.run]
  case add =>
    unfold catS at h;rw [fB_eq] at h;simp only at h
    cases hb:Nat.blt (s.data.toList ++ s'.data.toList).length 9000000000000000000 with
    | false=>rw [hb] at h; cases h
    | true =>
      rw [hb] at h;simp only [cond_true,Option.some.injEq] at h;subst h
      have hlen:(s.data.toList ++ s'.data.toList).length<9000000000000000000:=Nat.le_of_ble_eq_true hb
      have hsz:¬ IntKind.i64.max<((s.size+s'.size:Nat):Int):=by
        have h1:s.size=s.data.toList.length:=rfl
        have h2:s'.size=s'.data.toList.length:=rfl
        rw [List.length_append] at hlen
        rw [h1,h2,show IntKind.i64.max=9223372036854775807 from rfl]
        omega
      have he:s ++ s'=⟨⟨s.data.toList ++ s'.data.toList⟩⟩:=by
        apply ByteArray.ext
        rw [ByteArray.data_append]
        apply Array.ext'
        simp
      refine ⟨?_,rfl⟩;simp only [eqGuard,binOp,Op.stringOp,gt_iff_lt,if_neg hsz,he]
      simp
end
end Go.Ev
namespace Go.Ev
open Go.Eng
section
variable {P:Program} {ρ:Rn} {fr:Fr} {ev:Operand→Value} {w:World}
theorem evBin_run {op:BinOp} {u v r:Value} (h:evBin op u v=some r) (t:TypeId) (x y:Operand) :
    (do eqGuard op t x y u v; binOp op t u v:Sem Value).run P w=.ok r w∧flat r=true∧flat u=true∧flat v=true:=by
  cases u <;> simp only [evBin] at h <;> try (cases h; done)
  case int k m =>
    cases v <;> simp only [evBI] at h <;> try (cases h; done)
    case int k' n =>
      split at h
      · rename_i hs
        cases hk:kB k k' with
        | false=>rw [hk] at h; cases h
        | true =>
          rw [hk] at h
          have:=kB_eq hk; subst this
          obtain ⟨h1,h2⟩:=binI_run (P:=P) (w:=w) h hs t x y
          exact ⟨h1,h2,rfl,rfl⟩
      · rename_i hs
        have hop:op=.shl:=by cases op <;> first|rfl|cases hs
        subst hop
        cases n with
        | negSucc b=>cases h
        | ofNat b =>
          simp only [shlI,Option.some.injEq] at h;subst h;refine ⟨?_,rfl,rfl,rfl⟩
          have e:(wr k (m*2 ^ Nat.min b k.bits))=k.wrap (m*2 ^ (min b k.bits)):=wr_eq k _
          have hb:¬ ((b:Nat):Int)<0:=Int.not_lt.2 (Int.natCast_nonneg b)
          simp only [eqGuard,binOp,Op.shift,Int.ofNat_eq_natCast,if_neg hb,Int.toNat_natCast];rw [e]; simp
      · rename_i h0 h1
        have hop:op=.shr:=by cases op <;> first|rfl|exact absurd rfl h0|exact absurd rfl h1
        subst hop
        cases m with
        | negSucc a=>cases h
        | ofNat a=>cases n with
          | negSucc b=>cases h
          | ofNat b =>
            simp only [shrI,Option.some.injEq] at h;subst h;refine ⟨?_,rfl,rfl,rfl⟩
            have e:((a:Nat):Int).fdiv (2 ^ (min b k.bits))=((a / 2 ^ Nat.min b k.bits:Nat):Int):=by
              rw [Int.fdiv_eq_ediv_of_nonneg _ (by exact Int.le_of_lt (Int.pow_pos (by omega)))]
              simp
            have hb:¬ ((b:Nat):Int)<0:=Int.not_lt.2 (Int.natCast_nonneg b)
            simp only [eqGuard,binOp,Op.shift,Int.ofNat_eq_natCast,if_neg hb,Int.toNat_natCast];rw [e]; simp
  case string s =>
    cases v <;> simp only [evBS] at h <;> try (cases h; done)
    case string s' =>
      obtain ⟨h1,h2⟩:=binS_run (P:=P) (w:=w) h t x y
      exact ⟨h1,h2,rfl,rfl⟩
theorem eq_ptr1 {t e:TypeId} {b:Option Addr} (d:Nat) (he:P.underlying t=some (.pointer e)):(Op.equalIn (d+1) t (.pointer none) (.pointer b)).run P w=.ok b.isNone w:=by
  simp [Op.equalIn,run_underlying he]
theorem eq_ptr2 {t e:TypeId} {a:Addr} (d:Nat) (he:P.underlying t=some (.pointer e)):(Op.equalIn (d+1) t (.pointer (some a)) (.pointer none)).run P w=.ok false w:=by
  simp [Op.equalIn,run_underlying he]
theorem eq_sl1 {t e:TypeId} {b:Option Addr} {n c n' c':Nat} (d:Nat) (he:P.underlying t=some (.slice e)):(Op.equalIn (d+1) t (.slice none n c) (.slice b n' c')).run P w=.ok b.isNone w:=by
  simp [Op.equalIn,run_underlying he]
theorem eq_sl2 {t e:TypeId} {a:Addr} {n c n' c':Nat} (d:Nat) (he:P.underlying t=some (.slice e)):(Op.equalIn (d+1) t (.slice (some a) n c) (.slice none n' c')).run P w=.ok false w:=by
  simp [Op.equalIn,run_underlying he]
theorem eq_fn0 {t:TypeId} {a c:Array TypeId} {v:Bool} (d:Nat) (he:P.underlying t=some (.func a c v)):(Op.equalIn (d+1) t .nilFunc .nilFunc).run P w=.ok true w:=by
  simp [Op.equalIn,run_underlying he]
theorem eq_fn1 {t:TypeId} {a c:Array TypeId} {v:Bool} {f:Fn} {xs cs:Array Value} (d:Nat) (he:P.underlying t=some (.func a c v)):(Op.equalIn (d+1) t .nilFunc (.func f xs cs)).run P w=.ok false w:=by
  simp [Op.equalIn,run_underlying he]
theorem eq_fn2 {t:TypeId} {a c:Array TypeId} {v:Bool} {f:Fn} {xs cs:Array Value} (d:Nat) (he:P.underlying t=some (.func a c v)):(Op.equalIn (d+1) t (.func f xs cs) .nilFunc).run P w=.ok false w:=by
  simp [Op.equalIn,run_underlying he]
theorem evNil_run {k:Nat} {u v u' v':Value} {b:Bool} {t:TypeId} (h:evNil k u v=some b) (hk:nilK P t=k) (hu:rn ρ u=some u') (hv:rn ρ v=some v') (x y:Operand) :
    (do eqGuard .eql t x y u' v'; binOp .eql t u' v':Sem Value).run P w=.ok (.bool b) w∧(do eqGuard .neq t x y u' v'; binOp .neq t u' v':Sem Value).run P w=.ok (.bool !b) w:=by
  have hd:∀ n,nilK P t=n→(n=1→∃ e,P.underlying t=some (.pointer e))∧(n=2→∃ e,P.underlying t=some (.slice e))∧(n=3→∃ a c d,P.underlying t=some (.func a c d)):=by
    rintro n rfl;unfold nilK
    split <;> simp_all
  obtain ⟨d1,d2,d3⟩:=hd k hk
  have bb:∀ (n m:Nat) (c:Bool),(bif n.beq m then some c else none)=some b→n=m∧c=b:=fun n m c e=>by
    rw [nbeq] at e
    by_cases hnm:n=m
    · simp [hnm] at e; exact ⟨hnm,e⟩
    · simp [hnm] at e
  unfold evNil at h
  split at h
  · obtain ⟨rfl,rfl⟩:=bb _ _ _ h
    obtain ⟨e,he⟩:=d1 rfl
    rename_i q
    cases hu
    cases q with
    | none=>cases hv; simp [eqGuard,binOp,Op.equal,Op.maxDepth,eq_ptr1 9999 he]
    | some a =>
      obtain ⟨i,o,sp⟩:=a
      cases sp with
      | some s=>simp [rn,rnA] at hv
      | none =>
        obtain ⟨b',s',e',_,rfl⟩:=rn_ptr hv
        simp [eqGuard,binOp,Op.equal,Op.maxDepth,eq_ptr1 9999 he]
  · obtain ⟨rfl,rfl⟩:=bb _ _ _ h
    obtain ⟨e,he⟩:=d1 rfl
    rename_i a
    cases hv
    obtain ⟨i,o,sp⟩:=a
    cases sp with
    | some s=>simp [rn,rnA] at hu
    | none =>
      obtain ⟨b',s',e',_,rfl⟩:=rn_ptr hu
      simp [eqGuard,binOp,Op.equal,Op.maxDepth,eq_ptr2 9999 he]
  · obtain ⟨rfl,rfl⟩:=bb _ _ _ h
    obtain ⟨e,he⟩:=d2 rfl
    rename_i q n c
    cases hu
    cases q with
    | none=>cases hv; simp [eqGuard,binOp,Op.equal,Op.maxDepth,eq_sl1 9999 he]
    | some a =>
      obtain ⟨i,o,sp⟩:=a
      cases sp with
      | some s=>simp [rn] at hv
      | none =>
        obtain ⟨b',s',e',_,hv⟩:=rn_slice hv
        obtain ⟨_,_,_,rfl⟩:=rnS_any hv
        simp [eqGuard,binOp,Op.equal,Op.maxDepth,eq_sl1 9999 he]
  · obtain ⟨rfl,rfl⟩:=bb _ _ _ h
    obtain ⟨e,he⟩:=d2 rfl
    rename_i a _ _ _ _
    cases hv
    obtain ⟨i,o,sp⟩:=a
    cases sp with
    | some s=>simp [rn] at hu
    | none =>
      obtain ⟨b',s',e',_,hu⟩:=rn_slice hu
      obtain ⟨_,_,_,rfl⟩:=rnS_any hu
      simp [eqGuard,binOp,Op.equal,Op.maxDepth,eq_sl2 9999 he]
  · obtain ⟨rfl,rfl⟩:=bb _ _ _ h
    obtain ⟨a,c,d,he⟩:=d3 rfl
    cases hu; cases hv
    simp [eqGuard,binOp,Op.equal,Op.maxDepth,eq_fn0 9999 he]
  · obtain ⟨rfl,rfl⟩:=bb _ _ _ h
    obtain ⟨a,c,d,he⟩:=d3 rfl
    cases hu
    obtain ⟨f',xs',cs',rfl⟩:∃ f' xs' cs',v'=.func f' xs' cs':=by
      simp only [rn] at hv; split at hv
      · cases hv; exact ⟨_,_,_,rfl⟩
      · cases hv
    simp [eqGuard,binOp,Op.equal,Op.maxDepth,eq_fn1 9999 he]
  · obtain ⟨rfl,rfl⟩:=bb _ _ _ h
    obtain ⟨a,c,d,he⟩:=d3 rfl
    cases hv
    obtain ⟨f',xs',cs',rfl⟩:∃ f' xs' cs',u'=.func f' xs' cs':=by
      simp only [rn] at hu; split at hu
      · cases hu; exact ⟨_,_,_,rfl⟩
      · cases hu
    simp [eqGuard,binOp,Op.equal,Op.maxDepth,eq_fn2 9999 he]
  · cases h
end
end Go.Ev
namespace Go.Ev
open Go.Eng
section
variable {P:Program} {ρ:Rn} {fr:Fr} {ev:Operand→Value} {w:World} {h:AH} {η:PH}
theorem cells_at (hr:HR P ρ h η) (hw:η.le w) {i:Nat} {c:List Value} {t:TypeId} (hi:h.get i=some (.cells c t)):∃ b s e us,ρ i=some (b,s,e)∧rnL ρ c=some us∧∀ o u,us[o]?=some u→w.cell? ⟨b,s+o,none⟩=some u:=by
  obtain ⟨b,s,e,ob,h1,_,h3⟩:=hr.val i _ hi
  obtain ⟨pre,us,post,fz,k,_,k2,_⟩:=id h3
  exact ⟨b,s,e,us,h1,k2,fun o u hu=>hr.cell hw hi h1 k2 hu⟩
theorem takeO_some {n:Option (List Value)} {f:List Value→Option (List Value)} {r:List Value} (e:takeO n f=some r):∃ l,n=some l∧f l=some r:=by
  cases n with
  | none=>cases e
  | some l=>exact ⟨l,rfl,e⟩
theorem aggO_some {l:Option (List Value)} {v:Value} (e:aggO l=some v):∃ r,l=some r∧v=.agg ⟨r⟩:=by
  cases l with
  | none=>cases e
  | some r=>cases e; exact ⟨r,rfl,rfl⟩
theorem evLd_ptr {n:Option Nat} {x:Option Value} {v:Value} (e:evLd h n x=some v):∃ i o,x=some (.pointer (some ⟨i,o,none⟩))∧ldO o n (h.get i)=some v:=by
  unfold evLd at e
  split at e
  · exact ⟨_,_,rfl,e⟩
  · cases e
theorem evLd1 (hr:HR P ρ h η) (hw:η.le w) {p p' v:Value} (e:evLd h none (some p)=some v) (hp:rn ρ p=some p'):∃ b o u,p'=.pointer (some ⟨b,o,none⟩)∧rn ρ v=some u∧w.cell? ⟨b,o,none⟩=some u:=by
  obtain ⟨i,o,hx,e0⟩:=evLd_ptr e
  cases hx
  clear e;unfold ldO at e0
  split at e0
  · rename_i c t hi
    simp only [getC_eq] at e0
    obtain ⟨b,s,ex,us,h1,h2,h3⟩:=cells_at hr hw hi
    obtain ⟨b',s',e',h4,rfl⟩:=rn_ptr hp
    rw [h1] at h4; cases h4
    obtain ⟨u,h5,h6⟩:=rnL_get h2 e0
    exact ⟨b,s+o,u,rfl,h6,h3 o u h5⟩
  · cases e0
theorem evLdn (hr:HR P ρ h η) (hw:η.le w) {p p' v:Value} {n:Nat} (e:evLd h (some n) (some p)=some v) (hp:rn ρ p=some p'):∃ (b o:Nat) (us:List Value),p'=.pointer (some ⟨b,o,none⟩)∧rn ρ v=some (.agg us.toArray)∧us.length=n∧∀ j u,us[j]?=some u→w.cell? ⟨b,o+j,none⟩=some u:=by
  obtain ⟨i,o,hx,e0⟩:=evLd_ptr e
  cases hx
  clear e;unfold ldO at e0
  split at e0
  · rename_i c t hi
    obtain ⟨r,e1,rfl⟩:=aggO_some e0
    obtain ⟨l,e2,e3⟩:=takeO_some e1
    obtain ⟨rfl,k1⟩:=dropC_eq _ _ _ e2
    obtain ⟨rfl,k2⟩:=takeC_eq _ _ _ e3
    obtain ⟨b,s,ex,us,h1,h2,h3⟩:=cells_at hr hw hi
    obtain ⟨b',s',e',h4,rfl⟩:=rn_ptr hp
    rw [h1] at h4; cases h4
    have q1:=(rnL_split o h2).2
    have q2:=(rnL_split n q1).1
    refine ⟨b,s+o,(us.drop o).take n,rfl,by simp only [rn,rnR,q2],by rw [List.length_take,rnL_len q1]; omega,fun j u hu=>?_⟩
    have hj:j<n:=by
      have:=(List.getElem?_eq_some_iff.1 hu).1
      simp at this; omega
    rw [List.getElem?_take_of_lt hj,List.getElem?_drop] at hu;rw [Nat.add_assoc]; exact h3 _ u hu
  · cases e0
theorem part_run {f:TypeId} {o:Nat} {n:Option Nat} {x x' v:Value} (e:miPart o n (some x)=some v) (hx:rn ρ x=some x')
    (hn:(∃ k,n=some k∧aggP P f=some true∧szP P f=some k)∨(n=none∧aggP P f=some false)):∃ cs u,x'=.agg cs∧rn ρ v=some u∧(part f cs o).run P w=.ok u w:=by
  unfold miPart at e
  split at e
  · rename_i cs hxx
    cases hxx
    obtain ⟨us,h1,rfl⟩:=rn_agg hx
    rcases hn with ⟨k,rfl,ha,hs⟩|⟨rfl,ha⟩
    · obtain ⟨r,e1,rfl⟩:=aggO_some e
      obtain ⟨l,e2,e3⟩:=takeO_some e1
      obtain ⟨rfl,k1⟩:=dropC_eq _ _ _ e2
      obtain ⟨rfl,k2⟩:=takeC_eq _ _ _ e3
      have q1:=(rnL_split o h1).2
      have q2:=(rnL_split k q1).1
      refine ⟨_,.agg ((us.drop o).take k).toArray,rfl,by simp only [rn,rnR,q2],?_⟩
      have:us.toArray.extract o (o+k)=((us.drop o).take k).toArray:=by simp
      simp [part,Eng.run_isAgg ha,Eng.run_sizeOf hs,this]
    · simp only [getC_eq] at e
      obtain ⟨u,h5,h6⟩:=rnL_get h1 e
      have h5':us.toArray[o]?=some u:=by simpa using h5
      exact ⟨_,u,rfl,h6,by simp [part,Eng.run_isAgg ha,h5']⟩
  · cases e
theorem loadCells_run {b o:Nat} {us:List Value} (hc:∀ j u,us[j]?=some u→w.cell? ⟨b,o+j,none⟩=some u):(loadCells ⟨b,o,none⟩ us.length).run P w=.ok us.toArray w:=
  run_loadCells_list (P:=P) (w:=w) ⟨b,o,none⟩ us (fun j v hv=>by rw [Addr.add_lit]; exact hc j v hv)
/-! cuts -/
theorem slice_run {t e:TypeId} {s n c l hi m:Nat} {a:Option Addr} {lo hi' mx:Option Value} (ht:P.underlying t=some (.slice e)) (hs:szP P e=some s)
    (h1:(lo=none∧l=0)∨∃ k,lo=some (.int k (l:Int))) (h2:(hi'=none∧hi=n)∨∃ k,hi'=some (.int k (hi:Int))) (h3:(mx=none∧m=c)∨(hi'≠none∧∃ k,mx=some (.int k (m:Int)))) (k1:l≤hi) (k2:hi≤m) (k3:m≤c) :
    (Instr.sliceAt t (.slice a n c) lo hi' mx).run P w=.ok (.slice (if m=l then a else a.map (·.add (l*s))) (hi-l) (m-l)) w:=by
  have b1:∀ (k:IntKind) (i y:Nat) (code:BoundsCode),i≤y→(Instr.sliceBound (.int k (i:Int)) y code).run P w=.ok i w:=fun k i y code h=>by
    have:((i:Nat):Int)≤(y:Int):=by omega
    simp [Instr.sliceBound,asIntOf,this]
  have hb:(Instr.sliceBounds true n c lo hi' mx).run P w=.ok (l,hi,m) w:=by
    rcases h3 with ⟨rfl,rfl⟩|⟨h0,k,rfl⟩
    · rcases h2 with ⟨rfl,rfl⟩|⟨k,rfl⟩ <;> rcases h1 with ⟨rfl,rfl⟩|⟨k',rfl⟩ <;> simp [Instr.sliceBounds,b1,k1,k2]
    · rcases h2 with ⟨rfl,rfl⟩|⟨k',rfl⟩
      · exact absurd rfl h0
      · rcases h1 with ⟨rfl,rfl⟩|⟨k2',rfl⟩ <;> simp [Instr.sliceBounds,b1,k1,k2,k3]
  simp only [Instr.sliceAt,Instr.slice]
  simp [run_underlying ht,hb,Eng.run_sizeOf hs]
theorem add_at {b o l:Nat}:(⟨b,o,none⟩:Addr).add l=⟨b,o+l,none⟩:=by
  unfold Addr.add
  split
  · rename_i h; subst h; rfl
  · rfl
theorem natOpt {x:Option (Option Value)} {d l:Nat} (h:(match x with|none=>some d|some x=>natOf x)=some l):(x=none∧l=d)∨∃ k,x=some (some (.int k (l:Int))):=by
  cases x with
  | none=>cases h; exact .inl ⟨rfl,rfl⟩
  | some x=>obtain ⟨k,rfl⟩:=natOf_some h; exact .inr ⟨k,rfl⟩
theorem blt_t {a b:Nat}:Nat.blt a b=true↔a<b:=by simp [Nat.blt,Nat.lt_iff_add_one_le]
theorem blt_f {a b:Nat}:Nat.blt a b=false↔b≤a:=by
  rw [← Bool.not_eq_true,blt_t]; omega
theorem lt1_t {c:Nat}:lt1 c=true↔c<big:=blt_t
theorem lt1_f {c:Nat}:lt1 c=false↔big≤c:=blt_f
theorem lt2_t {c:Nat}:lt2 c=true↔c<big2:=blt_t
theorem lt2_f {c:Nat}:lt2 c=false↔big2≤c:=blt_f
theorem kcap1 {c:Nat} (h:c<big):kcap c=c:=by unfold kcap; rw [lt1_t.2 h]; rfl
theorem kcap2 {c:Nat} (h:big≤c) (h2:c<big2):kcap c=sub1 c:=by unfold kcap; rw [lt1_f.2 h,lt2_t.2 h2,cond_false,cond_true]
theorem big_le:big≤big2:=Nat.le_of_ble_eq_true rfl
theorem kcap3 {c:Nat} (h2:big2≤c):kcap c=0:=by
  have:big≤c:=Nat.le_trans big_le h2
  unfold kcap; rw [lt1_f.2 this,lt2_f.2 h2,cond_false,cond_false]
theorem sub1_le (c:Nat):sub1 c≤c:=Nat.mod_le c big
theorem sub1_eq {c:Nat} (h:big≤c) (h2:c<big2):c=big+sub1 c∧sub1 c<big:=by simp only [big,big2,sub1] at *; omega
theorem sub1_sub {c l:Nat} (h:big≤c) (h2:c<big2) (hl:l≤sub1 c):sub1 (c-l)=sub1 c-l∧big≤c-l∧c-l<big2:=by simp only [big,big2,sub1] at *; omega
theorem sub2_eq {d:Nat} (h:d<big2):sub2 (big2+d)=d:=by simp only [big2,sub2] at *; omega
theorem kcap_le (c:Nat):kcap c≤c:=by
  rcases Nat.lt_or_ge c big with h|h
  · rw [kcap1 h]; exact Nat.le_refl _
  · rcases Nat.lt_or_ge c big2 with h2|h2
    · rw [kcap2 h h2]; exact sub1_le c
    · rw [kcap3 h2]; exact Nat.zero_le _
theorem rn_sl1 {i o n c b s e:Nat} (h:ρ i=some (b,s,e)) (hc:c<big):rn ρ (.slice (some ⟨i,o,none⟩) n c)=some (.slice (some ⟨b,s+o,none⟩) n c):=by
  simp only [rn,rnS,h,if_pos hc]
theorem rn_eq {i o n c:Nat}:rn ρ (.slice (some ⟨i,o,none⟩) n c)=rnS ρ i o n c:=by simp only [rn]
theorem rn_sl2 {i o n c b s e:Nat} (h:ρ i=some (b,s,e)) (hc:big≤c) (hc2:c<big2):rn ρ (.slice (some ⟨i,o,none⟩) n c)=some (.slice (some ⟨b,s+o,none⟩) n (sub1 c+e)):=by
  rw [rn_eq]; unfold rnS; rw [h]; dsimp only; rw [if_neg (Nat.not_lt.2 hc),if_pos hc2]
theorem rn_sl3 {i o c b s e:Nat} (h:ρ i=some (b,s,e)) (hc2:big2≤c):rn ρ (.slice (some ⟨i,o,none⟩) 0 c)=if e=0 then some (.slice (some ⟨b,s+o,none⟩) 0 0) else some (.slice (some ⟨b,s+(o+(sub2 c)),none⟩) 0 e):=by
  have:big≤c:=Nat.le_trans big_le hc2
  rw [rn_eq]; unfold rnS; rw [h]; dsimp only; rw [if_neg (Nat.not_lt.2 this),if_neg (Nat.not_lt.2 hc2),if_pos rfl]
theorem cut_run {t e:TypeId} {s:Nat} {v v' r:Value} {lo hi mx:Option (Option Value)} {lo' hi' mx':Option Value} (ht:P.underlying t=some (.slice e)) (hs:szP P e=some s) (h:evCut v lo hi mx s=some r) (hv:rn ρ v=some v')
    (hlo:∀ k (i:Int),lo=some (some (.int k i))→lo'=some (.int k i)) (hlo0:lo=none→lo'=none) (hhi:∀ k (i:Int),hi=some (some (.int k i))→hi'=some (.int k i)) (hhi0:hi=none→hi'=none) (hmx:∀ k (i:Int),mx=some (some (.int k i))→mx'=some (.int k i)) (hmx0:mx=none→mx'=none) :
    ∃ u,rn ρ r=some u∧(Instr.sliceAt t v' lo' hi' mx').run P w=.ok u w:=by
  unfold evCut at h
  split at h
  · rename_i a n c
    generalize hL:(match lo with|none=>some 0|some x=>natOf x)=L at h
    generalize hH:(match hi with|none=>some n|some x=>natOf x)=H at h
    generalize hM:(match mx with|none=>none|some x=>bif hi.isSome then some (natOf x) else some none)=M at h
    unfold cutO at h
    split at h
    · rename_i l hh hL hH hM
      have q1:(lo'=none∧l=0)∨∃ k,lo'=some (.int k (l:Int)):=by
        rcases natOpt hL with ⟨h1,h2⟩|⟨k,h1⟩
        · exact .inl ⟨hlo0 h1,h2⟩
        · exact .inr ⟨k,hlo k _ h1⟩
      have q2:(hi'=none∧hh=n)∨∃ k,hi'=some (.int k (hh:Int)):=by
        rcases natOpt hH with ⟨h1,h2⟩|⟨k,h1⟩
        · exact .inl ⟨hhi0 h1,h2⟩
        · exact .inr ⟨k,hhi k _ h1⟩
      have q3:mx'=none:=by
        apply hmx0
        cases mx with
        | none=>rfl
        | some x=>cases hi <;> simp at hM
      have go:∀ (a':Option Addr) (C:Nat),l≤hh→hh≤C→(Instr.sliceAt t (.slice a' n C) lo' hi' mx').run P w=.ok (.slice (if C=l then a' else a'.map (·.add (l*s))) (hh-l) (C-l)) w:=fun a' C k1 k2 =>
        slice_run ht hs q1 q2 (.inl ⟨q3,rfl⟩) k1 k2 (Nat.le_refl _)
      unfold cut2 at h
      cases hb:(Nat.ble l hh && Nat.ble hh (kcap c)) with
      | false=>rw [hb] at h; cases h
      | true =>
        rw [hb] at h;simp only [Bool.and_eq_true,Nat.ble_eq,cond_true] at hb h
        obtain ⟨k1,k2⟩:=hb
        cases a with
        | none =>
          cases hv
          have hkc:kcap c≤c:=kcap_le c
          cases hl:Nat.blt l (kcap c) with
          | true =>
            rw [hl] at h
            cases h
            refine ⟨_,rfl,?_⟩
            rw [go none c k1 (by omega)]
            simp [at?]
          | false =>
            rw [hl] at h;simp only [cond_false,cutE] at h
            cases hc:lt1 c with
            | false=>rw [hc] at h; cases h
            | true =>
              rw [hc] at h
              cases h
              have e1:=kcap1 (lt1_t.1 hc)
              have e2:=blt_f.1 hl
              refine ⟨_,rfl,?_⟩
              rw [go none c k1 (by omega),show c-l=0 from by omega]
              simp
        | some ad =>
          obtain ⟨i,o,sp⟩:=ad
          cases sp with
          | some x=>simp [rn] at hv
          | none =>
            obtain ⟨b,sb,ex,hρ,_⟩:=rn_slice hv
            by_cases c1:c<big
            · rw [rn_sl1 hρ c1] at hv; cases hv
              rw [kcap1 c1] at h k2
              cases hl:Nat.blt l c with
              | true =>
                rw [hl] at h; cases h
                have hl:=blt_t.1 hl
                refine ⟨_,rn_sl1 hρ (by omega),?_⟩
                rw [go _ c k1 k2,if_neg (by omega)]
                simp [add_at,Nat.add_assoc]
              | false =>
                rw [hl] at h;simp only [cond_false,cutE,lt1_t.2 c1,cond_true] at h
                cases h
                have hl:=blt_f.1 hl
                refine ⟨_,rn_sl1 hρ (by simp [big]),?_⟩
                rw [go _ c k1 k2,if_pos (by omega),show c-l=0 from by omega]
            · by_cases c2:c<big2
              · rw [rn_sl2 hρ (Nat.not_lt.1 c1) c2] at hv; cases hv
                rw [kcap2 (Nat.not_lt.1 c1) c2] at h k2
                cases hl:Nat.blt l (sub1 c) with
                | true =>
                  rw [hl] at h; cases h
                  have hl:=blt_t.1 hl
                  obtain ⟨z1,z2,z3⟩:=sub1_sub (Nat.not_lt.1 c1) c2 (Nat.le_of_lt hl)
                  refine ⟨_,rn_sl2 hρ z2 z3,?_⟩
                  rw [go _ (sub1 c+ex) k1 (by omega),if_neg (by omega),show sub1 c+ex-l=sub1 (c-l)+ex from by omega]
                  simp [add_at,Nat.add_assoc]
                | false =>
                  rw [hl] at h;simp only [cond_false,cutE,lt1_f.2 (Nat.not_lt.1 c1),lt2_t.2 c2,cond_true] at h
                  have hls:l*s<big2:=by
                    cases q:lt2 (l*s) with
                    | true=>exact lt2_t.1 q
                    | false=>rw [q] at h; cases h
                  rw [lt2_t.2 hls] at h
                  cases h
                  have hl:=blt_f.1 hl
                  rw [rn_sl3 hρ (Nat.le_add_right _ _),sub2_eq hls]
                  by_cases he:ex=0
                  · rw [if_pos he]
                    refine ⟨_,rfl,?_⟩
                    rw [go _ (sub1 c+ex) k1 (by omega),if_pos (by omega),show sub1 c+ex-l=0 from by omega,show hh-l=0 from by omega]
                  · rw [if_neg he]
                    refine ⟨_,rfl,?_⟩
                    rw [go _ (sub1 c+ex) k1 (by omega),if_neg (by omega),show sub1 c+ex-l=ex from by omega,show hh-l=0 from by omega]
                    simp [add_at,Nat.add_assoc]
              · have c2:=Nat.not_lt.1 c2
                rw [kcap3 c2] at h k2
                have:Nat.blt l 0=false:=blt_f.2 (Nat.zero_le _)
                rw [this] at h;simp only [cond_false,cutE,lt1_f.2 (Nat.not_lt.1 c1),lt2_f.2 c2] at h
                cases h
                have l0:l=0:=by omega
                have h0:hh=0:=by omega
                subst l0 h0
                have hn:n=0:=by
                  have hv2:=hv
                  simp only [rn,rnS,hρ,if_neg c1,if_neg (Nat.not_lt.2 c2)] at hv2
                  split at hv2
                  · assumption
                  · cases hv2
                subst hn;refine ⟨v',hv,?_⟩;rw [rn_sl3 hρ c2] at hv
                by_cases he:ex=0
                · rw [if_pos he] at hv; cases hv
                  rw [go _ 0 k1 (by omega)]; simp
                · rw [if_neg he] at hv; cases hv
                  rw [go _ ex k1 (by omega)]
                  simp [add_at]
    · rename_i l hh m hL hH hM
      cases hb0:(Nat.ble m (kcap c) && lt2 c) with
      | false=>rw [hb0] at h; cases h
      | true =>
        rw [hb0] at h;simp only [Bool.and_eq_true,Nat.ble_eq,cond_true] at hb0 h
        obtain ⟨k3,hc2⟩:=hb0
        have hc2:=lt2_t.1 hc2
        unfold cut3 at h
        cases hb:(Nat.ble l hh && Nat.ble hh m) with
        | false=>rw [hb] at h; cases h
        | true =>
          rw [hb] at h;simp only [Bool.and_eq_true,Nat.ble_eq,cond_true,Option.some.injEq] at hb h
          obtain ⟨k1,k2⟩:=hb
          subst h
          have q1:(lo'=none∧l=0)∨∃ k,lo'=some (.int k (l:Int)):=by
            rcases natOpt hL with ⟨h1,h2⟩|⟨k,h1⟩
            · exact .inl ⟨hlo0 h1,h2⟩
            · exact .inr ⟨k,hlo k _ h1⟩
          have q2:(hi'=none∧hh=n)∨∃ k,hi'=some (.int k (hh:Int)):=by
            rcases natOpt hH with ⟨h1,h2⟩|⟨k,h1⟩
            · exact .inl ⟨hhi0 h1,h2⟩
            · exact .inr ⟨k,hhi k _ h1⟩
          have q3:hi'≠none∧∃ k,mx'=some (.int k (m:Int)):=by
            cases mx with
            | none=>cases hM
            | some x =>
              cases hi with
              | none=>cases hM
              | some y =>
                simp only [Option.isSome_some,cond_true,Option.some.injEq] at hM
                obtain ⟨k,rfl⟩:=natOf_some hM
                refine ⟨?_,k,hmx k _ rfl⟩
                obtain ⟨k,rfl⟩:=natOf_some (show natOf y=some hh from hH)
                rw [hhi k _ rfl]; simp
          have go:∀ (a':Option Addr) (C:Nat),m≤C→(Instr.sliceAt t (.slice a' n C) lo' hi' mx').run P w=.ok (.slice (if m=l then a' else a'.map (·.add (l*s))) (hh-l) (m-l)) w:=fun a' C k4 =>
            slice_run ht hs q1 q2 (.inr q3) k1 k2 k4
          have hkc:kcap c≤c:=kcap_le c
          have hml:∀ x y:Option Addr,(bif Nat.beq m l then x else y)=if m=l then x else y:=fun x y=>bq m l x y
          rw [hml]
          cases a with
          | none =>
            cases hv
            refine ⟨_,?_,go none c (by omega)⟩
            have e1:(if m=l then none else at? none (l*s))=none:=by split <;> rfl
            have e2:(if m=l then (none:Option Addr) else Option.map (fun a:Addr=>a.add (l*s)) none)=none:=by split <;> rfl
            rw [e1,e2]; rfl
          | some ad =>
            obtain ⟨i,o,sp⟩:=ad
            cases sp with
            | some x=>simp [rn] at hv
            | none =>
              obtain ⟨b,sb,ex,hρ,_⟩:=rn_slice hv
              have hmb:m-l<big:=by
                by_cases c1:c<big
                · rw [kcap1 c1] at k3; omega
                · rw [kcap2 (Nat.not_lt.1 c1) hc2] at k3
                  have:=(sub1_eq (Nat.not_lt.1 c1) hc2).2
                  omega
              have fin:∀ C,m≤C→∃ u,rn ρ (.slice (if m=l then some ⟨i,o,none⟩ else at? (some ⟨i,o,none⟩) (l*s)) (hh-l) (m-l))=some u∧(Instr.sliceAt t (.slice (some ⟨b,sb+o,none⟩) n C) lo' hi' mx').run P w=.ok u w:=fun C hC=>by
                rw [go _ C hC]
                by_cases e:m=l
                · rw [if_pos e,if_pos e]
                  exact ⟨_,rn_sl1 hρ hmb,rfl⟩
                · rw [if_neg e,if_neg e]
                  refine ⟨_,rn_sl1 hρ hmb,?_⟩
                  simp [add_at,Nat.add_assoc]
              by_cases c1:c<big
              · rw [rn_sl1 hρ c1] at hv; cases hv
                exact fin c (by omega)
              · rw [rn_sl2 hρ (Nat.not_lt.1 c1) hc2] at hv; cases hv
                rw [kcap2 (Nat.not_lt.1 c1) hc2] at k3
                exact fin _ (by omega)
    · cases h
  · cases h
end
end Go.Ev
namespace Go.Ev
open Go.Eng
section
variable {P:Program} {ρ:Rn} {fr:Fr} {ev:Operand→Value} {w:World} {h:AH} {η:PH}
theorem rnS_one {i o n c:Nat} {u:Value} (e:rnS ρ i o n c=some u):u.cells = #[u]:=by
  obtain ⟨_,_,_,rfl⟩:=rnS_any e; rfl
theorem rn_cl {v u:Value} (e:rn ρ v=some u):rnL ρ (cl v)=some u.cells.toList:=by
  cases v with
  | agg c =>
    obtain ⟨l⟩:=c
    obtain ⟨us,h1,rfl⟩:=rn_agg e
    simpa [cl,Value.cells] using h1
  | tuple c =>
    obtain ⟨l⟩:=c
    obtain ⟨us,h1,rfl⟩:=rn_tuple e
    simp [cl,rnL,e,Value.cells]
  | slice a n c =>
    rcases a with _|⟨i,o,_|s⟩
    · cases e; rfl
    · have:u.cells = #[u]:=rnS_one (by rw [← rn_eq]; exact e)
      simp [cl,rnL,e,this]
    · simp [rn] at e
  | bool b=>cases e; rfl
  | int k n=>cases e; rfl
  | string s=>cases e; rfl
  | float k b=>simp [rn] at e
  | complex k a b=>simp [rn] at e
  | chan r=>simp [rn] at e
  | iface t v=>simp [rn] at e
  | nilFunc=>cases e; rfl
  | nilIface=>cases e; rfl
  | pointer a =>
    have:u.cells = #[u]:=by
      have e2:=e
      simp only [rn] at e2
      split at e2
      · cases e2; rfl
      · cases e2
    simp [cl,rnL,e,this]
  | map r =>
    have:u.cells = #[u]:=by
      cases r with
      | none=>cases e; rfl
      | some i =>
        have e2:=e
        simp only [rn] at e2
        split at e2
        · cases e2; rfl
        · cases e2
    simp [cl,rnL,e,this]
  | func f xs cs =>
    have:u.cells = #[u]:=by
      have e2:=e
      simp only [rn] at e2
      split at e2
      · cases e2; rfl
      · cases e2
    simp [cl,rnL,e,this]
def PlcOK (place:Nat→Option (Nat × Nat)):List (Nat × Operand)→List (Nat × Nat × Od)→Prop
  | [],[]=>True
  | p::ps,q::qs=>(place p.1=some (q.1,q.2.1)∧odOf p.2=some q.2.2)∧PlcOK place ps qs
  | _,_=>False
theorem plcA_ok {s:Nat}:∀ {ps:List (Nat × Operand)} {qs:List (Nat × Nat × Od)},plcA s ps=some qs→PlcOK (fun i=>some (i*s,s)) ps qs
  | [],qs,e=>by cases e; trivial
  | (i,x)::r,qs,e=>by
    simp only [plcA] at e
    cases h1:odOf x with
    | none=>simp [h1] at e
    | some v=>cases h2:plcA s r with
      | none=>simp [h1,h2] at e
      | some l=>simp only [h1,h2,Option.some.injEq] at e; subst e; exact ⟨⟨rfl,h1⟩,plcA_ok h2⟩
def placeS (P:Program) (fs:List Field) (i:Nat):Option (Nat × Nat):=(fs.map fun f=>(f.offset,(szP P f.type).getD 0))[i]?
theorem plcS_ok {fs:List Field}:∀ {ps:List (Nat × Operand)} {qs:List (Nat × Nat × Od)},plcS P fs ps=some qs→PlcOK (placeS P fs) ps qs
  | [],qs,e=>by cases e; trivial
  | (i,x)::r,qs,e=>by
    simp only [plcS] at e
    cases h0:fs[i]? with
    | none=>simp [h0] at e
    | some f=>cases h1:odOf x with
      | none=>simp [h0,h1] at e
      | some v=>cases h2:plcS P fs r with
        | none=>simp [h0,h1,h2] at e
        | some l =>
          simp only [h0,h1,h2] at e
          cases h3:szP P f.type with
          | none=>simp [h3] at e
          | some s =>
            simp only [h3,Option.some.injEq] at e; subst e
            exact ⟨⟨by simp [placeS,h0,h3],h1⟩,plcS_ok h2⟩
theorem mapM_pl:∀ (fs:List Field),fs.all (fun f=>(szP P f.type).isSome)=true→(fs.mapM (fun f=>Prod.mk f.offset <$> sizeOf f.type:Field→Sem (Nat × Nat))).run P w=.ok (fs.map fun f=>(f.offset,(szP P f.type).getD 0)) w
  | [],_=>by simp
  | f::fs,e=>by
    simp only [List.all_cons,Bool.and_eq_true] at e
    obtain ⟨n,hn⟩:=Option.isSome_iff_exists.1 e.1
    simp [List.mapM_cons,Eng.run_sizeOf hn,mapM_pl fs e.2,hn]
theorem splice_arr {v:Value} {off:Nat} {cells:Array Value} (h:off+v.cells.size≤cells.size) :
    v.cells.zipIdx.foldl (fun (cs:Array Value) (x:Value × Nat)=>cs.setIfInBounds (off+x.2) x.1) cells=(cells.toList.take off ++ v.cells.toList ++ cells.toList.drop (off+v.cells.toList.length)).toArray:=by
  apply Array.ext'
  have:=splice_fold v.cells.toList 0 off cells (by simpa using h)
  simp only [Nat.add_zero] at this;rw [← Array.foldl_toList,Array.toList_zipIdx,this]
theorem fill_ev {place:Nat→Option (Nat × Nat)} {xs:Array Operand} (hf:FR ρ fr) (hk:EK ρ fr ev xs):∀ {ps:List (Nat × Operand)} {qs:List (Nat × Nat × Od)} {l:List (Nat × Nat × Value)} {zs zs' r:List Value},
    PlcOK place ps qs→(∀ x∈ps.map (·.2),x∈xs)→evPs fr qs=some l→fillC zs l=some r→rnL ρ zs=some zs'→∃ r',rnL ρ r=some r'∧Instr.fill place zs'.toArray (ps.map fun (x:Nat × Operand)=>(x.1,ev x.2))=some r'.toArray
  | [],[],l,zs,zs',r,_,_,e1,e2,e3=>by
    cases e1; cases e2
    exact ⟨zs',e3,rfl⟩
  | [],_::_,_,_,_,_,h,_,_,_,_=>h.elim
  | _::_,[],_,_,_,_,h,_,_,_,_=>h.elim
  | (i,x)::ps,(o,s,d)::qs,l,zs,zs',r,h,hx,e1,e2,e3=>by
    obtain ⟨⟨h1,h2⟩,h3⟩:=h
    simp only [evPs] at e1
    cases k1:evO fr d with
    | none=>simp [k1] at e1
    | some v=>cases k2:evPs fr qs with
      | none=>simp [k1,k2] at e1
      | some l' =>
        simp only [k1,k2,Option.some.injEq] at e1;subst e1;simp only [fillC] at e2
        cases k3:Nat.beq (cl v).length s with
        | false=>rw [k3] at e2; cases e2
        | true =>
          rw [k3] at e2
          have hs:=Nat.eq_of_beq_eq_true k3
          simp only [cond_true] at e2
          cases k4:setC o (cl v) zs with
          | none=>rw [k4] at e2; cases e2
          | some zs1 =>
            rw [k4] at e2
            obtain ⟨rfl,k5,_⟩:=setC_eq _ _ _ _ k4
            obtain ⟨u,k6,k7⟩:=od_ev hf hk (hx x (by simp)) h2 k1
            have k8:=rn_cl k6
            have k9:=rnL_len k8
            have q1:=(rnL_split o e3).1
            have q2:=(rnL_split (o+(cl v).length) e3).2
            have q3:=rnL_append.2 ⟨_,_,rnL_append.2 ⟨_,_,q1,k8,rfl⟩,q2,rfl⟩
            obtain ⟨r',m1,m2⟩:=fill_ev hf hk (ps:=ps) h3 (fun y hy=>hx y (by simp at hy ⊢; exact .inr hy)) k2 e2 q3
            refine ⟨r',m1,?_⟩
            have hl3:=rnL_len e3
            have hsz:u.cells.size=s:=by rw [← Array.length_toList,k9,hs]
            simp only [List.map_cons];unfold Instr.fill;simp only at h1;rw [h1];simp only [k7]
            rw [if_neg (by simp only [hsz,ne_eq,not_true_eq_false,decide_false,Bool.false_or,decide_eq_true_eq,List.size_toArray]; omega)]
            rw [splice_arr (by simp; omega),k9]
            exact m2
end
end Go.Ev
namespace Go.Ev
open Go.Eng
section
variable {P:Program} {ρ:Rn} {fr:Fr} {ev:Operand→Value} {w:World} {h:AH} {η:PH} {dst:Option Tmp} {ty:TypeId} {pos:String} {aft:Array Edge} {g:Option (Nat × Bool)}
theorem run_value {s:Sem Value} {v:Value} {w':World} (h:s.run P w=.ok v w'):(do pure (Next.value (← s)):Sem Next).run P w=.ok (.value v) w':=by simp [h]
def QOK (P:Program) (ρ:Rn) (ev:Operand→Value) (w:World) (o:Oper) (v:Value):Prop:=∃ u,rn ρ v=some u∧(execOp ev o).run P w=.ok (.value u) w
theorem genQ {o:Oper} {v:Value} (h1:genK o.op=true) (h2:genF P o fr=some v) (h3:EK ρ fr ev o.op.operands):QOK P ρ ev w o v:=
  let ⟨h4,h5⟩:=gen_run h1 h2 h3 w; ⟨v,h4,h5⟩
theorem q_bin {op:BinOp} {t yt:TypeId} {x y:Operand} {i:In} {v:Value} (hi:inOf P ⟨dst,.binOp op t x y yt,ty,pos,aft,g⟩=some i) (hv:evQ fr h i=some v) (hf:FR ρ fr) (hk:EK ρ fr ev #[x,y]):QOK P ρ ev w ⟨dst,.binOp op t x y yt,ty,pos,aft,g⟩ v:=by
  simp only [inOf] at hi
  split at hi
  · rename_i d d' hd hd'
    have plain:evQ fr h (.bin op d d')=some v→QOK P ρ ev w ⟨dst,.binOp op t x y yt,ty,pos,aft,g⟩ v:=fun hv=>by
      have hv:binO op (evO fr d) (evO fr d')=some v:=hv
      unfold binO at hv
      split at hv
      · rename_i a b ha hb
        obtain ⟨h1,h2,h3,h4⟩:=evBin_run (P:=P) (w:=w) hv t x y
        obtain ⟨u,k1,k2⟩:=od_ev hf hk (by simp) hd ha
        obtain ⟨u',k3,k4⟩:=od_ev hf hk (by simp) hd' hb
        rw [rn_flat h3] at k1; cases k1;rw [rn_flat h4] at k3; cases k3;refine ⟨v,rn_flat h2,?_⟩;simp only [execOp,k2,k4];exact run_value h1
      · cases hv
    unfold inBin at hi
    cases hb:binK op with
    | false=>rw [hb] at hi; cases hi; exact plain hv
    | true =>
      rw [hb] at hi;simp only [cond_true] at hi
      split at hi
      · cases hi; exact genQ rfl hv hk
      · cases hi; exact plain hv
      · rename_i k k0 k4
        cases hi
        have hv:miNil (nilK P t) _ (evO fr d) (evO fr d')=some v:=hv
        unfold miNil at hv
        split at hv
        · rename_i a b ha hb'
          unfold neB at hv
          split at hv
          · rename_i r hr
            obtain ⟨u,e1,e2⟩:=od_ev hf hk (by simp) hd ha
            obtain ⟨u',e3,e4⟩:=od_ev hf hk (by simp) hd' hb'
            obtain ⟨n1,n2⟩:=evNil_run (P:=P) (w:=w) hr rfl e1 e3 x y
            have fin:∀ (r':Bool),((do eqGuard op t x y u u'; binOp op t u u':Sem Value).run P w)=.ok (.bool r') w→(execOp ev ⟨dst,.binOp op t x y yt,ty,pos,aft,g⟩).run P w=.ok (.value (.bool r')) w:=fun r' e=>by
              simp only [execOp,e2,e4];exact run_value e
            cases op <;> first|(cases hb; done)|skip
            · cases hv; exact ⟨_,rfl,fin r n1⟩
            · cases hv; exact ⟨_,rfl,fin (!r) n2⟩
          · cases hv
        · cases hv
  · cases hi
theorem q_ld {t:TypeId} {x:Operand} {i:In} {v:Value} (hi:inOf P ⟨dst,.load t x,ty,pos,aft,g⟩=some i) (hv:evQ fr h i=some v) (hr:HR P ρ h η) (hw:η.le w) (hf:FR ρ fr) (hk:EK ρ fr ev #[x]):QOK P ρ ev w ⟨dst,.load t x,ty,pos,aft,g⟩ v:=by
  simp only [inOf] at hi
  split at hi
  · rename_i d hd ha hs
    cases hi
    have hv:evLd h none (evO fr d)=some v:=hv
    obtain ⟨i,o,e1,_⟩:=evLd_ptr hv
    rw [e1] at hv
    obtain ⟨u,e2,e3⟩:=od_ev hf hk (by simp) hd e1
    obtain ⟨b,o',u',rfl,e4,e5⟩:=evLd1 hr hw hv e2
    exact ⟨u',e4,by simp [execOp,e3,Instr.loadAt,Instr.sureAddr,loadVar,Eng.run_isAgg ha,e5]⟩
  · rename_i d n hd ha hs
    cases hi
    have hv:evLd h (some n) (evO fr d)=some v:=hv
    obtain ⟨i,o,e1,_⟩:=evLd_ptr hv
    rw [e1] at hv
    obtain ⟨u,e2,e3⟩:=od_ev hf hk (by simp) hd e1
    obtain ⟨b,o',us,rfl,e4,rfl,e5⟩:=evLdn hr hw hv e2
    exact ⟨_,e4,by simp [execOp,e3,Instr.loadAt,Instr.sureAddr,loadVar,Eng.run_isAgg ha,Eng.run_sizeOf hs,loadCells_run e5]⟩
  · cases hi
theorem q_fa {t:TypeId} {x:Operand} {f:Nat} {i:In} {v:Value} (hi:inOf P ⟨dst,.fieldAddr t x f,ty,pos,aft,g⟩=some i) (hv:evQ fr h i=some v) (hf:FR ρ fr) (hk:EK ρ fr ev #[x]):QOK P ρ ev w ⟨dst,.fieldAddr t x f,ty,pos,aft,g⟩ v:=by
  simp only [inOf] at hi
  split at hi
  · rename_i d k hd hfl
    cases hi
    have hv:evFld k (evO fr d)=some v:=hv
    unfold evFld at hv
    split at hv
    · rename_i i o ha
      cases hv
      obtain ⟨u,e2,e3⟩:=od_ev hf hk (by simp) hd ha
      obtain ⟨b,s,e,h1,rfl⟩:=rn_ptr e2
      exact ⟨.pointer (some ⟨b,s+(o+k),none⟩),by simp [rn,rnA,h1],by simp [execOp,e3,run_fieldAt hfl,Nat.add_assoc]⟩
    · cases hv
  · cases hi
theorem q_ia {t:TypeId} {x y:Operand} {i:In} {v:Value} (hi:inOf P ⟨dst,.indexAddr t x y,ty,pos,aft,g⟩=some i) (hv:evQ fr h i=some v) (hf:FR ρ fr) (hk:EK ρ fr ev #[x,y]):QOK P ρ ev w ⟨dst,.indexAddr t x y,ty,pos,aft,g⟩ v:=by
  simp only [inOf] at hi
  split at hi
  · rename_i d d' e hd hd' ht
    split at hi
    · rename_i s hs
      cases hi
      have hv:evIdx none s (evO fr d) (evO fr d')=some v:=hv
      unfold evIdx at hv
      split at hv
      · rename_i i o n c j heq ha hj
        cases hlt:Nat.blt j n with
        | false=>rw [hlt] at hv; cases hv
        | true =>
          rw [hlt] at hv; cases hv
          have hlt:=blt_t.1 hlt
          obtain ⟨k,hj⟩:=natOf_some hj
          obtain ⟨u,e2,e3⟩:=od_ev hf hk (by simp) hd ha
          obtain ⟨u',e4,e5⟩:=od_ev hf hk (by simp) hd' hj
          cases e4
          obtain ⟨_,_,_,_,e2⟩:=rn_slice e2
          obtain ⟨b,sb,e',c',h1,rfl⟩:=rnS_pos e2 (by omega)
          refine ⟨.pointer (some ⟨b,sb+(o+j*s),none⟩),by simp [rn,rnA,h1],?_⟩
          simp [execOp,e3,e5,Instr.indexAt,asIntOf,run_underlying ht,hlt,Eng.run_sizeOf hs,add_at,Nat.add_assoc]
      · rename_i heq _ _; cases heq
      · cases hv
    · cases hi
  · rename_i d d' n e hd hd' ht
    split at hi
    · rename_i s hs
      cases hi
      have hv:evIdx (some n) s (evO fr d) (evO fr d')=some v:=hv
      unfold evIdx at hv
      split at hv
      · rename_i heq _ _; cases heq
      · rename_i n' i o j heq ha hj
        cases heq
        cases hlt:Nat.blt j n with
        | false=>rw [hlt] at hv; cases hv
        | true =>
          rw [hlt] at hv; cases hv
          have hlt:=blt_t.1 hlt
          obtain ⟨k,hj⟩:=natOf_some hj
          obtain ⟨u,e2,e3⟩:=od_ev hf hk (by simp) hd ha
          obtain ⟨u',e4,e5⟩:=od_ev hf hk (by simp) hd' hj
          cases e4
          obtain ⟨b,sb,e',h1,rfl⟩:=rn_ptr e2
          refine ⟨.pointer (some ⟨b,sb+(o+j*s),none⟩),by simp [rn,rnA,h1],?_⟩
          simp [execOp,e3,e5,Instr.indexAt,asIntOf,run_underlying ht,hlt,Eng.run_sizeOf hs,add_at,Nat.add_assoc,Instr.sureAddr]
      · cases hv
    · cases hi
  · cases hi
end
end Go.Ev
namespace Go.Ev
open Go.Eng
section
variable {P:Program} {ρ:Rn} {fr:Fr} {ev:Operand→Value} {w:World} {h:AH} {η:PH} {dst:Option Tmp} {ty:TypeId} {pos:String} {aft:Array Edge} {g:Option (Nat × Bool)}
theorem q_un {op:UnOp} {t:TypeId} {x:Operand} {i:In} {v:Value} (hi:inOf P ⟨dst,.unOp op t x,ty,pos,aft,g⟩=some i) (hv:evQ fr h i=some v) (hf:FR ρ fr) (hk:EK ρ fr ev #[x]):QOK P ρ ev w ⟨dst,.unOp op t x,ty,pos,aft,g⟩ v:=by
  simp only [inOf] at hi
  split at hi
  · rename_i d hd
    cases hi
    have hv:miNot (evO fr d)=some v:=hv
    unfold miNot at hv
    split at hv
    · rename_i b ha
      cases hv
      obtain ⟨u,e2,e3⟩:=od_ev hf hk (by simp) hd ha
      cases e2
      exact ⟨_,rfl,by simp [execOp,e3,Op.unary]⟩
    · cases hv
  · cases hi; exact genQ rfl hv hk
  · cases hi
theorem q_pk {c x y:Operand} {i:In} {v:Value} (hi:inOf P ⟨dst,.pick c x y,ty,pos,aft,g⟩=some i) (hv:evQ fr h i=some v) (hf:FR ρ fr) (hk:EK ρ fr ev #[c,x,y]):QOK P ρ ev w ⟨dst,.pick c x y,ty,pos,aft,g⟩ v:=by
  simp only [inOf] at hi
  split at hi
  · rename_i d d1 d2 hd h1 h2
    cases hi
    have hv:miPick fr d1 d2 (evO fr d)=some v:=hv
    unfold miPick at hv
    split at hv
    · rename_i ha
      obtain ⟨u,e2,e3⟩:=od_ev hf hk (by simp) hd ha
      cases e2
      obtain ⟨u',e4,e5⟩:=od_ev hf hk (by simp) h1 hv
      exact ⟨_,e4,by simp [execOp,e3,e5,asBool]⟩
    · rename_i ha
      obtain ⟨u,e2,e3⟩:=od_ev hf hk (by simp) hd ha
      cases e2
      obtain ⟨u',e4,e5⟩:=od_ev hf hk (by simp) h2 hv
      exact ⟨_,e4,by simp [execOp,e3,e5,asBool]⟩
    · cases hv
  · cases hi
theorem q_ex {x:Operand} {n:Nat} {i:In} {v:Value} (hi:inOf P ⟨dst,.extract x n,ty,pos,aft,g⟩=some i) (hv:evQ fr h i=some v) (hf:FR ρ fr) (hk:EK ρ fr ev #[x]):QOK P ρ ev w ⟨dst,.extract x n,ty,pos,aft,g⟩ v:=by
  simp only [inOf,Option.map_eq_some_iff] at hi
  obtain ⟨d,hd,rfl⟩:=hi
  have hv:miExt n (evO fr d)=some v:=hv
  unfold miExt at hv
  split at hv
  · rename_i vs ha
    obtain ⟨u,e2,e3⟩:=od_ev hf hk (by simp) hd ha
    obtain ⟨us,h1,rfl⟩:=rn_tuple e2
    rw [getC_eq] at hv
    obtain ⟨u,h2,h3⟩:=rnL_get h1 hv
    have h2':us.toArray[n]?=some u:=by simpa using h2
    exact ⟨u,h3,by simp [execOp,e3,Instr.extract,h2']⟩
  · cases hv
theorem q_nc {x:Operand} {i:In} {v:Value} (hi:inOf P ⟨dst,.nilCheck x,ty,pos,aft,g⟩=some i) (hv:evQ fr h i=some v) (hf:FR ρ fr) (hk:EK ρ fr ev #[x]):QOK P ρ ev w ⟨dst,.nilCheck x,ty,pos,aft,g⟩ v:=by
  simp only [inOf,Option.map_eq_some_iff] at hi
  obtain ⟨d,hd,rfl⟩:=hi
  have hv:miNck (evO fr d)=some v:=hv
  unfold miNck at hv
  split at hv
  · rename_i a ha
    cases hv
    obtain ⟨u,e2,e3⟩:=od_ev hf hk (by simp) hd ha
    refine ⟨u,e2,?_⟩
    obtain ⟨i,o,sp⟩:=a
    cases sp with
    | some s=>simp [rn,rnA] at e2
    | none =>
      obtain ⟨b,s,e,h1,rfl⟩:=rn_ptr e2
      simp [execOp,e3]
  · rename_i f xs cs ha
    cases hv
    obtain ⟨u,e2,e3⟩:=od_ev hf hk (by simp) hd ha
    refine ⟨u,e2,?_⟩;simp only [rn,rnF] at e2
    split at e2
    · rename_i f' xs' cs' q1 q2 q3
      cases q1; cases e2
      simp [execOp,e3]
    · cases e2
  · rename_i f xs cs ha
    cases hv
    obtain ⟨u,e2,e3⟩:=od_ev hf hk (by simp) hd ha
    refine ⟨u,e2,?_⟩
    have e4:=e2
    simp only [rn] at e2
    split at e2
    · rename_i f' xs' cs' q1 q2 q3
      cases e2
      simp only [rnF] at q1
      split at q1
      · cases q1; simp [execOp,e3]
      · cases q1
    · cases e2
  · cases hv
theorem q_mf {fn:Fn} {xs cs:Array Operand} {i:In} {v:Value} (hi:inOf P ⟨dst,.makeFunc fn xs cs,ty,pos,aft,g⟩=some i) (hv:evQ fr h i=some v) (hf:FR ρ fr) (hk:EK ρ fr ev (xs ++ cs)):QOK P ρ ev w ⟨dst,.makeFunc fn xs cs,ty,pos,aft,g⟩ v:=by
  cases fn with
  | func f =>
    simp only [inOf] at hi
    split at hi
    · rename_i ds ds' h1 h2
      cases hi
      have hv:miMkf f (evOs fr ds) (evOs fr ds')=some v:=hv
      unfold miMkf at hv
      split at hv
      · rename_i vs us ha hb
        cases hv
        obtain ⟨vs',k1,k2⟩:=ods_ev hf hk (l:=xs.toList) (by intro x hx; simp at hx ⊢; exact .inl hx) h1 ha
        obtain ⟨us',k3,k4⟩:=ods_ev hf hk (l:=cs.toList) (by intro x hx; simp at hx ⊢; exact .inr hx) h2 hb
        refine ⟨.func (.func f) vs'.toArray us'.toArray,by simp [rn,rnF,rnR,k1,k3],?_⟩
        have f1:xs.map ev=vs'.toArray:=by rw [← k2,← Array.toList_map]
        have f2:cs.map ev=us'.toArray:=by rw [← k4,← Array.toList_map]
        simp [execOp,Instr.makeFunc,f1,f2]
      · cases hv
    · cases hi
  | method n=>simp [inOf] at hi
  | methodOf t n=>simp [inOf] at hi
  | via t p f q=>simp [inOf] at hi
  | yield l=>simp [inOf] at hi
theorem q_fd {t:TypeId} {x:Operand} {f:Nat} {i:In} {v:Value} (hi:inOf P ⟨dst,.field t x f,ty,pos,aft,g⟩=some i) (hv:evQ fr h i=some v) (hf:FR ρ fr) (hk:EK ρ fr ev #[x]):QOK P ρ ev w ⟨dst,.field t x f,ty,pos,aft,g⟩ v:=by
  simp only [inOf] at hi
  split at hi
  · rename_i d fs hd ht
    split at hi
    · rename_i fd hfd
      have fin:∀ n,miPart fd.offset n (evO fr d)=some v→((∃ k,n=some k∧aggP P fd.type=some true∧szP P fd.type=some k)∨(n=none∧aggP P fd.type=some false))→QOK P ρ ev w ⟨dst,.field t x f,ty,pos,aft,g⟩ v:=fun n hv hn=>by
        cases ha:evO fr d with
        | none=>rw [ha] at hv; cases hv
        | some a =>
          rw [ha] at hv
          obtain ⟨u,e2,e3⟩:=od_ev hf hk (by simp) hd ha
          obtain ⟨cs,u',rfl,e4,e5⟩:=part_run (w:=w) hv e2 hn
          exact ⟨u',e4,by simp [execOp,e3,Instr.field,run_underlying ht,hfd,asAgg,e5]⟩
      split at hi
      · rename_i n ha hs
        cases hi; exact fin (some n) hv (.inl ⟨n,rfl,ha,hs⟩)
      · rename_i ha hs
        cases hi; exact fin none hv (.inr ⟨rfl,ha⟩)
      · cases hi
    · cases hi
  · cases hi
theorem q_ix {t:TypeId} {x y:Operand} {i:In} {v:Value} (hi:inOf P ⟨dst,.index t x y,ty,pos,aft,g⟩=some i) (hv:evQ fr h i=some v) (hf:FR ρ fr) (hk:EK ρ fr ev #[x,y]):QOK P ρ ev w ⟨dst,.index t x y,ty,pos,aft,g⟩ v:=by
  simp only [inOf] at hi
  split at hi
  · rename_i d d' n e hd hd' ht
    split at hi
    · rename_i a s ha hs
      cases hi
      have hv:miIxa n s a (evO fr d) (natOf (evO fr d'))=some v:=hv
      unfold miIxa at hv
      split at hv
      · rename_i j hj
        cases hlt:Nat.blt j n with
        | false=>rw [hlt] at hv; cases hv
        | true =>
          rw [hlt] at hv;simp only [cond_true] at hv
          have hlt:=blt_t.1 hlt
          obtain ⟨k,hj⟩:=natOf_some hj
          obtain ⟨u',e4,e5⟩:=od_ev hf hk (by simp) hd' hj
          cases e4
          cases hx:evO fr d with
          | none=>rw [hx] at hv; cases hv
          | some b =>
            rw [hx] at hv
            obtain ⟨u,e2,e3⟩:=od_ev hf hk (by simp) hd hx
            obtain ⟨cs,u',rfl,e6,e7⟩:=part_run (w:=w) (f:=e) hv e2 (by
              cases a with
              | true=>exact .inl ⟨s,rfl,ha,hs⟩
              | false=>exact .inr ⟨rfl,ha⟩)
            exact ⟨u',e6,by simp [execOp,e3,e5,Instr.index,asIntOf,run_underlying ht,hlt,Eng.run_sizeOf hs,e7]⟩
      · cases hv
    · cases hi
  · cases hi; exact genQ rfl hv hk
  · cases hi
end
end Go.Ev
namespace Go.Ev
open Go.Eng
section
variable {P:Program} {ρ:Rn} {fr:Fr} {ev:Operand→Value} {w:World} {h:AH} {η:PH} {dst:Option Tmp} {ty:TypeId} {pos:String} {aft:Array Edge} {g:Option (Nat × Bool)}
theorem odO_some {x:Option Operand} {d:Option Od} (e:odO x=some d):(x=none∧d=none)∨∃ y z,x=some y∧d=some z∧odOf y=some z:=by
  cases x with
  | none=>cases e; exact .inl ⟨rfl,rfl⟩
  | some y =>
    simp only [odO] at e
    cases h:odOf y with
    | none=>simp [h] at e
    | some z=>simp only [h,Option.some.injEq] at e; exact .inr ⟨y,z,rfl,e.symm,h⟩
theorem odO_none {x y z:Option Operand} (h1:odO x=some none) (h2:odO y=some none) (h3:odO z=some none):x=none∧y=none∧z=none:=by
  have g:∀ {x:Option Operand},odO x=some none→x=none:=fun {x} h=>by
    rcases odO_some h with ⟨h,_⟩|⟨_,_,_,h,_⟩
    · exact h
    · cases h
  exact ⟨g h1,g h2,g h3⟩
theorem q_sl {t:TypeId} {x:Operand} {lo hi mx:Option Operand} {i:In} {v:Value} (hi':inOf P ⟨dst,.slice t x lo hi mx,ty,pos,aft,g⟩=some i) (hv:evQ fr h i=some v) (hf:FR ρ fr) (hk:EK ρ fr ev (Op.slice t x lo hi mx).operands):QOK P ρ ev w ⟨dst,.slice t x lo hi mx,ty,pos,aft,g⟩ v:=by
  simp only [inOf] at hi'
  split at hi'
  · rename_i d dl dh dm hd h1 h2 h3
    split at hi'
    · rename_i e ht
      split at hi'
      · rename_i s hs
        cases hi'
        have hv:miCut (dl.map (evO fr)) (dh.map (evO fr)) (dm.map (evO fr)) s (evO fr d)=some v:=hv
        unfold miCut at hv
        split at hv
        · rename_i a ha
          obtain ⟨u,e2,e3⟩:=od_ev hf hk (by simp [Op.operands]) hd ha
          have opt:∀ {y:Option Operand} {z:Option Od},odO y=some z→(∀ q∈y,q∈(Op.slice t x lo hi mx).operands)→(∀ k (n:Int),z.map (evO fr)=some (some (.int k n))→y.map ev=some (.int k n))∧(z.map (evO fr)=none→y.map ev=none):=fun {y z} hy hm=>by
            rcases odO_some hy with ⟨rfl,rfl⟩|⟨y',z',rfl,rfl,hz⟩
            · exact ⟨fun k n e=>by simp at e,fun _=>rfl⟩
            · refine ⟨fun k n e=>?_,fun e=>by simp at e⟩
              simp only [Option.map_some,Option.some.injEq] at e ⊢
              obtain ⟨u',k1,k2⟩:=od_ev hf hk (hm y' rfl) hz e
              cases k1; exact k2
          obtain ⟨l1,l2⟩:=opt h1 (fun q hq=>by simp [Op.operands]; rw [hq]; simp)
          obtain ⟨l3,l4⟩:=opt h2 (fun q hq=>by simp [Op.operands]; rw [hq]; simp)
          obtain ⟨l5,l6⟩:=opt h3 (fun q hq=>by simp [Op.operands]; rw [hq]; simp)
          obtain ⟨r,k1,k2⟩:=cut_run (P:=P) (w:=w) ht hs hv e2 l1 l2 l3 l4 l5 l6
          exact ⟨r,k1,by simp only [execOp,e3]; exact run_value k2⟩
        · cases hv
      · cases hi'
    · rename_i n e ht
      split at hi'
      · rename_i s hs
        cases hi'
        have hv:miAcu n (evO fr d)=some v:=hv
        unfold miAcu at hv
        split at hv
        · rename_i a b ha
          cases hb:Nat.blt n big with
          | false=>rw [hb] at hv; cases hv
          | true =>
            rw [hb,cond_true] at hv
            cases hv
            obtain ⟨u,e2,e3⟩:=od_ev hf hk (by simp [Op.operands]) hd ha
            obtain ⟨c,s',x',hρ,rfl⟩:=rn_ptr e2
            have hlt:n<big:=blt_t.1 hb
            obtain ⟨q1,q2⟩:=odO_none h1 h2 h3
            have hn:P.arrayLen t=n:=by simp [Program.arrayLen,ht]
            have he:P.elem t=e:=by simp [Program.elem,ht]
            refine ⟨.slice (some ⟨c,s'+b,none⟩) n n,by simp only [rn,rnS,hρ,if_pos hlt],?_⟩
            subst q1
            obtain ⟨rfl,rfl⟩:=q2
            simp only [execOp,e3,Option.map_none];refine run_value ?_
            rw [run_sliceAt_array_all w t _ (by rw [hn,he]; exact ht),he,Eng.run_sizeOf hs,hn]
            simp [slicedAt,Addr.add_lit]
        · cases hv
      · cases hi'
    · split at hi'
      · cases hi'; exact genQ rfl hv hk
      · cases hi'
    · cases hi'
  · cases hi'
theorem zsP_some {t:TypeId} {zs:List Value} (e:zsP P t=some zs):∃ z,zeroP P t=some z∧z.cells.toList=zs∧rnL ρ zs=some zs:=by
  unfold zsP at e
  split at e
  · rename_i z hz
    cases hf:flat z with
    | false=>rw [hf] at e; cases e
    | true =>
      rw [hf] at e; cases e;refine ⟨z,hz,rfl,?_⟩
      have:=rn_cl (ρ:=ρ) (rn_flat hf)
      rwa [← cl_eq] at this
  · cases e
theorem q_bd {t:TypeId} {ps:Array (Nat × Operand)} {i:In} {v:Value} (hi:inOf P ⟨dst,.build t ps,ty,pos,aft,g⟩=some i) (hv:evQ fr h i=some v) (hf:FR ρ fr) (hk:EK ρ fr ev (Op.build t ps).operands):QOK P ρ ev w ⟨dst,.build t ps,ty,pos,aft,g⟩ v:=by
  have hx:∀ x∈ps.toList.map (·.2),x∈(Op.build t ps).operands:=fun x hx=>by simpa [Op.operands] using hx
  have hps:ps.map (fun (x:Nat × Operand)=>(x.1,ev x.2))=(ps.toList.map fun (x:Nat × Operand)=>(x.1,ev x.2)).toArray:=by
    rw [← Array.toList_map]
  simp only [inOf] at hi
  split at hi
  · rename_i fs zs ht hz
    cases hall:fs.toList.all (fun f=>(szP P f.type).isSome) with
    | false=>rw [hall] at hi; cases hi
    | true =>
      rw [hall] at hi;simp only [cond_true,Option.map_eq_some_iff] at hi
      obtain ⟨qs,hq,rfl⟩:=hi
      have hv:miBld zs (evPs fr qs)=some v:=hv
      unfold miBld at hv
      split at hv
      · rename_i l hl
        obtain ⟨r,e1,rfl⟩:=aggO_some hv
        obtain ⟨z,z1,z2,z3⟩:=zsP_some (ρ:=ρ) hz
        obtain ⟨r',e2,e3⟩:=fill_ev hf hk (plcS_ok hq) hx hl e1 z3
        refine ⟨.agg r'.toArray,by simp only [rn,rnR,e2],?_⟩
        have hm:=mapM_pl (P:=P) (w:=w) fs.toList hall
        have hmm:(fs.mapM (fun f=>Prod.mk f.offset <$> sizeOf f.type:Field→Sem (Nat × Nat))).run P w=.ok (fs.toList.map fun f=>(f.offset,(szP P f.type).getD 0)).toArray w:=by
          rw [Array.mapM_eq_mapM_toList]
          simp [hm]
        have hfill:Instr.fill (fun x=>Option.map (fun f=>(f.offset,(szP P f.type).getD 0)) fs[x]?) z.cells (List.map (fun (x:Nat × Operand)=>(x.1,ev x.2)) ps.toList)=some r'.toArray:=by
          have hz2:z.cells=zs.toArray:=by rw [← z2]
          rw [hz2,← e3]
          congr 1
          funext i
          simp [placeS]
        simp only [execOp,Instr.build]
        simp [run_zeroValue z1,run_underlying ht,hmm]
        rw [hfill]; simp
      · cases hv
  · rename_i n e zs ht hz
    split at hi
    · rename_i s hs
      simp only [Option.map_eq_some_iff] at hi
      obtain ⟨qs,hq,rfl⟩:=hi
      have hv:miBld zs (evPs fr qs)=some v:=hv
      unfold miBld at hv
      split at hv
      · rename_i l hl
        obtain ⟨r,e1,rfl⟩:=aggO_some hv
        obtain ⟨z,z1,z2,z3⟩:=zsP_some (ρ:=ρ) hz
        obtain ⟨r',e2,e3⟩:=fill_ev hf hk (plcA_ok hq) hx hl e1 z3
        refine ⟨.agg r'.toArray,by simp only [rn,rnR,e2],?_⟩
        have hz2:z.cells=zs.toArray:=by rw [← z2]
        simp only [execOp,Instr.build]
        simp [run_zeroValue z1,run_underlying ht,Eng.run_sizeOf hs,hz2,hps,e3]
      · cases hv
    · cases hi
  · cases hi
theorem bytes_of {l:List Value} {bs:List UInt8} (e:bytesOf l=some bs):∃ ns:List Int,l=ns.map (Value.int .u8)∧∀ r:ByteArray,ns.foldl (fun r n=>r.push (UInt8.ofNat n.toNat)) r=⟨⟨r.data.toList ++ bs⟩⟩:=by
  induction l generalizing bs with
  | nil=>cases e; exact ⟨[],rfl,fun r=>by simp⟩
  | cons v l ih =>
    unfold bytesOf at e
    split at e
    · rename_i heq; cases heq
    · rename_i b l' heq
      cases heq
      split at e
      · rename_i bs' hb
        cases e
        obtain ⟨ns,rfl,h2⟩:=ih hb
        refine ⟨(b:Int)::ns,rfl,fun r=>?_⟩
        rw [List.foldl_cons,h2]
        simp [ByteArray.push]
      · cases e
    · cases e
theorem rnL_ints:∀ (ns:List Int),rnL ρ (ns.map (Value.int .u8))=some (ns.map (Value.int .u8))
  | []=>rfl
  | n::ns=>by simp only [List.map_cons]; exact rnL_cons.2 ⟨_,_,rfl,rnL_ints ns,rfl⟩
theorem q_cv {s d:TypeId} {x:Operand} {i:In} {v:Value} (hi:inOf P ⟨dst,.convert s d x,ty,pos,aft,g⟩=some i) (hv:evQ fr h i=some v) (hr:HR P ρ h η) (hw:η.le w) (hf:FR ρ fr) (hk:EK ρ fr ev #[x]):QOK P ρ ev w ⟨dst,.convert s d x,ty,pos,aft,g⟩ v:=by
  simp only [inOf] at hi
  split at hi
  · rename_i o ho
    unfold inConv at hi
    split at hi
    · rename_i k' k hs hd
      cases hi
      have hv:miCnv k (evO fr o)=some v:=hv
      unfold miCnv at hv
      split at hv
      · rename_i k2 n ha
        cases hv
        obtain ⟨u,e2,e3⟩:=od_ev hf hk (by simp) ho ha
        cases e2
        exact ⟨_,rfl,by simp [execOp,e3,convert,run_underlying hs,run_underlying hd,Conv.intToInt,wr_eq]⟩
      · cases hv
    · rename_i hs hd
      cases hi
      exact genQ rfl hv hk
    · rename_i e hs hd
      split at hi
      · cases hi; cases hv
      · cases hi
    · rename_i e hs hd
      split at hi
      · rename_i he
        cases hi
        have hv:miB2s h (evO fr o)=some v:=hv
        unfold miB2s at hv
        split at hv
        · rename_i i o' n c ha
          obtain ⟨u,e2,e3⟩:=od_ev hf hk (by simp) ho ha
          cases hl:loadN h i o' n with
          | none=>rw [hl] at hv; cases hv
          | some l =>
            rw [hl] at hv;simp only [bytesO] at hv
            cases hb:bytesOf l with
            | none=>rw [hb] at hv; cases hv
            | some bs =>
              rw [hb] at hv
              cases hv
              obtain ⟨ns,rfl,h2⟩:=bytes_of hb
              obtain ⟨b,s',ex,hρ,e2⟩:=rn_slice e2
              obtain ⟨us,k1,k2,k3⟩:=hr.row hw hl hρ
              rw [rnL_ints] at k1; cases k1;refine ⟨_,rfl,?_⟩
              have hlen:ns.length=n:=by simpa using k2
              have hld:∀ b' o2 C,u=.slice (some ⟨b',o2,none⟩) n C→(b'=b∧o2=s'+o')∨n=0:=fun b' o2 C hu=>by
                by_cases hn:n=0
                · exact .inr hn
                · obtain ⟨b2,s2,e2',c2,h3,h4⟩:=rnS_pos e2 (by omega)
                  rw [hρ] at h3; cases h3;rw [hu] at h4; cases h4;exact .inl ⟨rfl,rfl⟩
              obtain ⟨b',o2,C,rfl⟩:=rnS_any e2
              have hcells:(loadCells ⟨b',o2,none⟩ n).run P w=.ok (ns.map (Value.int .u8)).toArray w:=by
                rcases hld b' o2 C rfl with ⟨rfl,rfl⟩|hn
                · have:=loadCells_run (P:=P) k3
                  rwa [show (ns.map (Value.int IntKind.u8)).length=n from by simpa using hlen] at this
                · subst hn
                  have:ns=[]:=List.eq_nil_of_length_eq_zero hlen
                  subst this
                  simp [loadCells,loadCellsFrom]
              have hb:=run_bytesToString (P:=P) w ⟨b',o2,none⟩ n C ns hcells
              rw [h2] at hb;simp only [execOp,e3];refine run_value ?_;rw [run_convert_bytes_string w s d e _ n C hs he hd,hb]
              simp
        · rename_i n c ha
          cases hv
          obtain ⟨u,e2,e3⟩:=od_ev hf hk (by simp) ho ha
          cases e2
          refine ⟨_,rfl,?_⟩;simp only [execOp,e3];refine run_value ?_;rw [run_convert_bytes_string w s d e _ n c hs he hd]
          simp [Conv.bytesToString]
          rfl
        · cases hv
      · cases hi
    · cases hi
  · cases hi
theorem q_ln {i:In} {v:Value} {c:Call} {b:Builtin} (hc:c.callee=.builtin b) (hi:inOf P ⟨dst,.call c,ty,pos,aft,g⟩=some i) (hq:(∃ m,i=.mi m)) (hv:evQ fr h i=some v) (hf:FR ρ fr) (hk:EK ρ fr ev (Op.call c).operands):QOK P ρ ev w ⟨dst,.call c,ty,pos,aft,g⟩ v:=by
  obtain ⟨cal,args,ts⟩:=c
  simp only at hc;subst hc
  obtain ⟨m,rfl⟩:=hq
  simp only [inOf] at hi;unfold inCall at hi;simp only at hi;unfold inCallB at hi
  split at hi
  · rename_i x t h1 h2
    unfold inLen at hi
    split at hi
    · rename_i e ht
      cases hi
      have hv:miLen (evO fr x)=some v:=hv
      unfold miLen at hv
      split at hv
      · rename_i a n c ha
        cases hv
        obtain ⟨y,hy⟩:∃ y,args = #[y]∧odOf y=some x:=by
          obtain ⟨l⟩:=args
          cases l with
          | nil=>cases h1
          | cons y l =>
            simp only [odsOf] at h1
            cases k1:odOf y with
            | none=>simp [k1] at h1
            | some d=>cases k2:odsOf l with
              | none=>simp [k1,k2] at h1
              | some r =>
                simp only [k1,k2,Option.some.injEq,List.cons.injEq] at h1
                obtain ⟨rfl,rfl⟩:=h1
                cases l with
                | nil=>exact ⟨y,rfl,k1⟩
                | cons z l =>
                  simp only [odsOf] at k2
                  split at k2
                  · cases k2
                  · cases k2
        obtain ⟨rfl,hy⟩:=hy
        obtain ⟨u,e2,e3⟩:=od_ev hf hk (by simp [Op.operands,Call.operands]) hy ha
        have hts:ts = #[t]:=by obtain ⟨l⟩:=ts; simp at h2; subst h2; rfl
        subst hts
        obtain ⟨a',C,rfl⟩:∃ a' C,u=.slice a' n C:=by
          rcases a with _|⟨i,o,_|s⟩
          · cases e2; exact ⟨_,_,rfl⟩
          · obtain ⟨_,_,_,_,e2⟩:=rn_slice e2
            obtain ⟨_,_,_,rfl⟩:=rnS_any e2
            exact ⟨_,_,rfl⟩
          · simp [rn] at e2
        refine ⟨_,rfl,?_⟩
        simp [execOp,resolve,e3,invoke,builtin,Builtin.len_,run_underlying ht,goInt]
      · cases hv
    · cases hi; exact genQ rfl hv hk
    · cases hi
  · cases hi; exact genQ rfl hv hk
  · cases hi; exact genQ rfl hv hk
  · repeat' split at hi
    all_goals first|(cases hi; done)|(rename_i zs _ _ _; cases hz:zs.length.beq _ <;> rw [hz] at hi <;> cases hi)
  · repeat' split at hi
    all_goals cases hi
  · repeat' split at hi
    all_goals first|(cases hi; done)|(rename_i zs _ _; cases hz:zs.length.beq _ <;> rw [hz] at hi <;> cases hi)
  · cases hi
theorem findK_run {kk:IntKind} {kn:Int} {kd:IntKind}:∀ {es es':List MapEntry} {j:Nat} {r:Option (Nat × Value)},findK kk kn es j=some r→rnE ρ es=some es' →
    match r with
    | none=>Instr.findNow (.int kd) (.int kk kn) es' j=some none
    | some (n,v)=>∃ v',rn ρ v=some v'∧Instr.findNow (.int kd) (.int kk kn) es' j=some (some (n,v'))∧j≤n∧(es[n-j]?).map (·.val)=some v∧(es'[n-j]?).map (·.key)=some (.int kk kn)
  | [],es',j,r,e,h=>by cases e; cases h; rfl
  | m::l,es',j,r,e,h=>by
    simp only [rnE] at h
    cases h1:rn ρ m.key with
    | none=>simp [h1] at h
    | some k'=>cases h2:rn ρ m.val with
      | none=>simp [h1,h2] at h
      | some v'=>cases h3:rnE ρ l with
        | none=>simp [h1,h2,h3] at h
        | some l' =>
          simp only [h1,h2,h3,Option.some.injEq] at h;subst h;simp only [findK] at e
          split at e
          · rename_i k n hkey
            rw [hkey] at h1; cases h1
            cases hk:kB kk k with
            | false=>rw [hk] at e; cases e
            | true =>
              rw [hk] at e
              have:=kB_eq hk; subst this
              simp only [cond_true,beI_eq] at e
              by_cases hn:kn=n
              · subst hn
                simp only [BEq.rfl,cond_true,Option.some.injEq] at e;subst e
                exact ⟨v',h2,by simp [Instr.findNow,Instr.sameNow],Nat.le_refl _,by simp,by simp⟩
              · have hb:(kn == n)=false:=by simpa using hn
                rw [hb] at e;simp only [cond_false] at e
                have ih:=findK_run (kd:=kd) e h3
                have hs:∀ q,Instr.findNow (.int kd) (.int kk kn) (⟨.int kk n,v',m.born⟩::l') j=q↔Instr.findNow (.int kd) (.int kk kn) l' (j+1)=q:=fun q=>by
                  simp [Instr.findNow,Instr.sameNow,hb]
                cases r with
                | none=>exact (hs _).2 ih
                | some p =>
                  obtain ⟨n',v2⟩:=p
                  obtain ⟨v3,q1,q2,q3,q4,q5⟩:=ih
                  refine ⟨v3,q1,(hs _).2 q2,by omega,?_,?_⟩
                  · rw [show n'-j=(n'-(j+1))+1 from by omega]; simpa using q4
                  · rw [show n'-j=(n'-(j+1))+1 from by omega]; simpa using q5
          · cases e
theorem map_at (hr:HR P ρ h η) (hw:η.le w) {r cl:Nat} {es:List MapEntry} (hg:h.get r=some (.map es cl)):∃ b s e es',ρ r=some (b,s,e)∧rnE ρ es=some es'∧w.heap[b]?=some (.map es'.toArray cl)∧η b=some (.map es'.toArray cl):=by
  obtain ⟨b,s,e,o,h1,h2,h3⟩:=hr.val r _ hg
  obtain ⟨es',rfl,h4⟩:=h3
  exact ⟨b,s,e,es',h1,h4,hw b _ h2,h2⟩
theorem ck_run {kt:TypeId} {kd kk:IntKind} {kn:Int} (e:Bool) (n:Nat) (hkt:P.underlying kt=some (.int kd)):(Instr.checkKey e (n+1) kt (.int kk kn)).run P w=.ok () w:=by
  simp [Instr.checkKey,run_underlying hkt]
theorem keyN_int {kt:TypeId} (h:keyN P kt=some 0):∃ kd,P.underlying kt=some (.int kd):=by
  unfold keyN at h
  split at h
  · rename_i kd hu; exact ⟨kd,hu⟩
  · split at h
    · cases h
    · split at h <;> cases h
  · cases h
theorem keyN_str {kt:TypeId} {n:Nat} (h:keyN P kt=some (n+1)):KeyS P kt (n+1):=by
  unfold keyN at h
  split at h
  · cases h
  · split at h
    · cases h
    · split at h
      · rename_i hb
        cases h
        rw [Bool.and_eq_true,Bool.not_eq_true'] at hb;exact ⟨hb.1,hb.2⟩
      · cases h
  · cases h
theorem intsV_map:∀ {a:List Value} {b:List Int},intsV a=some b→a=b.map int
  | [],b,h=>by cases h; rfl
  | v::l,b,h=>by
    simp only [intsV] at h
    split at h
    · rename_i n r h1 h2
      cases h
      have e:=intsV_map h2
      unfold intV at h1
      split at h1
      · cases h1; rw [e]; rfl
      · cases h1
    · cases h
theorem eqI_iff:∀ {a b:List Int},eqI a b=true↔a=b
  | [],[]=>by simp [eqI]
  | [],_::_=>by simp [eqI]
  | _::_,[]=>by simp [eqI]
  | x::a,y::b=>by simp [eqI,beI_eq,eqI_iff (a:=a) (b:=b)]
theorem flatL_ints:∀ (b:List Int),flatL (b.map int)=true
  | []=>rfl
  | x::b=>by
    have:=flatL_ints b
    simp [flatL,flat,this]
theorem flat_aggI (b:List Int):flat (aggI b)=true:=flatL_ints b
theorem findS_run {kt:TypeId} {b:List Int} {n:Nat} (hk:KeyS P kt n) (hn:b.length=n):∀ {es es':List MapEntry} {j:Nat} {r:Option (Nat × Value)},findS b n es j=some r→rnE ρ es=some es' →
    match r with
    | none=>(Instr.findAsking kt (aggI b) es' j).run P w=.ok none w
    | some (i,v)=>∃ v',rn ρ v=some v'∧(Instr.findAsking kt (aggI b) es' j).run P w=.ok (some (i,v')) w∧j≤i∧(es[i-j]?).map (·.val)=some v∧(es'[i-j]?).map (·.key)=some (aggI b)
  | [],es',j,r,e,h=>by cases e; cases h; simp [Instr.findAsking]
  | m::l,es',j,r,e,h=>by
    simp only [rnE] at h
    cases h1:rn ρ m.key with
    | none=>simp [h1] at h
    | some k'=>cases h2:rn ρ m.val with
      | none=>simp [h1,h2] at h
      | some v'=>cases h3:rnE ρ l with
        | none=>simp [h1,h2,h3] at h
        | some l' =>
          simp only [h1,h2,h3,Option.some.injEq] at h;subst h;simp only [findS] at e
          split at e
          · rename_i a hkey
            split at e
            · rename_i c hc
              have ea:=intsV_map hc
              subst ea
              have hkf:m.key=aggI c:=hkey
              rw [hkf,rn_flat (flat_aggI c)] at h1
              cases h1
              cases hlb:c.length.beq n with
              | false=>rw [hlb] at e; cases e
              | true =>
                have hcl:=Nat.eq_of_beq_eq_true hlb
                rw [hlb,cond_true] at e
                have he:=run_eqInts (P:=P) w hk.i hk.s hn hcl
                by_cases hbc:b=c
                · subst hbc
                  rw [eqI_iff.2 rfl,cond_true] at e
                  cases e
                  refine ⟨v',h2,?_,Nat.le_refl _,by simp,by simp⟩
                  simp only [Instr.findAsking,Op.equal,Op.maxDepth,Sem.run_bind,he,Result.andThen_ok]
                  simp
                · have hf:eqI b c=false:=by cases hx:eqI b c with
                    | false=>rfl
                    | true=>exact absurd (eqI_iff.1 hx) hbc
                  rw [hf,cond_false] at e
                  have ih:=findS_run hk hn e h3
                  have hs:∀ q,(Instr.findAsking kt (aggI b) (⟨aggI c,v',m.born⟩::l') j).run P w=q↔(Instr.findAsking kt (aggI b) l' (j+1)).run P w=q:=fun q=>by
                    simp only [Instr.findAsking,Op.equal,Op.maxDepth,Sem.run_bind,he,Result.andThen_ok,hbc,decide_false,Bool.false_eq_true,if_false]
                  cases r with
                  | none=>exact (hs _).2 ih
                  | some p =>
                    obtain ⟨n',v2⟩:=p
                    obtain ⟨v3,q1,q2,q3,q4,q5⟩:=ih
                    refine ⟨v3,q1,(hs _).2 q2,by omega,?_,?_⟩
                    · rw [show n'-j=(n'-(j+1))+1 from by omega]; simpa using q4
                    · rw [show n'-j=(n'-(j+1))+1 from by omega]; simpa using q5
            · cases e
          · cases e
theorem findA_run {kt:TypeId} {n:Nat} {k k':Value} {es es':List MapEntry} {r:Option (Nat × Value)} (hkt:keyN P kt=some n):findA n k es=some r→rnE ρ es=some es'→rn ρ k=some k' →
    k'=k∧(∀ em,(Instr.checkKey em 10000 kt k).run P w=.ok () w)∧Instr.sameBits 10000 k k=true ∧
    match r with
    | none=>(Instr.findKey kt k es').run P w=.ok none w
    | some (i,v)=>∃ v',rn ρ v=some v'∧(Instr.findKey kt k es').run P w=.ok (some (i,v')) w∧(es[i]?).map (·.val)=some v∧(es'[i]?).map (·.key)=some k:=by
  intro e h hk
  cases n with
  | zero =>
    cases k with
    | int kk kn =>
      have e:findK kk kn es 0=some r:=e
      obtain ⟨kd,hu⟩:=keyN_int hkt
      cases hk
      have hc:=fun em=>ck_run (P:=P) (w:=w) (kk:=kk) (kn:=kn) em 9999 hu
      simp only [Nat.reduceAdd] at hc
      refine ⟨rfl,hc,by unfold Instr.sameBits; cases kk <;> simp,?_⟩
      have q:=findK_run (kd:=kd) e h
      cases r with
      | none=>simp only at q; simp [Instr.findKey,run_underlying hu,q]
      | some p =>
        obtain ⟨i,v⟩:=p
        obtain ⟨v',q1,q2,_,q4,q5⟩:=q
        exact ⟨v',q1,by simp [Instr.findKey,run_underlying hu,q2],by simpa using q4,by simpa using q5⟩
    | _=>cases e
  | succ m =>
    cases k with
    | agg a =>
      obtain ⟨a⟩:=a
      have e2:(match intsV a with
        | some b=>bif b.length.beq (m+1) then findS b (m+1) es 0 else none
        | none=>none)=some r:=e
      clear e
      cases hb:intsV a with
      | none=>rw [hb] at e2; cases e2
      | some b =>
        rw [hb] at e2;simp only at e2
        have ea:=intsV_map hb
        subst ea
        cases hlb:b.length.beq (m+1) with
        | false=>rw [hlb] at e2; cases e2
        | true =>
          have hbl:=Nat.eq_of_beq_eq_true hlb
          rw [hlb,cond_true] at e2
          have hS:=keyN_str hkt
          have hkk:rn ρ (aggI b)=some k':=hk
          rw [rn_flat (flat_aggI b)] at hkk
          cases hkk
          obtain ⟨fs,hu,_,_⟩:=intsP_of hS.i
          refine ⟨rfl,fun em=>run_checkS hS hbl em,sameBits_agg b,?_⟩
          have q:=findS_run (w:=w) hS hbl e2 h
          have hfk:(Instr.findKey kt (aggI b) es').run P w=(Instr.findAsking kt (aggI b) es' 0).run P w:=by rw [run_findKey_eq w (by rw [hu])]
          cases r with
          | none=>exact hfk.trans q
          | some p =>
            obtain ⟨i,v⟩:=p
            obtain ⟨v',q1,q2,_,q4,q5⟩:=q
            exact ⟨v',q1,hfk.trans q2,by simpa using q4,by simpa using q5⟩
    | _=>cases e
theorem q_lk {t:TypeId} {x y:Operand} {ok:Bool} {i:In} {v:Value} (hi:inOf P ⟨dst,.lookup t x y ok,ty,pos,aft,g⟩=some i) (hv:evQ fr h i=some v) (hr:HR P ρ h η) (hw:η.le w) (hf:FR ρ fr) (hk:EK ρ fr ev #[x,y]):QOK P ρ ev w ⟨dst,.lookup t x y ok,ty,pos,aft,g⟩ v:=by
  simp only [inOf] at hi
  split at hi
  · rename_i d d' kt e hd hd' ht
    split at hi
    · rename_i n z hkt hz
      cases hfz:flat z with
      | false=>rw [hfz] at hi; cases hi
      | true =>
        rw [hfz] at hi
        cases hi
        have hv:miLkp h z ok n (evO fr d) (evO fr d')=some v:=hv
        unfold miLkp at hv
        split at hv
        · rename_i r k ha hb
          split at hv
          · rename_i es cl hg
            obtain ⟨u,e2,e3⟩:=od_ev hf hk (by simp) hd ha
            obtain ⟨u',e4,e5⟩:=od_ev hf hk (by simp) hd' hb
            obtain ⟨b,s,ex,es',h1,h2,h3,_⟩:=map_at hr hw hg
            simp only [rn,h1,Option.some.injEq] at e2;subst e2;unfold lkpR at hv
            split at hv
            · rename_i n' v' hfk
              obtain ⟨rfl,hc,_,v2,q1,hfk2,_,_⟩:=findA_run (w:=w) hkt hfk h2 e4
              cases ok with
              | true =>
                cases hv
                refine ⟨.tuple #[v2,.bool true],?_,?_⟩
                · have:=rnL_cons.2 ⟨v2,[.bool true],q1,(rfl:rnL ρ [.bool true]=some [.bool true]),rfl⟩
                  show rn ρ (.tuple ⟨[v',.bool true]⟩)=_
                  simp only [rn,rnR,this]
                · simp [execOp,e3,e5,Instr.lookup,run_underlying ht,getObj,Sem.run,h3,hc,hfk2]
              | false =>
                cases hv
                exact ⟨v2,q1,by simp [execOp,e3,e5,Instr.lookup,run_underlying ht,getObj,Sem.run,h3,hc,hfk2]⟩
            · rename_i hfk
              obtain ⟨rfl,hc,_,hfk2⟩:=findA_run (w:=w) hkt hfk h2 e4
              have q1:=rn_flat (ρ:=ρ) hfz
              cases ok with
              | true =>
                cases hv
                refine ⟨.tuple #[z,.bool false],?_,?_⟩
                · have:=rnL_cons.2 ⟨z,[.bool false],q1,(rfl:rnL ρ [.bool false]=some [.bool false]),rfl⟩
                  show rn ρ (.tuple ⟨[z,.bool false]⟩)=_
                  simp only [rn,rnR,this]
                · simp [execOp,e3,e5,Instr.lookup,run_underlying ht,getObj,Sem.run,h3,hc,hfk2,run_zeroValue hz]
              | false =>
                cases hv
                exact ⟨z,q1,by simp [execOp,e3,e5,Instr.lookup,run_underlying ht,getObj,Sem.run,h3,hc,hfk2,run_zeroValue hz]⟩
            · cases hv
          · cases hv
        · cases hv
    · cases hi
  · cases hi
end
end Go.Ev
