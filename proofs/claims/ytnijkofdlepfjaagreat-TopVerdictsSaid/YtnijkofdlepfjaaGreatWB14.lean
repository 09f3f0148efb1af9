/- Texts of this proof, one after the other; no conditions. -/
import Derived.Test.YtnijkofdlepfjaaGreatWA
import Derived.Test.YtnijkofdlepfjaaGreatWB13
set_option linter.all false
namespace Go.Ev
open Go.Eng
noncomputable section
def evO (fr:Fr) (x:Od):Option Value:=Od.rec (fun n=>fr.get n) (fun v=>some v) x
def aAu (fr:Fr) (l:List Od):Option (List Value):=
  List.rec (some []) (fun x _ ih=>Option.rec none (fun v=>Option.rec none (fun vs=>some (v::vs)) ih) (evO fr x)) l
def pC:Option Value->Option Nat
  | some (.int _ (.ofNat n))=>some n
  | _=>none
def aH0:Option Value->Option Nat
  | some (.int .i64 (.ofNat n))=>some n
  | _=>none
def lt1 (c:Nat):Bool:=Nat.blt c big
def lt2 (c:Nat):Bool:=Nat.blt c mX
def oR (c:Nat):Nat:=bif lt1 c then c else bif lt2 c then nD c else 0
def aOh (l:List Value):Nat->Option Value:=
  List.rec (fun _=>none) (fun v _ ih n=>Bool.rec (ih (n-1)) (some v) (n.beq 0)) l
def aDw (n:Nat):List Value->Option (List Value):=
  Nat.rec (fun _=>some []) (fun _ ih l=>List.rec none (fun v l _=>Option.rec none (fun r=>some (v::r)) (ih l)) l) n
def aDx (n:Nat):List Value->Option (List Value):=
  Nat.rec (fun l=>some l) (fun _ ih l=>List.rec none (fun _ l _=>ih l) l) n
def aMn (n:Option (List Value)) (f:List Value->Option (List Value)):Option (List Value):=match n with
  | some l=>f l
  | none=>none
def aAv (h:AH) (i o n:Nat):Option (List Value):=match h.get i with
  | some (.cells c _)=>aMn (aDx o c) (aDw n)
  | _=>none
def rB:Value->Bool
  | .agg _ | .tuple _=>true
  | _=>false
def aQt (vs:List Value):List Value->Option (List Value):=
  List.rec (fun l=>some l) (fun v _ ih l=>List.rec none (fun _ l _=>Bool.rec (Option.rec none (fun r=>some (v::r)) (ih l)) none (rB v)) l) vs
def aQu (n:Nat) (vs:List Value):List Value->Option (List Value):=
  Nat.rec (fun l=>aQt vs l) (fun _ ih l=>List.rec none (fun v l _=>Option.rec none (fun r=>some (v::r)) (ih l)) l) n
def rC (h:AH) (i o:Nat) (vs:List Value):Option AH:=match h.get i with
  | some (.cells c t)=>match aQu o vs c with
    | some l=>h.put i (some (.cells l t))
    | none=>none
  | _=>none
def cl:Value->List Value
  | .agg ⟨l⟩=>l
  | v=>[v]
def kB:IntKind->IntKind->Bool
  | .i8,.i8 | .i16,.i16 | .i32,.i32 | .i64,.i64 | .u8,.u8 | .u16,.u16 | .u32,.u32 | .u64,.u64=>true
  | _,_=>false
def oS:IntKind->Nat
  | .i8=>128 | .i16=>32768 | .i32=>2147483648 | .i64=>9223372036854775808
  | .u8=>256 | .u16=>65536 | .u32=>4294967296 | .u64=>18446744073709551616
def wr (k:IntKind) (n:Int):Int:=Int.rec (fun m=>Bool.rec (IntKind.wrap k n) (.ofNat m) (Nat.blt m (oS k))) (fun _=>IntKind.wrap k n) n
def quoI (k:IntKind):Int->Int->Option Value
  | .ofNat a,.ofNat b=>bif b.beq 0 then none else some (.int k (wr k (.ofNat (a / b))))
  | _,_=>none
def remI (k:IntKind):Int->Int->Option Value
  | .ofNat a,.ofNat b=>bif b.beq 0 then none else some (.int k (.ofNat (a % b)))
  | _,_=>none
def shlI (k:IntKind) (m:Int):Int->Option Value
  | .ofNat b=>some (.int k (wr k (m*2 ^ (Nat.min b k.bits))))
  | _=>none
def shrI (k:IntKind):Int->Int->Option Value
  | .ofNat a,.ofNat b=>some (.int k (.ofNat (a / 2 ^ (Nat.min b k.bits))))
  | _,_=>none
def bitI (f:Nat->Nat->Nat) (k:IntKind) (m n:Int):Option Value:=
  Int.rec (fun a=>Int.rec (fun b=>Bool.rec none (some (.int k (.ofNat (f a b)))) (Nat.blt a (oS k) && Nat.blt b (oS k))) (fun _=>none) n) (fun _=>none) m
def beI:Int->Int->Bool
  | .ofNat a,.ofNat b=>a.beq b
  | .negSucc a,.negSucc b=>a.beq b
  | _,_=>false
def ltI:Int->Int->Bool
  | .ofNat a,.ofNat b=>Nat.blt a b
  | .negSucc a,.negSucc b=>Nat.blt b a
  | .negSucc _,.ofNat _=>true
  | .ofNat _,.negSucc _=>false
def bv (b:Bool):Option Value:=some (.bool b)
def binI (op:BinOp) (k:IntKind) (m n:Int):Option Value:=match op with
  | .add=>some (.int k (wr k (m+n)))
  | .sub=>some (.int k (wr k (m-n)))
  | .mul=>some (.int k (wr k (m*n)))
  | .eql=>bv (beI m n)
  | .neq=>bv (!beI m n)
  | .lss=>bv (ltI m n)
  | .leq=>bv (!ltI n m)
  | .gtr=>bv (ltI n m)
  | .geq=>bv (!ltI m n)
  | .quo=>quoI k m n
  | .rem=>remI k m n
  | .and=>bitI Nat.land k m n
  | .or=>bitI Nat.lor k m n
  | .xor=>bitI Nat.xor k m n
  | _=>none
def beB:List UInt8->List UInt8->Bool
  | [],[]=>true
  | a::l,b::m=>a.toNat.beq b.toNat && beB l m
  | _,_=>false
def catS (s t:ByteArray):Option Value:=match fB (s.data.toList ++ t.data.toList) with
  | some l=>bif Nat.blt l.length 9000000000000000000 then some (.string ⟨⟨l⟩⟩) else none
  | none=>none
def shO (op:BinOp):Nat:=match op with
  | .shl=>1
  | .shr=>2
  | _=>0
def binS (op:BinOp) (s t:ByteArray):Option Value:=match op with
  | .add=>catS s t
  | .eql=>bv (beB s.data.toList t.data.toList)
  | .neq=>bv (!beB s.data.toList t.data.toList)
  | _=>none
def evBI (op:BinOp) (k:IntKind) (m:Int):Value->Option Value
  | .int k' n=>match shO op with
    | 0=>bif kB k k' then binI op k m n else none
    | 1=>shlI k m n
    | _=>shrI k m n
  | _=>none
def evBS (op:BinOp) (s:ByteArray):Value->Option Value
  | .string t=>binS op s t
  | _=>none
def aQv (op:BinOp) (u v:Value):Option Value:=match u with
  | .int k m=>evBI op k m v
  | .string s=>evBS op s v
  | _=>none
def aQw (k:Nat):Value->Value->Option Bool
  | .pointer none,.pointer b=>bif k.beq 1 then some b.isNone else none
  | .pointer (some _),.pointer none=>bif k.beq 1 then some false else none
  | .slice none _ _,.slice b _ _=>bif k.beq 2 then some b.isNone else none
  | .slice (some _) _ _,.slice none _ _=>bif k.beq 2 then some false else none
  | .nilFunc,.nilFunc=>bif k.beq 3 then some true else none
  | .nilFunc,.func ..=>bif k.beq 3 then some false else none
  | .func ..,.nilFunc=>bif k.beq 3 then some false else none
  | _,_=>none
def at? (a:Option Addr) (k:Nat):Option Addr:=match a with
  | some ⟨i,o,s⟩=>some ⟨i,o+k,s⟩
  | none=>none
def cut3 (a:Option Addr) (s l h m:Nat):Option Value:=
  bif Nat.ble l h && Nat.ble h m then some (.slice (bif Nat.beq m l then a else at? a (l*s)) (h-l) (m-l)) else none
def aQx (a:Option Addr) (c s l h:Nat):Option Value:=match a with
  | none=>bif lt1 c then some (.slice none (h-l) 0) else none
  | some a=>bif lt1 c then some (.slice (some a) (h-l) 0)
    else bif lt2 c then (bif lt2 (l*s) then some (.slice (some a) 0 (mX+l*s)) else none)
    else some (.slice (some a) 0 c)
def cut2 (a:Option Addr) (c s l h:Nat):Option Value:=
  bif Nat.ble l h && Nat.ble h (oR c) then
    bif Nat.blt l (oR c) then some (.slice (at? a (l*s)) (h-l) (c-l)) else aQx a c s l h
  else none
def cutO (a:Option Addr) (c s:Nat):Option Nat->Option Nat->Option (Option Nat)->Option Value
  | some l,some h,none=>cut2 a c s l h
  | some l,some h,some (some m)=>bif Nat.ble m (oR c) && lt2 c then cut3 a s l h m else none
  | _,_,_=>none
def aQy (v:Value) (lo hi mx:Option (Option Value)) (s:Nat):Option Value:=
  match v with
  | .slice a n c=>cutO a c s (match lo with|none=>some 0|some x=>pC x) (match hi with|none=>some n|some x=>pC x) (match mx with|none=>none|some x=>bif hi.isSome then some (pC x) else some none)
  | _=>none
def aH1:List Value->List (Nat × Nat × Value)->Option (List Value)
  | zs,[]=>some zs
  | zs,(o,s,v)::r=>bif Nat.beq (cl v).length s then
      match aQu o (cl v) zs with
      | some zs'=>aH1 zs' r
      | none=>none
    else none
def aAw (fr:Fr):List (Nat × Nat × Od)->Option (List (Nat × Nat × Value))
  | []=>some []
  | (o,s,x)::r=>match evO fr x,aAw fr r with
    | some v,some l=>some ((o,s,v)::l)
    | _,_=>none
def aH2 (kk:IntKind) (kn:Int):List MapEntry->Nat->Option (Option (Nat × Value))
  | [],_=>some none
  | m::l,j=>match m.key with
    | .int k n=>bif kB kk k then (bif beI kn n then some (some (j,m.val)) else aH2 kk kn l (j+1)) else none
    | _=>none
def uY:List Value->Option (List UInt8)
  | []=>some []
  | .int .u8 (.ofNat b)::l=>match uY l with
    | some r=>some (UInt8.ofNat b::r)
    | none=>none
  | _=>none
def aQz:Option Value->Option Value
  | some (.bool b)=>bv (!b)
  | _=>none
def aKw (fr:Fr) (a b:Od):Option Value->Option Value
  | some (.bool true)=>evO fr a
  | some (.bool false)=>evO fr b
  | _=>none
def aQ0 (i:Nat):Option Value->Option Value
  | some (.tuple ⟨vs⟩)=>aOh vs i
  | _=>none
def aQ1:Option Value->Option Value
  | some (.pointer (some a))=>some (.pointer (some a))
  | some (.func (.func f) a b)=>some (.func (.func f) a b)
  | some (.func (.yield f) a b)=>some (.func (.yield f) a b)
  | _=>none
def aQ2 (f:FuncId):Option (List Value)->Option (List Value)->Option Value
  | some vs,some us=>some (.func (.func f) ⟨vs⟩ ⟨us⟩)
  | _,_=>none
def aggO:Option (List Value)->Option Value
  | some l=>some (.agg ⟨l⟩)
  | none=>none
def aAx (o:Nat) (n:Option Nat):Option Value->Option Value
  | some (.agg ⟨cs⟩)=>match n with
    | some n=>aggO (aMn (aDx o cs) (aDw n))
    | none=>aOh cs o
  | _=>none
def aQ3 (n s:Nat) (a:Bool) (x:Option Value):Option Nat->Option Value
  | some j=>bif Nat.blt j n then aAx (j*s) (bif a then some s else none) x else none
  | none=>none
def aQ4 (lo hi mx:Option (Option Value)) (s:Nat):Option Value->Option Value
  | some v=>aQy v lo hi mx s
  | none=>none
def aQ5 (n:Nat):Option Value->Option Value
  | some (.pointer (some ⟨i,o,none⟩))=>bif Nat.blt n big then some (.slice (some ⟨i,o,none⟩) n n) else none
  | _=>none
def strO:Option (List UInt8)->Option Value
  | some l=>some (.string ⟨⟨l⟩⟩)
  | none=>none
def aH3 (zs:List Value):Option (List (Nat × Nat × Value))->Option Value
  | some l=>aggO (aH1 zs l)
  | none=>none
def aQ6:Option Value->Option Value
  | some (.slice _ n _)=>some (.int .i64 (.ofNat n))
  | _=>none
def aQ7 (k:IntKind):Option Value->Option Value
  | some (.int _ n)=>some (.int k (wr k n))
  | _=>none
def neB (ne:Bool):Option Bool->Option Value
  | some b=>bv (bif ne then !b else b)
  | none=>none
def aQ8 (k:Nat) (ne:Bool):Option Value->Option Value->Option Value
  | some u,some v=>neB ne (aQw k u v)
  | _,_=>none
def aQ9:Option (List Value)->Option (List UInt8)
  | some l=>uY l
  | none=>none
def aRa (h:AH):Option Value->Option Value
  | some (.slice (some ⟨i,o,none⟩) n _)=>strO (aQ9 (aAv h i o n))
  | some (.slice none _ _)=>some (.string ⟨⟨[]⟩⟩)
  | _=>none
def intV:Value->Option Int
  | .int .i64 n=>some n
  | _=>none
def aAy:List Value->Option (List Int)
  | []=>some []
  | v::l=>match intV v,aAy l with
    | some n,some r=>some (n::r)
    | _,_=>none
def eqI:List Int->List Int->Bool
  | [],[]=>true
  | a::l,b::m=>beI a b && eqI l m
  | _,_=>false
def aH4 (k:List Int) (n:Nat):List MapEntry->Nat->Option (Option (Nat × Value))
  | [],_=>some none
  | m::l,j=>match m.key with
    | .agg ⟨a⟩=>match aAy a with
      | some b=>bif b.length.beq n then (bif eqI k b then some (some (j,m.val)) else aH4 k n l (j+1)) else none
      | none=>none
    | _=>none
def aRb (n:Nat) (k:Value) (es:List MapEntry):Option (Option (Nat × Value)):=match n,k with
  | 0,.int kk kn=>aH2 kk kn es 0
  | m+1,.agg ⟨a⟩=>match aAy a with
    | some b=>bif b.length.beq (m+1) then aH4 b (m+1) es 0 else none
    | none=>none
  | _,_=>none
def lkpR (z:Value) (ok:Bool):Option (Option (Nat × Value))->Option Value
  | some (some (_,v))=>some (bif ok then .tuple ⟨[v,.bool true]⟩ else v)
  | some none=>some (bif ok then .tuple ⟨[z,.bool false]⟩ else z)
  | none=>none
def aRc (h:AH) (z:Value) (ok:Bool) (n:Nat):Option Value->Option Value->Option Value
  | some (.map (some r)),some k=>match h.get r with
    | some (.map es _)=>lkpR z ok (aRb n k es)
    | _=>none
  | _,_=>none
def evMi (fr:Fr) (h:AH):Mi->Option Value
  | .not x=>aQz (evO fr x)
  | .pick c a b=>aKw fr a b (evO fr c)
  | .ext x i=>aQ0 i (evO fr x)
  | .nck x=>aQ1 (evO fr x)
  | .mkf f xs cs=>aQ2 f (aAu fr xs) (aAu fr cs)
  | .part x o n=>aAx o n (evO fr x)
  | .ixa x y n s a=>aQ3 n s a (evO fr x) (pC (evO fr y))
  | .cut x lo hi mx s=>aQ4 (lo.map (evO fr)) (hi.map (evO fr)) (mx.map (evO fr)) s (evO fr x)
  | .acu x n=>aQ5 n (evO fr x)
  | .bld zs ps=>aH3 zs (aAw fr ps)
  | .len x=>aQ6 (evO fr x)
  | .cnv k x=>aQ7 k (evO fr x)
  | .nil k ne x y=>aQ8 k ne (evO fr x) (evO fr y)
  | .b2s x=>aRa h (evO fr x)
  | .lkp z ok x k n=>aRc h z ok n (evO fr x) (evO fr k)
  | .gen f=>f fr
def mkS (n:Nat) (e:TypeId) (h:AH):Option (List Value)->Option (Value × AH)
  | some l=>match h.new (.cells l e) with
    | some h'=>some (.slice (some ⟨h.next,0,none⟩) n (big+n),h')
    | none=>none
  | none=>none
def catC (a b:List Value):Option (List Value):=List.rec (some b) (fun v _ ih=>Option.rec none (fun l=>some (v::l)) ih) a
def catO (b:List Value):Option (List Value)->Option (List Value)
  | some a=>catC a b
  | none=>none
def appI (h:AH) (s:Nat) (a:Option Addr) (n c m:Nat) (news:List Value):Option (Value × AH):=match a with
  | some ⟨i,o,none⟩=>match rC h i (o+n*s) news with
    | some h'=>some (.slice a (n+m) c,h')
    | none=>none
  | _=>bif m.beq 0 then some (.slice a n c,h) else none
def appN (h:AH) (e:TypeId) (s:Nat) (a:Option Addr) (n m:Nat) (news:List Value):Option (Value × AH):=match a with
  | some ⟨i,o,none⟩=>mkS (n+m) e h (catO news (aAv h i o (n*s)))
  | none=>bif n.beq 0 then mkS (n+m) e h (some news) else none
  | _=>none
def aOi (h:AH) (e:TypeId) (a:Option Addr) (k n m:Nat) (news:List Value):Option (Value × AH):=match a with
  | some ⟨i,o,none⟩=>match h.get i with
    | some (.cells cs t)=>bif Nat.beq t e && Nat.beq (o+k) cs.length then match h.put i none with
        | some h1=>mkS (n+m) e h1 (catO news (aDx o cs))
        | none=>none
      else none
    | _=>none
  | _=>none
def aH5 (h:AH) (e:TypeId) (s by_:Nat) (v:Value) (m:Nat) (news:List Value):Option (Value × AH):=match v with
  | .slice a n c=>bif !(Nat.ble ((n+m)*by_) 70368744177664 && Nat.ble (n+m) 70368744177664) then none else bif Nat.ble (n+m) (oR c) then appI h s a n c m news
    else bif lt1 c then appN h e s a n m news
    else bif lt2 c then (bif Nat.beq n (nD c) then aOi h e a (n*s) n m news else none)
    else match a with
      | some ⟨i,o,sp⟩=>aOi h e (some ⟨i,o+(aOf c),sp⟩) 0 0 m news
      | none=>none
  | _=>none
def nE:List UInt8->List Value
  | []=>[]
  | b::l=>.int .u8 (.ofNat b.toNat)::nE l
def wU (h:AH) (s:Nat):Value->Option (Nat × List Value)
  | .slice (some ⟨i,o,none⟩) n _=>match aAv h i o (n*s) with
    | some l=>some (n,l)
    | none=>none
  | .slice none n _=>bif n.beq 0 then some (0,[]) else none
  | .string b=>bif s.beq 1 then match fL1 (nE b.data.toList) with
    | some l=>some (b.data.toList.length,l)
    | none=>none else none
  | _=>none
def rep (zs:List Value):Nat->List Value
  | 0=>[]
  | n+1=>zs ++ rep zs n
def aKx (v:Value) (k:Value):Nat->List MapEntry->Option (List MapEntry)
  | _,[]=>none
  | 0,m::l=>some (⟨k,v,m.born⟩::l)
  | n+1,m::l=>match aKx v k n l with
    | some r=>some (m::r)
    | none=>none
def aRd (n:Nat) (k:Value) (v:Value) (cl:Nat) (es:List MapEntry):Option (List MapEntry × Nat):=match aRb n k es with
  | some (some (j,_))=>match aKx v k j es with
    | some r=>some (r,cl)
    | none=>none
  | some none=>some (es ++ [⟨k,v,cl⟩],cl+1)
  | none=>none
def aAz (h:AH) (e:TypeId) (l:List Value):Option (Nat × AH):=match fL1 l with
  | some l=>match h.new (.cells l e) with
    | some h'=>some (h.next,h')
    | none=>none
  | none=>none
def aKy:Option (Nat × AH)->Option (Value × AH)
  | some (i,h)=>some (.pointer (some ⟨i,0,none⟩),h)
  | none=>none
def aRe (n c:Nat):Option (Nat × AH)->Option (Value × AH)
  | some (i,h)=>some (.slice (some ⟨i,0,none⟩) n c,h)
  | none=>none
def aA0 (h:AH) (t:TypeId):Option Value->Option (Value × AH)
  | some v=>aKy (aAz h t (cl v))
  | none=>none
def aDy (zs:List Value):Option (List (Nat × Nat × Value))->Option (List Value)
  | some l=>aH1 zs l
  | none=>none
def aA1 (h:AH) (t:TypeId) (n s:Nat):Option (List Value)->Option (Value × AH)
  | some cs=>bif Nat.ble (n*s) 16777216 && Nat.blt n big then aRe n n (aAz h t cs) else none
  | none=>none
def aH6 (h:AH) (t:TypeId) (b:Nat) (zs:List Value):Option Nat->Option Nat->Option (Value × AH)
  | some l,some c=>bif Nat.ble l c && Nat.ble (b*c) 281474976710656 && Nat.ble c 70368744177664 then aRe l c (aAz h t (rep zs c)) else none
  | _,_=>none
def aH7 (h:AH):Option AH->Option (Value × AH)
  | some h'=>some (.map (some h.next),h')
  | none=>none
def wV (l:List Value):Bool:=List.rec true (fun v _ ih=>Bool.rec ih false (rB v)) l
def appO (h:AH) (e:TypeId) (s by_:Nat) (v:Value):Option (Nat × List Value)->Option (Value × AH)
  | some (m,news)=>bif wV news then aH5 h e s by_ v m news else none
  | none=>none
def aH8 (h:AH) (e:TypeId) (s by_:Nat):Option Value->Option Value->Option (Value × AH)
  | some v,some y=>appO h e s by_ v (wU h s y)
  | _,_=>none
def stO (h:AH) (i o:Nat) (v:Value):Option (List Value)->Option (Value × AH)
  | some l=>match rC h i o l with
    | some h'=>some (v,h')
    | none=>none
  | none=>none
def cpyO (h:AH) (s:Nat) (a:Option Addr) (n:Nat):Option (Nat × List Value)->Option (Value × AH)
  | some (m,news)=>match a with
    | some ⟨i,o,none⟩=>stO h i o (.int .i64 (.ofNat (Nat.min m n))) (aDw (Nat.min m n*s) news)
    | none=>some (.int .i64 (.ofNat (Nat.min m n)),h)
    | _=>none
  | none=>none
def aH9 (h:AH) (s:Nat):Option Value->Option Value->Option (Value × AH)
  | some (.slice a n _),some y=>cpyO h s a n (wU h s y)
  | _,_=>none
def aIa (h:AH) (zs:List Value):Option Value->Option (Value × AH)
  | some (.slice a n _)=>bif n.beq 0 then some (.tuple ⟨[]⟩,h) else match a with
    | some ⟨i,o,none⟩=>stO h i o (.tuple ⟨[]⟩) (some (rep zs n))
    | _=>none
  | _=>none
def yO (h:AH) (e:TypeId):Option Value->Option (Value × AH)
  | some (.string s)=>bif Nat.blt s.data.toList.length big then aRe s.data.toList.length (big+s.data.toList.length) (aAz h e (nE s.data.toList)) else none
  | _=>none
def mupO (h:AH) (r:Nat):Option (List MapEntry × Nat)->Option (Value × AH)
  | some (es,c)=>match h.put r (some (.map es c)) with
    | some h'=>some (undef,h')
    | none=>none
  | none=>none
def yP (h:AH) (n:Nat):Option Value->Option Value->Option Value->Option (Value × AH)
  | some (.map (some r)),some k,some v=>match h.get r with
    | some (.map es c)=>mupO h r (aRd n k v c es)
    | _=>none
  | _,_,_=>none
def rD (fr:Fr) (h:AH):Wr->Option (Value × AH)
  | .alc t zs=>aKy (aAz h t zs)
  | .box t x=>aA0 h t (evO fr x)
  | .bsl t n s zs ps=>aA1 h t n s (aDy (rep zs n) (aAw fr ps))
  | .mks t _ b zs l c=>aH6 h t b zs (aH0 (evO fr l)) (aH0 (evO fr c))
  | .mkm=>aH7 h (h.new (.map [] 0))
  | .app e s b x y=>aH8 h e s b (evO fr x) (evO fr y)
  | .cpy s x y=>aH9 h s (evO fr x) (evO fr y)
  | .clr _ zs x=>aIa h zs (evO fr x)
  | .s2b e x=>yO h e (evO fr x)
  | .mup m k v n=>yP h n (evO fr m) (evO fr k) (evO fr v)
abbrev iA:=FuncId->List Value->AH->Option (Value × AH)
abbrev YF:=Nat->List Value->AH->Option (Value × AH)
def aA2 (cf:iA) (yf:YF) (h:AH) (f:Option Value) (vs:Option (List Value)):Option (Value × AH):=match f,vs with
  | some (.func (.func g) ⟨us⟩ ⟨cs⟩),some vs=>cf g (us ++ vs ++ cs) h
  | some (.func (.yield g) ⟨[]⟩ _),some vs=>yf g vs h
  | _,_=>none
def ret1 (h:AH):Option Value->Option (Value × AH)
  | some v=>some (v,h)
  | none=>none
def ldO (o:Nat) (n:Option Nat):Option AO->Option Value
  | some (.cells c _)=>match n with
    | some n=>aggO (aMn (aDx o c) (aDw n))
    | none=>aOh c o
  | _=>none
def aC5 (h:AH) (n:Option Nat):Option Value->Option Value
  | some (.pointer (some ⟨i,o,none⟩))=>ldO o n (h.get i)
  | _=>none
def aRf (k:Nat):Option Value->Option Value
  | some (.pointer (some ⟨i,o,none⟩))=>some (.pointer (some ⟨i,o+k,none⟩))
  | _=>none
def binO (op:BinOp):Option Value->Option Value->Option Value
  | some u,some v=>aQv op u v
  | _,_=>none
def aIb (a:Option Nat) (s:Nat) (x y:Option Value):Option Value:=match a,x,pC y with
  | none,some (.slice (some ⟨i,o,none⟩) n _),some j=>bif Nat.blt j n then some (.pointer (some ⟨i,o+j*s,none⟩)) else none
  | some n,some (.pointer (some ⟨i,o,none⟩)),some j=>bif Nat.blt j n then some (.pointer (some ⟨i,o+j*s,none⟩)) else none
  | _,_,_=>none
def aRg (h:AH) (n:Nat) (x y:Option Value):Option (Value × AH):=match x,y with
  | some (.pointer (some ⟨i,o,none⟩)),some v=>bif Nat.beq (cl v).length n then
      match rC h i o (cl v) with
      | some h'=>some (undef,h')
      | none=>none
    else none
  | _,_=>none
def evQ (fr:Fr) (h:AH):In->Option Value
  | .mv x=>evO fr x
  | .bin op x y=>binO op (evO fr x) (evO fr y)
  | .ld1 x=>aC5 h none (evO fr x)
  | .ldn x n=>aC5 h (some n) (evO fr x)
  | .fld x k=>aRf k (evO fr x)
  | .idx a x y s=>aIb a s (evO fr x) (evO fr y)
  | .mi i=>evMi fr h i
  | _=>none
def uZ (cf:iA) (yf:YF) (fr:Fr) (h:AH) (i:In):Option (Value × AH):=match i with
  | .st x y n=>aRg h n (evO fr x) (evO fr y)
  | .call f xs=>aA2 cf yf h (evO fr f) (aAu fr xs)
  | .wr w=>rD fr h w
  | _=>ret1 h (evQ fr h i)
def pS (fr:Fr):Option (Nat × Bool)->Option Bool
  | none=>some true
  | some (d,w)=>match fr.get d with
    | some (.bool b)=>some (b == w)
    | some (.tuple _)=>some false
    | _=>none
def yQ (M:Nat) (ev:Fr->AH->In->Option (Value × AH)) (l:List Op1):Fr->AH->Option (Fr × AH):=
  List.rec (fun fr h=>some (fr,h)) (fun o _ ih fr h=>Option.rec none (fun b=>Bool.rec (Option.rec none (fun fr'=>ih fr' h) (nW M fr o.d undef)) (Option.rec none (fun r=>Option.rec none (fun fr'=>ih fr' r.2) (nW M fr o.d r.1)) (ev fr h o.i)) b) (pS fr o.g)) l
structure St where
  fr:Fr
  h:AH
  ms:List Nat
inductive Ex where
  | normal|ret
  | exit (id:Nat)
def tG (fr:Fr) (h:AH) (P:Program):List ResultVar->Option (List Value)
  | []=>some []
  | .tmp t::r=>match fr.get t,tG fr h P r with
    | some v,some l=>some (v::l)
    | _,_=>none
  | .cell a t::r=>match lP P t,szP P t,tG fr h P r with
    | some true,some n,some l=>match aC5 h (some n) (fr.get a) with
      | some v=>some (v::l)
      | none=>none
    | some false,some 1,some l=>match aC5 h none (fr.get a) with
      | some v=>some (v::l)
      | none=>none
    | _,_,_=>none
def one:List Value->Value
  | [v]=>v
  | l=>.tuple ⟨l⟩
def aKz (M:Nat):Nat->List Value->Fr->Option Fr
  | _,[],fr=>some fr
  | k,v::l,fr=>match nW M fr (some k) v with
    | some fr'=>aKz M (k+1) l fr'
    | none=>none
def putL (M:Nat):List Tmp->List Value->Fr->Option Fr
  | [],[],fr=>some fr
  | d::ds,v::l,fr=>match nW M fr (some d) v with
    | some fr'=>putL M ds l fr'
    | none=>none
  | _,_,_=>none
def pT:List Nat->AH->Option AH
  | [],h=>some h
  | i::l,h=>match h.get i with
    | some .mark=>match h.put i none with
      | some h'=>pT l h'
      | none=>none
    | _=>none
/-! a region that draws its order: one order is reckoned; checks that every other order comes to the same -/
structure DOp where
  i:Nat
  ps:List Nat
  pm:Nat
  k:Nat
  rs:List Nat
  q:Op1
def aK0 (o:Oper):List Nat:=o.after.toList.filterMap (fun e=>if Region.binds .any e then some e.on else none)
def bit (i:Nat):Nat:=Nat.shiftLeft 1 i
def rE (m i:Nat):Bool:=Nat.beq (Nat.shiftRight m i % 2) 1
def aFd (a b:Nat):Bool:=Nat.beq (Nat.land a b) a
def tT (l:List Nat):Nat:=List.rec 0 (fun i _ ih=>Nat.lor (bit i) ih) l
def wW:In->Nat
  | .st .. | .call ..=>3
  | .wr (.alc ..) | .wr (.box ..) | .wr (.bsl ..)=>2
  | .wr _=>3
  | .ld1 .. | .ldn .. | .mi (.b2s _) | .mi (.lkp ..)=>1
  | _=>0
def aOj (P:Program) (all:Array Oper):Nat->List Oper->Option (List DOp)
  | _,[]=>some []
  | i,o::l=>match op1 P all o,fN (i+1) with
    | some q,some i'=>match aOj P all i' l with
      | some r=>some (⟨i,aK0 o,tT (aK0 o),wW q.i,iK all o,q⟩::r)
      | none=>none
    | _,_=>none
def vA (l:List DOp):Option (Tr Nat):=
  List.rec (some .e) (fun d _ ih=>Option.rec none (fun t=>Option.rec (some t) (fun s=>Option.rec (Tr.put 12 t s (some d.i)) (fun _=>none) (Tr.get t s)) d.q.d) ih) l
def yR (sl:Tr Nat) (pm:Nat) (rs:List Nat):Bool:=
  List.rec true (fun t _ ih=>Option.rec ih (fun j=>Bool.rec false ih (rE pm j)) (sl.get t)) rs
def lT (an:Tr Nat) (ps:List Nat) (m:Nat):Nat:=
  List.rec m (fun j _ ih=>Option.rec ih (fun x=>Nat.lor x ih) (an.get j)) ps
def ckK (k eff am:Nat):Bool:=match k with
  | 1|3=>aFd eff am
  | _=>true
def kU (k:Nat):Bool:=match k with
  | 2|3=>true
  | _=>false
def aDz (full:Nat) (sl:Tr Nat) (l:List DOp):Nat->Nat->Tr Nat->Option (List (DOp × Nat)):=
  List.rec (fun dn _ _=>Bool.rec none (some []) (Nat.beq dn full)) (fun d _ ih dn eff an =>
    Nat.rec (motive:=fun _=>Option (List (DOp × Nat)))
      (Bool.rec none (Option.rec none (fun an'=>Option.rec none (fun r=>some ((d,lT an d.ps d.pm)::r)) (ih (Nat.lor dn (bit d.i)) (Bool.rec eff (Nat.lor eff (bit d.i)) (kU d.k)) an')) (Tr.put 8 an d.i (some (lT an d.ps d.pm))))
        (aFd d.pm dn && ckK d.k eff (lT an d.ps d.pm) && yR sl d.pm d.rs))
      (fun _ _=>none) (Nat.shiftRight dn d.i % 2)) l
/-! an order is looked for -/
def aIc (p:DOp->Bool):List DOp->Option (DOp × List DOp)
  | []=>none
  | d::l=>bif p d then some (d,l) else match aIc p l with
    | some (x,r)=>some (x,d::r)
    | none=>none
def aRh:List DOp->Tr Nat->Option (Tr Nat)
  | [],an=>some an
  | d::l,an=>match Tr.put 8 an d.i (some (lT an d.ps d.pm)) with
    | some an'=>aRh l an'
    | none=>none
def aVw (an:Tr Nat):List DOp->Option Nat
  | []=>none
  | d::l=>bif Nat.beq d.k 3 then (match an.get d.i with|some m=>some (Nat.lor m (bit d.i))|none=>none) else aVw an l
def aRi (an:Tr Nat):Nat->Nat->List DOp->List DOp
  | 0,_,_=>[]
  | f+1,dn,l=>match aIc (fun d=>aFd d.pm dn && Nat.blt d.k 2) l with
    | some (d,r)=>d::aRi an f (Nat.lor dn (bit d.i)) r
    | none=>match aIc (fun d=>aFd d.pm dn && match aVw an l with|some m=>rE m d.i|none=>true) l with
      | some (d,r)=>d::aRi an f (Nat.lor dn (bit d.i)) r
      | none=>[]
def ckO (sl:Option (Tr Nat)) (n:Nat) (l:List DOp):Option (List (DOp × Nat)):=match sl with
  | some sl=>aDz (Nat.sub (bit n) 1) sl l 0 0 .e
  | none=>none
def aRj (l:List DOp):Option (List (DOp × Nat)):=match aRh l .e with
  | some an=>ckO (vA l) l.length (aRi an l.length 0 l)
  | none=>none
def drawn (l:Option (List DOp)):Option (List (DOp × Nat)):=match l with
  | some l=>match ckO (vA l) l.length l with
    | some r=>some r
    | none=>aRj l
  | none=>none
/-! values are the same -/
def beA (a b:Option Addr):Bool:=match a,b with
  | some ⟨i,o,none⟩,some ⟨j,p,none⟩=>Nat.beq i j && Nat.beq o p
  | none,none=>true
  | _,_=>false
def aRk (u v:Value):Bool:=match u,v with
  | .bool true,.bool true=>true
  | .bool false,.bool false=>true
  | .int k m,.int k' n=>kB k k' && beI m n
  | .string ⟨⟨a⟩⟩,.string ⟨⟨b⟩⟩=>beB a b
  | .pointer a,.pointer b=>beA a b
  | .slice a n c,.slice b m d=>beA a b && Nat.beq n m && Nat.beq c d
  | .map (some a),.map (some b)=>Nat.beq a b
  | .map none,.map none=>true
  | .nilFunc,.nilFunc=>true
  | .nilIface,.nilIface=>true
  | .func (.func f) ⟨[]⟩ ⟨[]⟩,.func (.func g) ⟨[]⟩ ⟨[]⟩=>Nat.beq f g
  | _,_=>false
def aRl:List Value->List Value->Bool
  | [],[]=>true
  | u::l,v::m=>aRk u v && aRl l m
  | _,_=>false
def beV (u v:Value):Bool:=match u,v with
  | .agg ⟨a⟩,.agg ⟨b⟩=>aRl a b
  | .tuple ⟨a⟩,.tuple ⟨b⟩=>aRl a b
  | _,_=>aRk u v
def beO (v:Value):Option Value->Bool
  | some u=>beV u v
  | none=>false
structure Wt where
  i:Nat
  fr:Fr
  q:In
  v:Value
def yS (am:Nat) (h:AH) (ws:List Wt):Option (List Wt):=
  List.rec (some []) (fun x _ ih=>Bool.rec (Bool.rec none (Option.rec none (fun r=>some (x::r)) ih) (beO x.v (evQ x.fr h x.q))) ih (rE am x.i)) ws
def aFe (M:Nat) (ev:Fr->AH->In->Option (Value × AH)) (l:List (DOp × Nat)):List Wt->Fr->AH->Option (Fr × AH):=
  List.rec (fun _ fr h=>some (fr,h)) (fun d _ ih ws fr h=>Option.rec none (fun b=>Bool.rec
    (Option.rec none (fun fr'=>ih ws fr' h) (nW M fr d.1.q.d undef))
    (Option.rec none (fun r=>Option.rec none (fun fr'=>Bool.rec
        (ih (Bool.rec ws (⟨d.1.i,fr,d.1.q.i,r.1⟩::ws) (Nat.beq d.1.k 1)) fr' r.2)
        (Option.rec none (fun ws'=>ih ws' fr' r.2) (yS d.2 r.2 ws)) (kU d.1.k)) (nW M fr d.1.q.d r.1)) (ev fr h d.1.q.i)) b) (pS fr d.1.q.g)) l
structure Cc where
  fn:FuncId
  M:Nat
  rd:Option Nat
structure Mac where
  c:Cc->Code->St->Option (Ex × St)
  f:iA
  y:YF
  l:Cc->Code->St->Option (Ex × St)
def aMo (ms:List Nat):Option (Fr × AH)->Option (Ex × St)
  | some (fr,h)=>some (.normal,⟨fr,h,ms⟩)
  | none=>none
def aRm (M:Nat) (m:Mac) (ops:Option (List Op1)) (s:St):Option (Ex × St):=match ops with
  | some l=>aMo s.ms (yQ M (uZ m.f m.y) l s.fr s.h)
  | none=>none
def stDr (M:Nat) (m:Mac) (ops:Option (List (DOp × Nat))) (s:St):Option (Ex × St):=match ops with
  | some l=>aMo s.ms (aFe M (uZ m.f m.y) l [] s.fr s.h)
  | none=>none
def rdH (h:AH):Option Nat->Option AH
  | none=>h.new .mark
  | some l=>match h.get l with
    | some (.loop ..)=>some h
    | _=>none
def exOf (s:St):Option Code->Option (Ex × St)
  | none=>some (.normal,s)
  | some (.exit id)=>some (.exit id,s)
  | some .ret=>some (.ret,s)
  | _=>none
def aFf (m:Mac) (c:Cc) (f:Option Value) (ps:Array Tmp) (asg body:Code) (s:St):Option (Ex × St):=
  match f,rdH s.h c.rd with
  | some (.func (.func gf) ⟨us⟩ ⟨cs⟩),some h1=>match h1.new (.loop .ready none c.fn s.fr c.M ps asg body) with
    | some h2=>match m.f gf (us ++ [.func (.yield h1.next) ⟨[]⟩ ⟨[]⟩] ++ cs) h2 with
      | some (_,h3)=>match h3.get h1.next with
        | some (.loop .busy _ _ _ _ _ _ _)=>none
        | some (.loop _ pd _ _ _ _ _ _)=>match h3.put h1.next none with
            | some h4=>exOf ⟨s.fr,h4,(match c.rd with|none=>s.h.next::s.ms|some _=>s.ms)⟩ pd
            | none=>none
        | _=>none
      | none=>none
    | none=>none
  | _,_=>none
def stC (P:Program) (m:Mac) (cc:Cc) (c:Code) (s:St):Option (Ex × St):=match c with
  | .skip=>some (.normal,s)
  | .region _ ops false=>aRm cc.M m (aKv P ops ops.toList) s
  | .region _ ops true=>stDr cc.M m (drawn (aOj P ops 0 ops.toList)) s
  | .seq a b=>match m.c cc a s with
    | some (.normal,s')=>m.c cc b s'
    | r=>r
  | .cond x a b=>match gW x with
    | some x=>match evO s.fr x with
      | some (.bool true)=>m.c cc a s
      | some (.bool false)=>m.c cc b s
      | _=>none
    | none=>none
  | .block id b=>match m.c cc b s with
    | some (.exit i,s')=>bif Nat.beq i id then some (.normal,s') else some (.exit i,s')
    | r=>r
  | .loop b=>m.l cc b s
  | .exit id=>some (.exit id,s)
  | .ret=>some (.ret,s)
  | .rangeFunc f ps asg body=>match gW f with
    | some f=>aFf m cc (evO s.fr f) ps asg body s
    | none=>none
  | _=>none
def stL (m:Mac) (cc:Cc) (b:Code) (s:St):Option (Ex × St):=match m.c cc b s with
  | some (.normal,s')=>m.l cc b s'
  | r=>r
def stF (P:Program) (orc:iA) (m:Mac) (f:FuncId) (vs:List Value) (h:AH):Option (Value × AH):=match orc f vs h with
  | some r=>some r
  | none=>match P.funcs[f]? with
    | some fn=>match fn.body,aKz fn.ntmps 0 vs .e with
      | some c,some fr=>match m.c ⟨f,fn.ntmps,none⟩ c ⟨fr,h,[]⟩ with
        | some (.exit _,_)=>none
        | some (_,s)=>match pT s.ms s.h with
          | some h'=>match tG s.fr h' P fn.results.toList with
            | some l=>some (one l,h')
            | none=>none
          | none=>none
        | none=>none
      | _,_=>none
    | none=>none
def endL (e:Ex):Option AO->Option AO
  | some (.loop _ _ g fr M ps asg body)=>match e with
    | .normal=>some (.loop .ready none g fr M ps asg body)
    | .exit id=>some (.loop .done (some (.exit id)) g fr M ps asg body)
    | .ret=>some (.loop .done (some .ret) g fr M ps asg body)
  | _=>none
def isN:Ex->Bool
  | .normal=>true
  | _=>false
def stY2 (l:Nat):Option (Ex × St)->Option (Value × AH)
  | some (e,s)=>match endL e (s.h.get l) with
    | some o=>match s.h.put l (some o) with
      | some h4=>some (.bool (isN e),h4)
      | none=>none
    | none=>none
  | none=>none
def stY (m:Mac) (l:Nat) (vs:List Value) (h:AH):Option (Value × AH):=match h.get l with
  | some (.loop .ready _ g fr M ps asg body)=>match putL M ps.toList vs fr with
    | some fr1=>match m.c ⟨g,M,some l⟩ asg ⟨fr1,h,[]⟩ with
      | some (.normal,s1)=>match s1.h.get l with
        | some (.loop .ready pd g1 fr1 M1 ps1 asg1 body1)=>match s1.h.put l (some (.loop .busy pd g1 fr1 M1 ps1 asg1 body1)) with
          | some h2=>stY2 l (m.c ⟨g,M,some l⟩ body ⟨s1.fr,h2,s1.ms⟩)
          | none=>none
        | _=>none
      | _=>none
    | none=>none
  | _=>none
def mac (P:Program) (orc:iA):Nat->Mac
  | 0=>⟨fun _ _ _=>none,fun _ _ _=>none,fun _ _ _=>none,fun _ _ _=>none⟩
  | n+1=>⟨stC P (mac P orc n),stF P orc (mac P orc n),stY (mac P orc n),stL (mac P orc n)⟩
def aVx:iA:=fun _ _ _=>none
end
theorem zR:∀ (l:List Value) (n:Nat),aOh l n=l[n]?
  | [],n=>by simp [aOh]
  | v::l,0=>rfl
  | v::l,n+1=>by
    show (Bool.rec (aOh l (n+1-1)) (some v) ((n+1).beq 0):Option Value)=_
    rw [zR l]; rfl
theorem pD:∀ (n:Nat) (l r:List Value),aDw n l=some r->r=l.take n/\n<=l.length
  | 0,l,r,h=>by cases h; simp
  | n+1,[],r,h=>by cases h
  | n+1,v::l,r,h=>by
    have h:(Option.rec none (fun r=>some (v::r)) (aDw n l):Option (List Value))=some r:=h
    rw [opr,aQ] at h
    obtain ⟨r',h1,rfl⟩:=h
    obtain ⟨rfl,h2⟩:=pD n l r' h1
    exact ⟨rfl,by simpa using h2⟩
theorem pE:∀ (n:Nat) (l r:List Value),aDx n l=some r->r=l.drop n/\n<=l.length
  | 0,l,r,h=>by cases h; simp
  | n+1,[],r,h=>by cases h
  | n+1,v::l,r,h=>by
    obtain ⟨rfl,h2⟩:=pE n l r h
    exact ⟨rfl,by simpa using h2⟩
theorem aMp:∀ (a b:List Value),catC a b=some (a ++ b)
  | [],b=>rfl
  | v::a,b=>by
    show (Option.rec none (fun l=>some (v::l)) (catC a b):Option (List Value))=_
    rw [aMp a b]; rfl
theorem aId {v:Value} (h:rB v=false):v.oneCell'=true:=by cases v <;> first|rfl|simp [rB] at h
theorem aIe:∀ (vs l r:List Value),aQt vs l=some r->r=vs ++ l.drop vs.length/\vs.length<=l.length/\∀ v∈vs,v.oneCell'=true
  | [],l,r,h=>by cases h; simp
  | v::vs,[],r,h=>by cases h
  | v::vs,u::l,r,h=>by
    have h:(Bool.rec (Option.rec none (fun r=>some (v::r)) (aQt vs l)) none (rB v):Option (List Value))=some r:=h
    cases e:rB v with
    | true=>rw [e] at h; cases h
    | false =>
      rw [e] at h;simp only [opr,aQ] at h
      obtain ⟨r',h1,rfl⟩:=h
      obtain ⟨rfl,h2,h3⟩:=aIe vs l r' h1
      exact ⟨by simp,by simpa using h2,fun x hx=>by
        simp at hx
        rcases hx with rfl|hx
        · exact aId e
        · exact h3 x hx⟩
theorem aFg:∀ (n:Nat) (vs l r:List Value),aQu n vs l=some r->r=l.take n ++ vs ++ l.drop (n+vs.length)/\n+vs.length<=l.length/\∀ v∈vs,v.oneCell'=true
  | 0,vs,l,r,h=>by
    obtain ⟨rfl,h2,h3⟩:=aIe vs l r h
    exact ⟨by simp,by omega,h3⟩
  | n+1,vs,[],r,h=>by cases h
  | n+1,vs,u::l,r,h=>by
    have h:(Option.rec none (fun r=>some (u::r)) (aQu n vs l):Option (List Value))=some r:=h
    rw [opr,aQ] at h
    obtain ⟨r',h1,rfl⟩:=h
    obtain ⟨rfl,h2,h3⟩:=aFg n vs l r' h1
    refine ⟨?_,by simp; omega,h3⟩
    rw [show n+1+vs.length=(n+vs.length)+1 from by omega]
    simp
theorem cl_eq (v:Value):v.cells.toList=cl v:=by
  cases v with
  | agg c=>obtain ⟨l⟩:=c; rfl
  | _=>rfl
/-! heaps -/
def rnE (ρ:Rn):List MapEntry->Option (List MapEntry)
  | []=>some []
  | m::l=>match rn ρ m.key,rn ρ m.val,rnE ρ l with
    | some k,some v,some r=>some (⟨k,v,m.born⟩::r)
    | _,_,_=>none
theorem aIf {ρ ρ':Rn} (h:ρ.le ρ'):∀ {l r:List MapEntry},rnE ρ l=some r->rnE ρ' l=some r
  | [],r,e=>e
  | m::l,r,e=>by
    simp only [rnE] at e ⊢
    cases h1:rn ρ m.key with
    | none=>simp [h1] at e
    | some k=>cases h2:rn ρ m.val with
      | none=>simp [h1,h2] at e
      | some v=>cases h3:rnE ρ l with
        | none=>simp [h1,h2,h3] at e
        | some r'=>rw [oK h h1,oK h h2,aIf h h3]; rw [h1,h2,h3] at e; exact e
def FK (ρ:Rn) (fr:Fr) (get:Nat->Value):Prop:=∀ t v,fr.get t=some v->∃ u,rn ρ v=some u/\get t=u
theorem FK.mono {ρ ρ':Rn} (h:ρ.le ρ') {fr:Fr} {g:Nat->Value} (k:FK ρ fr g):FK ρ' fr g:=fun t v hv =>
  let ⟨u,h1,h2⟩:=k t v hv; ⟨u,oK h h1,h2⟩
def NoFz (fz:Nat × Nat) (n:Nat):Prop:=∀ o,o<n->¬ (fz.1<=o/\o<fz.2)
def OR (P:Program) (ρ:Rn) (s e:Nat):AO->Obj->Prop
  | .cells c t,ob=>∃ pre us post fz k,ob=.cells (pre ++ us ++ post).toArray t fz/\rnL ρ c=some us/\pre.length=s/\post.length=e*k/\(e=0\/szP P t=some k)/\NoFz fz (pre ++ us ++ post).length
  | .map es cl,ob=>∃ r,ob=.map r.toArray cl/\rnE ρ es=some r
  | .loop st pd _ fr M ps asg body,ob=>∃ r:Loop,ob=.loop r/\r.state=st/\r.pending=pd/\r.params=ps/\r.assign=asg/\r.body=body/\r.tmps.size=M/\FK ρ fr (fun t=>r.tmps.getD t undef)
  | .mark,ob=>ob=.deferred (some [])
theorem OR.mono {P:Program} {ρ ρ':Rn} (h:ρ.le ρ') {s e:Nat} {a:AO} {o:Obj} (r:OR P ρ s e a o):OR P ρ' s e a o:=by
  cases a with
  | cells c t=>obtain ⟨pre,us,post,fz,k,h1,h2,h3⟩:=r; exact ⟨pre,us,post,fz,k,h1,lR h h2,h3⟩
  | map es cl=>obtain ⟨r,h1,h2⟩:=r; exact ⟨r,h1,aIf h h2⟩
  | loop st pd fn fr M ps asg body=>obtain ⟨r,h1,h2,h3,h4,h5,h6,h7,h8⟩:=r; exact ⟨r,h1,h2,h3,h4,h5,h6,h7,h8.mono h⟩
  | mark=>exact r
structure HR (P:Program) (ρ:Rn) (h:AH) (η:PH):Prop where
  val:∀ i a,h.get i=some a->∃ b s e o,ρ i=some (b,s,e)/\η b=some o/\OR P ρ s e a o
  dom:∀ b,η b≠none->∃ i a s e,h.get i=some a/\ρ i=some (b,s,e)
  inj:∀ i j b s e s' e',h.get i≠none->h.get j≠none->ρ i=some (b,s,e)->ρ j=some (b,s',e')->i=j
theorem AH.get_put {h h':AH} {i:Nat} {x:Option AO} (e:h.put i x=some h'):(∀ j,h'.get j=if j=i then x else h.get j)/\h'.next=h.next:=by
  have e:(Option.rec none (fun m=>some (⟨h.next,m⟩:AH)) (Tr.put 16 h.m i x):Option AH)=some h':=e
  rw [opr,aQ] at e
  obtain ⟨m,h1,rfl⟩:=e
  exact ⟨fun j=>Tr.get_put 16 x h.m m i j h1,rfl⟩
theorem AH.get_new {h h':AH} {x:AO} (e:h.new x=some h'):(∀ j,h'.get j=if j=h.next then some x else h.get j)/\h'.next=h.next+1:=by
  have e:(Option.rec none (fun m=>Option.rec none (fun n=>some (⟨n,m⟩:AH)) (fN (h.next+1))) (Tr.put 16 h.m h.next (some x)):Option AH)=some h':=e
  rw [aDu] at e;simp only [opr,aQ] at e
  obtain ⟨m,h1,rfl⟩:=e
  exact ⟨fun j=>Tr.get_put 16 (some x) h.m m h.next j h1,rfl⟩
def jL (ρ:Rn) (i:Nat) (x:Nat × Nat × Nat):Rn:=fun j=>if j=i then some x else ρ j
theorem kM {ρ:Rn} {i:Nat} {x:Nat × Nat × Nat} (h:ρ i=none):ρ.le (jL ρ i x):=fun j y hj=>by
  unfold jL
  by_cases e:j=i
  · subst e; rw [h] at hj; cases hj
  · rw [if_neg e]; exact hj
def iT (η:PH) (b:Nat) (o:Option Obj):PH:=fun b'=>if b'=b then o else η b'
theorem HR.new {P:Program} {ρ:Rn} {h h':AH} {η:PH} (r:HR P ρ h η) {x:AO} (e:h.new x=some h') (hn:ρ h.next=none) {b s ex:Nat} (hb:η b=none) {o:Obj} (ho:OR P (jL ρ h.next (b,s,ex)) s ex x o) :
    HR P (jL ρ h.next (b,s,ex)) h' (iT η b (some o)):=by
  obtain ⟨g,_⟩:=AH.get_new e
  have hle:=kM (x:=(b,s,ex)) hn
  have hne:∀ i a,h.get i=some a->i≠h.next:=fun i a hi e=>by
    obtain ⟨b',s',e',_,h1,_⟩:=r.val i a hi
    rw [e,hn] at h1; cases h1
  have hbn:∀ i a,h.get i=some a->∀ b' s' e',ρ i=some (b',s',e')->b'≠b:=fun i a hi b' s' e' h1 e=>by
    obtain ⟨b2,s2,e2,o2,h2,h3,_⟩:=r.val i a hi
    rw [h1] at h2; cases h2;rw [e,hb] at h3; cases h3
  refine ⟨fun i a hi=>?_,fun b' hb'=>?_,fun i j b' s' e' s2 e2 hi hj h1 h2=>?_⟩
  · rw [g] at hi
    by_cases ei:i=h.next
    · rw [if_pos ei] at hi; cases hi
      exact ⟨b,s,ex,o,by simp [jL,ei],by simp [iT],ho⟩
    · rw [if_neg ei] at hi
      obtain ⟨b',s',e',o',h1,h2,h3⟩:=r.val i a hi
      exact ⟨b',s',e',o',hle i _ h1,by simp [iT,hbn i a hi b' s' e' h1,h2],h3.mono hle⟩
  · by_cases eb:b'=b
    · exact ⟨h.next,x,s,ex,by rw [g,if_pos rfl],by simp [jL,eb]⟩
    · simp only [iT,if_neg eb] at hb'
      obtain ⟨i,a,s',e',h1,h2⟩:=r.dom b' hb'
      exact ⟨i,a,s',e',by rw [g,if_neg (hne i a h1)]; exact h1,hle i _ h2⟩
  · rw [g] at hi hj
    by_cases ei:i=h.next <;> by_cases ej:j=h.next
    · rw [ei,ej]
    · rw [if_neg ej] at hj
      obtain ⟨a,ha⟩:=dO.1 hj
      simp only [jL,if_pos ei,aD,Prod.mk.injEq] at h1;simp only [jL,if_neg ej] at h2;exact absurd h1.1.symm (hbn j a ha b' s2 e2 h2)
    · rw [if_neg ei] at hi
      obtain ⟨a,ha⟩:=dO.1 hi
      simp only [jL,if_pos ej,aD,Prod.mk.injEq] at h2;simp only [jL,if_neg ei] at h1;exact absurd h2.1.symm (hbn i a ha b' s' e' h1)
    · rw [if_neg ei] at hi; rw [if_neg ej] at hj
      simp only [jL,if_neg ei] at h1; simp only [jL,if_neg ej] at h2;exact r.inj i j b' s' e' s2 e2 hi hj h1 h2
theorem HR.put {P:Program} {ρ:Rn} {h h':AH} {η:PH} (r:HR P ρ h η) {i:Nat} {x x0:AO} (h0:h.get i=some x0) (e:h.put i (some x)=some h') {b s ex:Nat} (hi:ρ i=some (b,s,ex)) {o:Obj} (ho:OR P ρ s ex x o) :
    HR P ρ h' (iT η b (some o)):=by
  obtain ⟨g,_⟩:=AH.get_put e
  have hbn:∀ j a,h.get j=some a->j≠i->∀ b' s' e',ρ j=some (b',s',e')->b'≠b:=fun j a hj hji b' s' e' h1 e=>by
    subst e
    exact hji (r.inj j i b' s' e' s ex (by rw [hj]; simp) (by rw [h0]; simp) h1 hi)
  refine ⟨fun j a hj=>?_,fun b' hb'=>?_,fun j k b' s' e' s2 e2 hj hk h1 h2=>?_⟩
  · rw [g] at hj
    by_cases ej:j=i
    · rw [if_pos ej] at hj; cases hj
      exact ⟨b,s,ex,o,ej ▸ hi,by simp [iT],ho⟩
    · rw [if_neg ej] at hj
      obtain ⟨b',s',e',o',h1,h2,h3⟩:=r.val j a hj
      exact ⟨b',s',e',o',h1,by simp [iT,hbn j a hj ej b' s' e' h1,h2],h3⟩
  · by_cases eb:b'=b
    · exact ⟨i,x,s,ex,by rw [g,if_pos rfl],eb ▸ hi⟩
    · simp only [iT,if_neg eb] at hb'
      obtain ⟨j,a,s',e',h1,h2⟩:=r.dom b' hb'
      have:j≠i:=fun ej=>by
        subst ej; rw [hi] at h2; cases h2; exact eb rfl
      exact ⟨j,a,s',e',by rw [g,if_neg this]; exact h1,h2⟩
  · have up:∀ j,h'.get j≠none->h.get j≠none:=fun j hj=>by
      rw [g] at hj
      by_cases ej:j=i
      · rw [ej,h0]; simp
      · rwa [if_neg ej] at hj
    exact r.inj j k b' s' e' s2 e2 (up j hj) (up k hk) h1 h2
theorem HR.drop {P:Program} {ρ:Rn} {h h':AH} {η:PH} (r:HR P ρ h η) {i:Nat} {x0:AO} (h0:h.get i=some x0) (e:h.put i none=some h') {b s ex:Nat} (hi:ρ i=some (b,s,ex)):HR P ρ h' (iT η b none):=by
  obtain ⟨g,_⟩:=AH.get_put e
  have hbn:∀ j a,h.get j=some a->j≠i->∀ b' s' e',ρ j=some (b',s',e')->b'≠b:=fun j a hj hji b' s' e' h1 e=>by
    subst e
    exact hji (r.inj j i b' s' e' s ex (by rw [hj]; simp) (by rw [h0]; simp) h1 hi)
  have gj:∀ j a,h'.get j=some a->j≠i/\h.get j=some a:=fun j a hj=>by
    rw [g] at hj
    by_cases ej:j=i
    · rw [if_pos ej] at hj; cases hj
    · rw [if_neg ej] at hj; exact ⟨ej,hj⟩
  refine ⟨fun j a hj=>?_,fun b' hb'=>?_,fun j k b' s' e' s2 e2 hj hk h1 h2=>?_⟩
  · obtain ⟨ej,hj⟩:=gj j a hj
    obtain ⟨b',s',e',o',h1,h2,h3⟩:=r.val j a hj
    exact ⟨b',s',e',o',h1,by simp [iT,hbn j a hj ej b' s' e' h1,h2],h3⟩
  · by_cases eb:b'=b
    · simp [iT,eb] at hb'
    · simp only [iT,if_neg eb] at hb'
      obtain ⟨j,a,s',e',h1,h2⟩:=r.dom b' hb'
      have:j≠i:=fun ej=>by
        subst ej; rw [hi] at h2; cases h2; exact eb rfl
      exact ⟨j,a,s',e',by rw [g,if_neg this]; exact h1,h2⟩
  · have up:∀ j,h'.get j≠none->h.get j≠none:=fun j hj=>by
      obtain ⟨a,ha⟩:=dO.1 hj
      rw [(gj j a ha).2]; simp
    exact r.inj j k b' s' e' s2 e2 (up j hj) (up k hk) h1 h2
theorem HR.cell {P:Program} {ρ:Rn} {h:AH} {η:PH} {w:World} (r:HR P ρ h η) (hw:η.le w) {i:Nat} {c:List Value} {t:TypeId} (hi:h.get i=some (.cells c t)) {b s e:Nat} (hρ:ρ i=some (b,s,e)) {us:List Value} (hu:rnL ρ c=some us) {o:Nat} {u:Value} (ho:us[o]?=some u) :
    w.cell? ⟨b,s+o,none⟩=some u:=by
  obtain ⟨b',s',e',ob,h1,h2,h3⟩:=r.val i _ hi
  rw [hρ] at h1; cases h1
  obtain ⟨pre,us',post,fz,k,rfl,k2,k3,_⟩:=h3
  rw [hu] at k2; cases k2
  have:=hw b _ h2
  simp only [World.cell?,this]
  have hl:o<us.length:=(aC.1 ho).1
  have hx:(pre ++ us ++ post)[s+o]?=some u:=by
    rw [aR,bY (by omega),cM (by omega),show s+o-pre.length=o from by omega]
    exact ho
  simpa using hx
theorem HR.row {P:Program} {ρ:Rn} {h:AH} {η:PH} {w:World} (r:HR P ρ h η) (hw:η.le w) {i o n:Nat} {l:List Value} (hl:aAv h i o n=some l) {b s e:Nat} (hρ:ρ i=some (b,s,e)) :
    ∃ us,rnL ρ l=some us/\l.length=n/\∀ j u,us[j]?=some u->w.cell? ⟨b,s+o+j,none⟩=some u:=by
  unfold aAv at hl
  split at hl
  · rename_i c t hi
    cases hd:aDx o c with
    | none=>rw [hd] at hl; cases hl
    | some r0 =>
      rw [hd] at hl
      obtain ⟨rfl,h1⟩:=pE _ _ _ hd
      obtain ⟨rfl,h2⟩:=pD _ _ _ hl
      obtain ⟨b',s',e',ob,k1,k2,k3⟩:=r.val i _ hi
      rw [hρ] at k1; cases k1
      obtain ⟨pre,us,post,fz,k,_,k4,_⟩:=id k3
      have q1:=(iI o k4).2
      have q2:=(iI n q1).1
      refine ⟨_,q2,by rw [aL]; omega,fun j u hu=>?_⟩
      have hj:j<n:=by
        have:=(aC.1 hu).1
        simp at this; omega
      rw [cJ hj,dX] at hu
      have:=r.cell hw hi hρ k4 hu
      rw [dL]; exact this
  · cases hl
section
def EK (ρ:Rn) (fr:Fr) (ev:Operand->Value) (xs:Array Operand):Prop:=∀ x∈xs,∀ v,evX fr x=some v->(∃ t,x=.tmp t)\/gR v=true->∃ u,rn ρ v=some u/\ev x=u
section
variable {P:Program} {ρ:Rn} {fr:Fr} {ev:Operand->Value} {w:World}
def FR (_:Rn) (_:Fr):Prop:=True
theorem aT8 {x:Operand} {d:Od} (h:gW x=some d):evO fr d=evX fr x/\((∃ t,x=.tmp t)\/∃ v,evX fr x=some v/\gR v=true):=by
  cases x with
  | tmp t=>simp only [gW,aD] at h; subst h; exact ⟨rfl,.inl ⟨t,rfl⟩⟩
  | const v =>
    simp only [gW] at h
    cases hf:gR v with
    | true=>rw [hf] at h; simp only [cond_true,aD] at h; subst h; exact ⟨rfl,.inr ⟨v,rfl,hf⟩⟩
    | false=>rw [hf] at h; cases h
  | global g=>cases h
  | func f=>simp only [gW,aD] at h; subst h; exact ⟨rfl,.inr ⟨_,rfl,rfl⟩⟩
theorem gH (hf:FR ρ fr) {xs:Array Operand} (hk:EK ρ fr ev xs) {x:Operand} (hx:x∈xs) {d:Od} (h:gW x=some d) {v:Value} (hv:evO fr d=some v):∃ u,rn ρ v=some u/\ev x=u:=by
  obtain ⟨h1,h2⟩:=aT8 (fr:=fr) h
  rw [h1] at hv
  rcases h2 with ⟨t,rfl⟩|⟨v',h3,h4⟩
  · exact hk _ hx v hv (.inl ⟨t,rfl⟩)
  · rw [h3] at hv; cases hv
    exact hk _ hx _ h3 (.inr h4)
theorem aWj {x:Od} {l:List Od} {vs:List Value}:aAu fr (x::l)=some vs↔∃ v r,evO fr x=some v/\aAu fr l=some r/\vs=v::r:=by
  show (Option.rec none (fun v=>Option.rec none (fun vs=>some (v::vs)) (aAu fr l)) (evO fr x):Option (List Value))=some vs↔_
  cases evO fr x with
  | none=>simp
  | some v=>cases aAu fr l with
    | none=>simp
    | some r=>simp [eq_comm]
theorem aA3 (hf:FR ρ fr) {xs:Array Operand} (hk:EK ρ fr ev xs):∀ {l:List Operand} {ds:List Od},(∀ x∈l,x∈xs)->lI l=some ds->∀ {vs:List Value},aAu fr ds=some vs->∃ us,rnL ρ vs=some us/\l.map ev=us
  | [],ds,_,h,vs,hv=>by
    cases h; cases hv; exact ⟨[],rfl,rfl⟩
  | x::l,ds,hl,h,vs,hv=>by
    simp only [lI] at h
    cases h1:gW x with
    | none=>simp [h1] at h
    | some d=>cases h2:lI l with
      | none=>simp [h1,h2] at h
      | some r =>
        simp only [h1,h2,aD] at h; subst h
        obtain ⟨v,r',e1,e2,rfl⟩:=aWj.1 hv
        obtain ⟨u,k1,k2⟩:=gH hf hk (hl x (by simp)) h1 e1
        obtain ⟨us,k3,k4⟩:=aA3 hf hk (fun y hy=>hl y (by simp [hy])) h2 e2
        exact ⟨u::us,rnL_cons.2 ⟨u,us,k1,k3,rfl⟩,by simp [k2,k4]⟩
/-! what values are -/
theorem pU {i o:Nat} {u:Value} (h:rn ρ (.pointer (some ⟨i,o,none⟩))=some u):∃ b s e,ρ i=some (b,s,e)/\u=.pointer (some ⟨b,s+o,none⟩):=by
  simp only [rn,rnA] at h
  cases hi:ρ i with
  | none=>simp [hi] at h
  | some x=>obtain ⟨b,s,e⟩:=x; rw [hi] at h; simp only [aD] at h; exact ⟨b,s,e,rfl,h.symm⟩
theorem rn_agg {l:List Value} {u:Value} (h:rn ρ (.agg ⟨l⟩)=some u):∃ us,rnL ρ l=some us/\u=.agg us.toArray:=by
  simp only [rn,rnR] at h
  cases hl:rnL ρ l with
  | none=>simp [hl] at h
  | some us=>simp only [hl,aD] at h; exact ⟨us,rfl,h.symm⟩
theorem vB {l:List Value} {u:Value} (h:rn ρ (.tuple ⟨l⟩)=some u):∃ us,rnL ρ l=some us/\u=.tuple us.toArray:=by
  simp only [rn,rnR] at h
  cases hl:rnL ρ l with
  | none=>simp [hl] at h
  | some us=>simp only [hl,aD] at h; exact ⟨us,rfl,h.symm⟩
theorem nX {i o n c:Nat} {u:Value} (h:rn ρ (.slice (some ⟨i,o,none⟩) n c)=some u):∃ b s e,ρ i=some (b,s,e)/\rnS ρ i o n c=some u:=by
  simp only [rn] at h
  cases hi:ρ i with
  | none=>simp [rnS,hi] at h
  | some x=>obtain ⟨b,s,e⟩:=x; exact ⟨b,s,e,rfl,h⟩
theorem sD {i o n c:Nat} {u:Value} (h:rnS ρ i o n c=some u) (hn:0<n):∃ b s e c',ρ i=some (b,s,e)/\u=.slice (some ⟨b,s+o,none⟩) n c':=by
  unfold rnS at h
  cases hi:ρ i with
  | none=>simp [hi] at h
  | some x =>
    obtain ⟨b,s,e⟩:=x
    rw [hi] at h;simp only at h
    split at h
    · cases h; exact ⟨b,s,e,_,rfl,rfl⟩
    · split at h
      · cases h; exact ⟨b,s,e,_,rfl,rfl⟩
      · rw [if_neg (by omega)] at h; cases h
theorem mR {i o n c:Nat} {u:Value} (h:rnS ρ i o n c=some u):∃ b o' c',u=.slice (some ⟨b,o',none⟩) n c':=by
  unfold rnS at h
  cases hi:ρ i with
  | none=>simp [hi] at h
  | some x =>
    obtain ⟨b,s,e⟩:=x
    rw [hi] at h;simp only at h
    split at h
    · cases h; exact ⟨_,_,_,rfl⟩
    · split at h
      · cases h; exact ⟨_,_,_,rfl⟩
      · split at h
        · rename_i h0; subst h0
          split at h <;> cases h <;> exact ⟨_,_,_,rfl⟩
        · cases h
theorem mK {v:Option Value} {n:Nat} (h:pC v=some n):∃ k,v=some (.int k (n:Int)):=by
  unfold pC at h
  split at h
  · cases h; exact ⟨_,rfl⟩
  · cases h
end
/-! words without memory -/
section
variable {P:Program}
theorem aA4 {α:Type}:∀ (s:Sem α) {a:α} (w:World),qP P s=some a->s.run P w=.ok a w
  | .pure a,b,w,h=>by simp only [qP,aD] at h; subst h; rfl
  | .program k,b,w,h=>by simp only [qP] at h; simp only [Sem.run]; exact aA4 (k P) w h
  | .mark m k,b,w,h=>by simp only [qP] at h; simp only [Sem.run]; exact aA4 k w h
  | .load ..,b,w,h=>by simp [qP] at h
  | .store ..,b,w,h=>by simp [qP] at h
  | .new ..,b,w,h=>by simp [qP] at h
  | .shape ..,b,w,h=>by simp [qP] at h
  | .freeze ..,b,w,h=>by simp [qP] at h
  | .frozen ..,b,w,h=>by simp [qP] at h
  | .getObj ..,b,w,h=>by simp [qP] at h
  | .setObj ..,b,w,h=>by simp [qP] at h
  | .choose ..,b,w,h=>by simp [qP] at h
  | .sys ..,b,w,h=>by simp [qP] at h
  | .halt ..,b,w,h=>by simp [qP] at h
def aOk:Op->Bool
  | .binOp .. | .unOp .. | .index .. | .slice .. | .convert .. | .call ⟨.builtin _,_,_⟩=>true
  | _=>false
theorem aFh {r1 r2:Operand->Value} {o:Oper} (hk:aOk o.op=true) (h:∀ x∈o.op.operands,r1 x=r2 x):execOp r1 o=execOp r2 o:=by
  obtain ⟨dst,op,ty,pos,aft,g⟩:=o
  cases op with
  | binOp op t x y yt =>
    have h1:=h x (by simp [Op.operands]); have h2:=h y (by simp [Op.operands])
    simp only [execOp,h1,h2]
  | unOp op t x=>have h1:=h x (by simp [Op.operands]); simp only [execOp,h1]
  | convert s d x=>have h1:=h x (by simp [Op.operands]); simp only [execOp,h1]
  | index t x y =>
    have h1:=h x (by simp [Op.operands]); have h2:=h y (by simp [Op.operands])
    simp only [execOp,h1,h2]
  | slice t x lo hi mx =>
    have h1:=h x (by simp [Op.operands])
    have h2:lo.map r1=lo.map r2:=by cases lo with
      | none=>rfl
      | some y=>simp only [fC,aD]; exact h y (by simp [Op.operands])
    have h3:hi.map r1=hi.map r2:=by cases hi with
      | none=>rfl
      | some y=>simp only [fC,aD]; exact h y (by simp [Op.operands])
    have h4:mx.map r1=mx.map r2:=by cases mx with
      | none=>rfl
      | some y=>simp only [fC,aD]; exact h y (by simp [Op.operands])
    simp only [execOp,h1,h2,h3,h4]
  | call c =>
    obtain ⟨cal,args,ts⟩:=c
    cases cal with
    | builtin b =>
      have h1:args.map r1=args.map r2:=Array.map_congr_left (fun x hx=>h x (by simp [Op.operands,Call.operands,hx]))
      simp only [execOp,resolve,h1]
    | value f=>simp [aOk] at hk
    | invoke r n=>simp [aOk] at hk
  | _=>simp [aOk] at hk
theorem aOl {n:Option Next} {v:Value} (h:valO n=some v):n=some (.value v)/\gR v=true:=by
  unfold valO at h
  split at h
  · rename_i u
    cases hf:gR u with
    | true=>rw [hf] at h; simp only [cond_true,aD] at h; subst h; exact ⟨rfl,hf⟩
    | false=>rw [hf] at h; cases h
  · cases h
theorem aT9 {o:Oper} {fr:Fr} {ev:Operand->Value} {ρ:Rn} {v:Value} (hk:aOk o.op=true) (h:aAt P o fr=some v) (he:EK ρ fr ev o.op.operands) (w:World):rn ρ v=some v/\(execOp ev o).run P w=.ok (.value v) w:=by
  unfold aAt at h
  cases ha:aFb fr o.op with
  | false=>rw [ha] at h; cases h
  | true =>
    rw [ha] at h
    obtain ⟨h1,h2⟩:=aOl h
    refine ⟨iM h2,?_⟩
    have hc:execOp (rdX fr) o=execOp ev o:=aFh hk (fun x hx=>by
      unfold aFb at ha;rw [dA] at ha
      have:=ha x (by simpa using hx)
      unfold rdX
      cases e:evX fr x with
      | none=>simp [e] at this
      | some u =>
        simp only [e] at this
        obtain ⟨u',k1,k2⟩:=he x hx u e (.inr this)
        rw [iM this] at k1; cases k1; exact k2.symm)
    rw [← hc];exact aA4 _ w h1
end
/-! numbers -/
theorem wr_eq (k:IntKind) (n:Int):wr k n=k.wrap n:=by
  cases n with
  | negSucc m=>rfl
  | ofNat m =>
    show (Bool.rec (IntKind.wrap k (Int.ofNat m)) (.ofNat m) (Nat.blt m (oS k)):Int)=_
    cases e:Nat.blt m (oS k) with
    | false=>rfl
    | true =>
      have h:m<oS k:=aT e
      have hm:(0:Int)<=(m:Int):=by omega
      cases k <;> simp only [oS] at h <;> simp [IntKind.wrap,IntKind.bits,IntKind.signed] <;> omega
theorem aRn (a b:Nat):Nat.beq a b=decide (a=b):=by
  by_cases h:a=b
  · subst h; rw [show Nat.beq a a=true from eN a]; simp
  · cases e:Nat.beq a b with
    | true=>exact absurd (aO e) h
    | false=>simp [h]
theorem aA5 (m n:Int):beI m n=(m == n):=by
  have e:∀ m n:Int,(m == n)=decide (m=n):=fun m n=>rfl
  rw [e]
  cases m <;> cases n <;> simp only [beI,aRn] <;> rw [eC] <;> simp <;> omega
theorem aFi (m n:Int):ltI m n=decide (m<n):=by
  have e:∀ a b:Nat,Nat.blt a b=decide (a<b):=fun a b=>by
    rw [eC]; simp [Nat.blt,Nat.lt_iff_add_one_le]
  cases m <;> cases n <;> simp only [ltI,e] <;> rw [eC] <;> simp <;> omega
theorem aRo {k k':IntKind} (h:kB k k'=true):k=k':=by cases k <;> cases k' <;> first|rfl|cases h
theorem aFj:∀ (a b:List UInt8),beB a b=(a == b)
  | [],[]=>rfl
  | [],_::_=>rfl
  | _::_,[]=>rfl
  | a::l,b::m=>by
    have e:Nat.beq a.toNat b.toNat=(a == b):=by
      rw [eC]; simp [UInt8.toNat_inj]
    simp only [beB,e,aFj l m]; rfl
end
section
theorem bl (b:ByteArray):∀ (n i:Nat) (r:List UInt8),b.size-i=n->ByteArray.toList.loop b i r=r.reverse ++ b.data.toList.drop i:=by
  intro n
  induction n with
  | zero =>
    intro i r h
    rw [ByteArray.toList.loop]
    have h1:¬ i<b.size:=by omega
    have h2:b.data.toList.length<=i:=by simp only [ByteArray.size] at h; simp; omega
    rw [if_neg h1,cE h2]; simp
  | succ n ih =>
    intro i r h
    rw [ByteArray.toList.loop]
    have h1:i<b.size:=by omega
    have h2:i<b.data.toList.length:=by simp only [ByteArray.size] at h1; simpa using h1
    rw [if_pos h1,ih (i+1) _ (by omega),bU h2]
    have h3:b.get! i=b.data.toList[i]:=by
      have:i<b.data.size:=by simpa using h2
      simp only [ByteArray.get!];rw [getElem!_pos b.data i this]; simp
    rw [h3]; simp
theorem aIg (b:ByteArray):b.toList=b.data.toList:=by
  have:=bl b (b.size-0) 0 [] rfl
  simpa [ByteArray.toList] using this
section
variable {P:Program} {w:World}
theorem aA6 {f:Nat->Nat->Nat} (k:IntKind) {a b:Nat} (ha:a<oS k) (hb:b<oS k) (hf:∀ n,a<2 ^ n->b<2 ^ n->f a b<2 ^ n):k.wrap ((f a b:Nat):Int)=((f a b:Nat):Int):=by
  have:f a b<oS k:=by
    cases k <;> simp only [oS] at ha hb ⊢
    · exact hf 7 ha hb
    · exact hf 15 ha hb
    · exact hf 31 ha hb
    · exact hf 63 ha hb
    · exact hf 8 ha hb
    · exact hf 16 ha hb
    · exact hf 32 ha hb
    · exact hf 64 ha hb
  rw [← wr_eq]
  show (Bool.rec (IntKind.wrap k (Int.ofNat (f a b))) (.ofNat (f a b)) (Nat.blt (f a b) (oS k)):Int)=_
  rw [show Nat.blt (f a b) (oS k)=true from Nat.ble_eq_true_of_le this]; rfl
theorem wX (k:IntKind) {a:Nat} (ha:a<oS k):(BitVec.ofInt k.bits (a:Int)).toNat=a:=by
  rw [BitVec.toNat_ofInt]
  have:a<2 ^ k.bits:=by cases k <;> simp only [oS] at ha <;> simp [IntKind.bits] <;> omega
  rw [show ((2 ^ k.bits:Nat):Int)=((2 ^ k.bits:Nat):Int) from rfl,← Int.natCast_emod,cL,Nat.mod_eq_of_lt this]
theorem wY {f:Nat->Nat->Nat} {k:IntKind} {m n:Int} {r:Value} (h:bitI f k m n=some r):∃ a b:Nat,m=a/\n=b/\a<oS k/\b<oS k/\r=.int k (f a b:Nat):=by
  cases m with
  | negSucc a=>cases h
  | ofNat a=>cases n with
    | negSucc b=>cases h
    | ofNat b =>
      have h:(Bool.rec none (some (.int k (.ofNat (f a b)))) (Nat.blt a (oS k) && Nat.blt b (oS k)):Option Value)=some r:=h
      cases e:(Nat.blt a (oS k) && Nat.blt b (oS k)) with
      | false=>rw [e] at h; cases h
      | true =>
        rw [e] at h;simp only [aJ] at e
        cases h
        exact ⟨a,b,rfl,rfl,aT e.1,aT e.2,rfl⟩
theorem aRp {op:BinOp} {k:IntKind} {m n:Int} {r:Value} (h:binI op k m n=some r) (hs:shO op=0) (t:TypeId) (x y:Operand) :
    (do eqGuard op t x y (.int k m) (.int k n); binOp op t (.int k m) (.int k n):Sem Value).run P w=.ok r w/\gR r=true:=by
  have hw:∀ z,wr k z=k.wrap z:=wr_eq k
  cases op <;> simp only [binI] at h <;> try (cases h; done)
  case add=>cases h; simp [eqGuard,binOp,Op.intArith,hw,gR]
  case sub=>cases h; simp [eqGuard,binOp,Op.intArith,hw,gR]
  case mul=>cases h; simp [eqGuard,binOp,Op.intArith,hw,gR]
  case eql=>cases h; simp [eqGuard,binOp,Op.intCmp,aA5,gR]
  case neq=>cases h; simp [eqGuard,binOp,Op.intCmp,aA5,gR,bne]
  case lss=>cases h; simp [eqGuard,binOp,Op.intCmp,aFi,gR]
  case leq=>cases h; simp [eqGuard,binOp,Op.intCmp,aFi,gR,← decide_not,Int.not_lt]
  case gtr=>cases h; simp [eqGuard,binOp,Op.intCmp,aFi,gR]
  case geq=>cases h; simp [eqGuard,binOp,Op.intCmp,aFi,gR,← decide_not,Int.not_lt]
  case quo =>
    cases m with
    | negSucc a=>cases h
    | ofNat a=>cases n with
      | negSucc b=>cases h
      | ofNat b =>
        simp only [quoI,aRn] at h
        by_cases hb:b=0
        · simp [hb] at h
        · simp only [hb,decide_false,cond_false,aD] at h
          subst h
          have hz:((b:Nat):Int)≠0:=by omega
          have hd:((a:Nat):Int).tdiv (b:Nat)=((a / b:Nat):Int):=by simp [Int.ofNat_tdiv]
          simp [eqGuard,binOp,Op.intDiv,hb,hd,hw,gR]
  case rem =>
    cases m with
    | negSucc a=>cases h
    | ofNat a=>cases n with
      | negSucc b=>cases h
      | ofNat b =>
        simp only [remI,aRn] at h
        by_cases hb:b=0
        · simp [hb] at h
        · simp only [hb,decide_false,cond_false,aD] at h
          subst h
          have hd:((a:Nat):Int).tmod (b:Nat)=((a % b:Nat):Int):=by rw [Int.tmod_eq_emod_of_nonneg (by omega)]; rfl
          simp [eqGuard,binOp,Op.intDiv,hb,hd,gR]
  case and =>
    obtain ⟨a,b,rfl,rfl,ha,hb,rfl⟩:=wY h
    have h1:=aA6 (f:=Nat.land) k ha hb (fun n h1 h2=>Nat.and_lt_two_pow _ h2)
    have h2:=wX k ha; have h3:=wX k hb
    have h4:(BitVec.ofInt k.bits (a:Int) &&& BitVec.ofInt k.bits (b:Int)).toNat=Nat.land a b:=by rw [BitVec.toNat_and,h2,h3]; rfl
    simp only [eqGuard,binOp,Op.intBits,h4,h1]; simp [gR]
  case or =>
    obtain ⟨a,b,rfl,rfl,ha,hb,rfl⟩:=wY h
    have h1:=aA6 (f:=Nat.lor) k ha hb (fun n h1 h2=>Nat.or_lt_two_pow h1 h2)
    have h2:=wX k ha; have h3:=wX k hb
    have h4:(BitVec.ofInt k.bits (a:Int) ||| BitVec.ofInt k.bits (b:Int)).toNat=Nat.lor a b:=by rw [BitVec.toNat_or,h2,h3]; rfl
    simp only [eqGuard,binOp,Op.intBits,h4,h1]; simp [gR]
  case xor =>
    obtain ⟨a,b,rfl,rfl,ha,hb,rfl⟩:=wY h
    have h1:=aA6 (f:=Nat.xor) k ha hb (fun n h1 h2=>Nat.xor_lt_two_pow h1 h2)
    have h2:=wX k ha; have h3:=wX k hb
    have h4:(BitVec.ofInt k.bits (a:Int) ^^^ BitVec.ofInt k.bits (b:Int)).toNat=Nat.xor a b:=by rw [BitVec.toNat_xor,h2,h3]; rfl
    simp only [eqGuard,binOp,Op.intBits,h4,h1]; simp [gR]
theorem aRq {op:BinOp} {s s':ByteArray} {r:Value} (h:binS op s s'=some r) (t:TypeId) (x y:Operand) :
    (do eqGuard op t x y (.string s) (.string s'); binOp op t (.string s) (.string s'):Sem Value).run P w=.ok r w/\gR r=true:=by
  have e:(s.toList == s'.toList)=beB s.data.toList s'.data.toList:=by
    rw [aFj,aIg,aIg]
  cases op <;> simp only [binS] at h <;> try (cases h; done)
  case eql=>cases h; refine ⟨?_,rfl⟩; simp only [eqGuard,binOp,Op.stringOp,e]; simp [Sem.run]
  case neq=>cases h; refine ⟨?_,rfl⟩; simp only [eqGuard,binOp,Op.stringOp,e]; simp [Sem.run]
  case add =>
    unfold catS at h;rw [aVv] at h;simp only at h
    cases hb:Nat.blt (s.data.toList ++ s'.data.toList).length 9000000000000000000 with
    | false=>rw [hb] at h; cases h
    | true =>
      rw [hb] at h;simp only [cond_true,aD] at h;subst h
      have hlen:(s.data.toList ++ s'.data.toList).length<9000000000000000000:=aT hb
      have hsz:¬ IntKind.i64.max<((s.size+s'.size:Nat):Int):=by
        have h1:s.size=s.data.toList.length:=rfl
        have h2:s'.size=s'.data.toList.length:=rfl
        rw [aB] at hlen
        rw [h1,h2,show IntKind.i64.max=9223372036854775807 from rfl]
        omega
      have he:s ++ s'=⟨⟨s.data.toList ++ s'.data.toList⟩⟩:=by
        apply ByteArray.ext
        rw [ByteArray.data_append]
        apply Array.ext'
        simp
      refine ⟨?_,rfl⟩;simp only [eqGuard,binOp,Op.stringOp,gt_iff_lt,if_neg hsz,he]
      simp
end
end
section
section
variable {P:Program} {ρ:Rn} {fr:Fr} {ev:Operand->Value} {w:World}
theorem aOm {op:BinOp} {u v r:Value} (h:aQv op u v=some r) (t:TypeId) (x y:Operand) :
    (do eqGuard op t x y u v; binOp op t u v:Sem Value).run P w=.ok r w/\gR r=true/\gR u=true/\gR v=true:=by
  cases u <;> simp only [aQv] at h <;> try (cases h; done)
  case int k m =>
    cases v <;> simp only [evBI] at h <;> try (cases h; done)
    case int k' n =>
      split at h
      · rename_i hs
        cases hk:kB k k' with
        | false=>rw [hk] at h; cases h
        | true =>
          rw [hk] at h
          have:=aRo hk; subst this
          obtain ⟨h1,h2⟩:=aRp (P:=P) (w:=w) h hs t x y
          exact ⟨h1,h2,rfl,rfl⟩
      · rename_i hs
        have hop:op=.shl:=by cases op <;> first|rfl|cases hs
        subst hop
        cases n with
        | negSucc b=>cases h
        | ofNat b =>
          simp only [shlI,aD] at h;subst h;refine ⟨?_,rfl,rfl,rfl⟩
          have e:(wr k (m*2 ^ Nat.min b k.bits))=k.wrap (m*2 ^ (min b k.bits)):=wr_eq k _
          have hb:¬ ((b:Nat):Int)<0:=Int.not_lt.2 (Int.natCast_nonneg b)
          simp only [eqGuard,binOp,Op.shift,Int.ofNat_eq_natCast,if_neg hb,cL];rw [e]; simp
      · rename_i h0 h1
        have hop:op=.shr:=by cases op <;> first|rfl|exact absurd rfl h0|exact absurd rfl h1
        subst hop
        cases m with
        | negSucc a=>cases h
        | ofNat a=>cases n with
          | negSucc b=>cases h
          | ofNat b =>
            simp only [shrI,aD] at h;subst h;refine ⟨?_,rfl,rfl,rfl⟩
            have e:((a:Nat):Int).fdiv (2 ^ (min b k.bits))=((a / 2 ^ Nat.min b k.bits:Nat):Int):=by
              rw [Int.fdiv_eq_ediv_of_nonneg _ (by exact Int.le_of_lt (Int.pow_pos (by omega)))]
              simp
            have hb:¬ ((b:Nat):Int)<0:=Int.not_lt.2 (Int.natCast_nonneg b)
            simp only [eqGuard,binOp,Op.shift,Int.ofNat_eq_natCast,if_neg hb,cL];rw [e]; simp
  case string s =>
    cases v <;> simp only [evBS] at h <;> try (cases h; done)
    case string s' =>
      obtain ⟨h1,h2⟩:=aRq (P:=P) (w:=w) h t x y
      exact ⟨h1,h2,rfl,rfl⟩
theorem aMq {t e:TypeId} {b:Option Addr} (d:Nat) (he:P.underlying t=some (.pointer e)):(Op.equalIn (d+1) t (.pointer none) (.pointer b)).run P w=.ok b.isNone w:=by
  simp [Op.equalIn,run_underlying he]
theorem aUa {t e:TypeId} {a:Addr} (d:Nat) (he:P.underlying t=some (.pointer e)):(Op.equalIn (d+1) t (.pointer (some a)) (.pointer none)).run P w=.ok false w:=by
  simp [Op.equalIn,run_underlying he]
theorem aRr {t e:TypeId} {b:Option Addr} {n c n' c':Nat} (d:Nat) (he:P.underlying t=some (.slice e)):(Op.equalIn (d+1) t (.slice none n c) (.slice b n' c')).run P w=.ok b.isNone w:=by
  simp [Op.equalIn,run_underlying he]
theorem aWk {t e:TypeId} {a:Addr} {n c n' c':Nat} (d:Nat) (he:P.underlying t=some (.slice e)):(Op.equalIn (d+1) t (.slice (some a) n c) (.slice none n' c')).run P w=.ok false w:=by
  simp [Op.equalIn,run_underlying he]
theorem aWl {t:TypeId} {a c:Array TypeId} {v:Bool} (d:Nat) (he:P.underlying t=some (.func a c v)):(Op.equalIn (d+1) t .nilFunc .nilFunc).run P w=.ok true w:=by
  simp [Op.equalIn,run_underlying he]
theorem aWm {t:TypeId} {a c:Array TypeId} {v:Bool} {f:Fn} {xs cs:Array Value} (d:Nat) (he:P.underlying t=some (.func a c v)):(Op.equalIn (d+1) t .nilFunc (.func f xs cs)).run P w=.ok false w:=by
  simp [Op.equalIn,run_underlying he]
theorem aWn {t:TypeId} {a c:Array TypeId} {v:Bool} {f:Fn} {xs cs:Array Value} (d:Nat) (he:P.underlying t=some (.func a c v)):(Op.equalIn (d+1) t (.func f xs cs) .nilFunc).run P w=.ok false w:=by
  simp [Op.equalIn,run_underlying he]
theorem aOn {k:Nat} {u v u' v':Value} {b:Bool} {t:TypeId} (h:aQw k u v=some b) (hk:aQs P t=k) (hu:rn ρ u=some u') (hv:rn ρ v=some v') (x y:Operand) :
    (do eqGuard .eql t x y u' v'; binOp .eql t u' v':Sem Value).run P w=.ok (.bool b) w/\(do eqGuard .neq t x y u' v'; binOp .neq t u' v':Sem Value).run P w=.ok (.bool !b) w:=by
  have hd:∀ n,aQs P t=n->(n=1->∃ e,P.underlying t=some (.pointer e))/\(n=2->∃ e,P.underlying t=some (.slice e))/\(n=3->∃ a c d,P.underlying t=some (.func a c d)):=by
    rintro n rfl;unfold aQs
    split <;> simp_all
  obtain ⟨d1,d2,d3⟩:=hd k hk
  have bb:∀ (n m:Nat) (c:Bool),(bif n.beq m then some c else none)=some b->n=m/\c=b:=fun n m c e=>by
    rw [aRn] at e
    by_cases hnm:n=m
    · simp [hnm] at e; exact ⟨hnm,e⟩
    · simp [hnm] at e
  unfold aQw at h
  split at h
  · obtain ⟨rfl,rfl⟩:=bb _ _ _ h
    obtain ⟨e,he⟩:=d1 rfl
    rename_i q
    cases hu
    cases q with
    | none=>cases hv; simp [eqGuard,binOp,Op.equal,Op.maxDepth,aMq 9999 he]
    | some a =>
      obtain ⟨i,o,sp⟩:=a
      cases sp with
      | some s=>simp [rn,rnA] at hv
      | none =>
        obtain ⟨b',s',e',_,rfl⟩:=pU hv
        simp [eqGuard,binOp,Op.equal,Op.maxDepth,aMq 9999 he]
  · obtain ⟨rfl,rfl⟩:=bb _ _ _ h
    obtain ⟨e,he⟩:=d1 rfl
    rename_i a
    cases hv
    obtain ⟨i,o,sp⟩:=a
    cases sp with
    | some s=>simp [rn,rnA] at hu
    | none =>
      obtain ⟨b',s',e',_,rfl⟩:=pU hu
      simp [eqGuard,binOp,Op.equal,Op.maxDepth,aUa 9999 he]
  · obtain ⟨rfl,rfl⟩:=bb _ _ _ h
    obtain ⟨e,he⟩:=d2 rfl
    rename_i q n c
    cases hu
    cases q with
    | none=>cases hv; simp [eqGuard,binOp,Op.equal,Op.maxDepth,aRr 9999 he]
    | some a =>
      obtain ⟨i,o,sp⟩:=a
      cases sp with
      | some s=>simp [rn] at hv
      | none =>
        obtain ⟨b',s',e',_,hv⟩:=nX hv
        obtain ⟨_,_,_,rfl⟩:=mR hv
        simp [eqGuard,binOp,Op.equal,Op.maxDepth,aRr 9999 he]
  · obtain ⟨rfl,rfl⟩:=bb _ _ _ h
    obtain ⟨e,he⟩:=d2 rfl
    rename_i a _ _ _ _
    cases hv
    obtain ⟨i,o,sp⟩:=a
    cases sp with
    | some s=>simp [rn] at hu
    | none =>
      obtain ⟨b',s',e',_,hu⟩:=nX hu
      obtain ⟨_,_,_,rfl⟩:=mR hu
      simp [eqGuard,binOp,Op.equal,Op.maxDepth,aWk 9999 he]
  · obtain ⟨rfl,rfl⟩:=bb _ _ _ h
    obtain ⟨a,c,d,he⟩:=d3 rfl
    cases hu; cases hv
    simp [eqGuard,binOp,Op.equal,Op.maxDepth,aWl 9999 he]
  · obtain ⟨rfl,rfl⟩:=bb _ _ _ h
    obtain ⟨a,c,d,he⟩:=d3 rfl
    cases hu
    obtain ⟨f',xs',cs',rfl⟩:∃ f' xs' cs',v'=.func f' xs' cs':=by
      simp only [rn] at hv; split at hv
      · cases hv; exact ⟨_,_,_,rfl⟩
      · cases hv
    simp [eqGuard,binOp,Op.equal,Op.maxDepth,aWm 9999 he]
  · obtain ⟨rfl,rfl⟩:=bb _ _ _ h
    obtain ⟨a,c,d,he⟩:=d3 rfl
    cases hv
    obtain ⟨f',xs',cs',rfl⟩:∃ f' xs' cs',u'=.func f' xs' cs':=by
      simp only [rn] at hu; split at hu
      · cases hu; exact ⟨_,_,_,rfl⟩
      · cases hu
    simp [eqGuard,binOp,Op.equal,Op.maxDepth,aWn 9999 he]
  · cases h
end
end
end Go.Ev
