/- Texts of this proof, one after the other; no conditions. -/
import Derived.Test.YtnijkofdlepfjaaGreatWA
import Derived.Test.YtnijkofdlepfjaaGreatProg
import Derived.Test.YtnijkofdlepfjaaGreatWB2
import Derived.Test.YtnijkofdlepfjaaGreatWB1
set_option linter.all false
namespace Go.Eng
section
variable {C:Cx} {D:List Deferred} {R H Hf:List PH} {L:Env} {K:List It} {ps ls:List Nat}
variable {all:Array Oper} {o:Oper} {d i:Nat} {v:Value} {done:List Nat}
structure GWz (C:Cx) (L:Env) (all:Array Oper) (o:Oper) (d:Nat):Prop where
  a:gT all L o=some true
  b:o.dst=some d
  c:Nat.blt d C.M=true
theorem fQ {R0 R:List PH} (h:∀ ρ∈R0,ρ∈R:=by (repeat (first|exact aWc|(refine aT1 ?_ ?_; (focus ((repeat (first|exact .here|apply Mem.there|apply gU.there)); first|done|fail)))|exact fun ρ hρ=>hρ|(intro ρ hρ; repeat (first|exact hρ|refine bS _ ?_)))); first|done|fail):∀ ρ∈R0,ρ∈R:=h
theorem envZ {k:Nat} {vs cap:List Value} {L:Env} (h:oP k vs cap L:=by (repeat (first|exact oP.nil tP.nil|apply oP.cons|apply oP.nil|exact tP.nil|apply tP.cons)); first|done|fail):oP k vs cap L:=h
theorem fU {H T H':List PH} (h:gA H T H':=by (repeat (first|exact gA.nil|(apply gA.cons; exact (by (repeat (first|exact .here|apply gU.there)); first|done|fail)))); first|done|fail):gA H T H':=h
theorem aBm {ps:List Nat} {vs:List Value} {L L':Env} (h:zI ps vs L L':=by (repeat (first|exact zI.nil|apply zI.cons)); first|done|fail):zI ps vs L L':=h
theorem iF {vs:List Value} {p:Value->Prop} (h:∀ v∈vs,p v:=by (repeat (first|exact (fun v hv=>absurd hv bD)|(refine eS.2 ⟨?_,?_⟩; (focus (first|exact rfl|assumption))))); first|done|fail):∀ v∈vs,p v:=h
theorem fK {H H':List PH} (h:Sel H H':=by (repeat (first|exact Sel.nil|(apply Sel.cons; (focus ((repeat (first|exact .here|apply Mem.there|apply gU.there)); first|done|fail))))); first|done|fail):Sel H H':=h
theorem fP {L L':Env} (h:nG L L':=by (repeat (first|exact trivial|refine And.intro rfl ?_)); first|done|fail):nG L L':=h
theorem fT {L L':Env} {ks:List Nat} (h:wP L ks L':=by (repeat (first|exact wP.nil|apply wP.cons rfl)); first|done|fail):wP L ks L':=h
theorem rdZ {R1 R H:List PH} (h:jK R1 R H:=by (repeat (first|exact jK.nil|(refine jK.consR ?_ ?_; (focus ((repeat (first|exact .here|apply Mem.there|apply gU.there)); first|done|fail)))|(refine jK.consH ?_ ?_; (focus ((repeat (first|exact .here|apply Mem.there|apply gU.there)); first|done|fail)))|exact (fun τ hτ=>.inl (by simp [hτ])))); first|done|fail):jK R1 R H:=h
theorem gN {ρ:PH} {H:List PH} (h:Mem ρ H:=by (repeat (first|exact .here|apply Mem.there)); first|done|fail):Mem ρ H:=h
theorem fL {ρ:PH} {H H':List PH} (h:gU ρ H H':=by (repeat (first|exact .here|apply gU.there)); first|done|fail):gU ρ H H':=h
theorem AB {rest:List Oper} (h:JK C D R H ((d,v)::L) (.ops all rest::K)) (hq:fO C R H L o v:=by (apply D9; exact rfl)) (g:GWz C L all o d:=by exact ⟨rfl,rfl,rfl⟩):JK C D R H L (.ops all (o::rest)::K):=CN hq g.a g.b g.c h
theorem AP {rest:Pl} (h:DJ C D R Hf H ((d,v)::L) all (i::done) ps ls rest K) (ho:all[i]?=some o:=by exact rfl) (hq:fO C R H L o v:=by (apply D9; exact rfl)) (g:GWz C L all o d:=by exact ⟨rfl,rfl,rfl⟩) (hin:(ps.all (done.contains ·))=true:=by exact rfl):DJ C D R Hf H L all done ps ls (.q i rest) K:=CX ho hq g.a g.b g.c hin h
theorem CG {rest:Pl} (h:DJ C D R Hf H ((d,v)::L) all (i::done) (i::ps) ls rest K) (ho:all[i]?=some o:=by exact rfl) (hq:fO C R Hf L o v:=by (apply D9; exact rfl)) (g:GWz C L all o d:=by exact ⟨rfl,rfl,rfl⟩):DJ C D R Hf H L all done ps ls (.p i rest) K:=E6 ho hq g.a g.b g.c h
theorem AD {rest:List Oper} (h:JK C D R H ((d,v)::L) (.ops all rest::K)) (hq:fO C R H L o v:=by (apply CQ; exact rfl)) (g:GWz C L all o d:=by exact ⟨rfl,rfl,rfl⟩):JK C D R H L (.ops all (o::rest)::K):=CN hq g.a g.b g.c h
theorem BP {rest:Pl} (h:DJ C D R Hf H ((d,v)::L) all (i::done) ps ls rest K) (ho:all[i]?=some o:=by exact rfl) (hq:fO C R H L o v:=by (apply CQ; exact rfl)) (g:GWz C L all o d:=by exact ⟨rfl,rfl,rfl⟩) (hin:(ps.all (done.contains ·))=true:=by exact rfl):DJ C D R Hf H L all done ps ls (.q i rest) K:=CX ho hq g.a g.b g.c hin h
theorem F2 {rest:Pl} (h:DJ C D R Hf H ((d,v)::L) all (i::done) ps (i::ls) rest K) (ho:all[i]?=some o:=by exact rfl) (hq:fO C R H L o v:=by (apply CQ; exact rfl)) (g:GWz C L all o d:=by exact ⟨rfl,rfl,rfl⟩) (hf:Sel H Hf:=by (repeat (first|exact Sel.nil|(apply Sel.cons; (focus ((repeat (first|exact .here|apply Mem.there|apply gU.there)); first|done|fail))))); first|done|fail):DJ C D R Hf H L all done ps ls (.l i .b rest) K:=BZ (a_bq ho hq g.a g.b g.c hf h)
theorem AS {rest:List Oper} (h:JK C D R H ((d,v)::L) (.ops all rest::K)) (hq:fO C R H L o v:=by (apply C0; exact rfl; exact rfl)) (g:GWz C L all o d:=by exact ⟨rfl,rfl,rfl⟩):JK C D R H L (.ops all (o::rest)::K):=CN hq g.a g.b g.c h
theorem C6 {rest:Pl} (h:DJ C D R Hf H ((d,v)::L) all (i::done) ps ls rest K) (ho:all[i]?=some o:=by exact rfl) (hq:fO C R H L o v:=by (apply C0; exact rfl; exact rfl)) (g:GWz C L all o d:=by exact ⟨rfl,rfl,rfl⟩) (hin:(ps.all (done.contains ·))=true:=by exact rfl):DJ C D R Hf H L all done ps ls (.q i rest) K:=CX ho hq g.a g.b g.c hin h
theorem FT {rest:Pl} (h:DJ C D R Hf H ((d,v)::L) all (i::done) (i::ps) ls rest K) (ho:all[i]?=some o:=by exact rfl) (hq:fO C R Hf L o v:=by (apply C0; exact rfl; exact rfl)) (g:GWz C L all o d:=by exact ⟨rfl,rfl,rfl⟩):DJ C D R Hf H L all done ps ls (.p i rest) K:=E6 ho hq g.a g.b g.c h
theorem AF {rest:List Oper} (h:JK C D R H ((d,v)::L) (.ops all rest::K)) (hq:fO C R H L o v:=by (apply FV; exact rfl; exact rfl; (first|exact jV (by (repeat (first|exact .here|apply Mem.there)); first|done|fail) rfl|exact aP1 (by assumption) (by (repeat (first|exact .here|apply Mem.there)); first|done|fail)|exact aP2 (by assumption) (by (repeat (first|exact .here|apply Mem.there)); first|done|fail)|exact cell_ints (by (repeat (first|exact .here|apply Mem.there)); first|done|fail) (by omega)|exact cell_bools (by assumption) (by (repeat (first|exact .here|apply Mem.there)); first|done|fail)|exact cell_intsR (by (repeat (first|exact .here|apply Mem.there)); first|done|fail) (by omega)|exact cell_boolsR (by assumption) (by (repeat (first|exact .here|apply Mem.there)); first|done|fail)))) (g:GWz C L all o d:=by exact ⟨rfl,rfl,rfl⟩):JK C D R H L (.ops all (o::rest)::K):=CN hq g.a g.b g.c h
theorem AN {rest:Pl} (h:DJ C D R Hf H ((d,v)::L) all (i::done) ps ls rest K) (ho:all[i]?=some o:=by exact rfl) (hq:fO C R H L o v:=by (apply FV; exact rfl; exact rfl; (first|exact jV (by (repeat (first|exact .here|apply Mem.there)); first|done|fail) rfl|exact aP1 (by assumption) (by (repeat (first|exact .here|apply Mem.there)); first|done|fail)|exact aP2 (by assumption) (by (repeat (first|exact .here|apply Mem.there)); first|done|fail)|exact cell_ints (by (repeat (first|exact .here|apply Mem.there)); first|done|fail) (by omega)|exact cell_bools (by assumption) (by (repeat (first|exact .here|apply Mem.there)); first|done|fail)|exact cell_intsR (by (repeat (first|exact .here|apply Mem.there)); first|done|fail) (by omega)|exact cell_boolsR (by assumption) (by (repeat (first|exact .here|apply Mem.there)); first|done|fail)))) (g:GWz C L all o d:=by exact ⟨rfl,rfl,rfl⟩) (hin:(ps.all (done.contains ·))=true:=by exact rfl):DJ C D R Hf H L all done ps ls (.q i rest) K:=CX ho hq g.a g.b g.c hin h
theorem EJ {rest:Pl} (h:DJ C D R Hf H ((d,v)::L) all (i::done) (i::ps) ls rest K) (ho:all[i]?=some o:=by exact rfl) (hq:fO C R Hf L o v:=by (apply FV; exact rfl; exact rfl; (first|exact jV (by (repeat (first|exact .here|apply Mem.there)); first|done|fail) rfl|exact aP1 (by assumption) (by (repeat (first|exact .here|apply Mem.there)); first|done|fail)|exact aP2 (by assumption) (by (repeat (first|exact .here|apply Mem.there)); first|done|fail)|exact cell_ints (by (repeat (first|exact .here|apply Mem.there)); first|done|fail) (by omega)|exact cell_bools (by assumption) (by (repeat (first|exact .here|apply Mem.there)); first|done|fail)|exact cell_intsR (by (repeat (first|exact .here|apply Mem.there)); first|done|fail) (by omega)|exact cell_boolsR (by assumption) (by (repeat (first|exact .here|apply Mem.there)); first|done|fail)))) (g:GWz C L all o d:=by exact ⟨rfl,rfl,rfl⟩):DJ C D R Hf H L all done ps ls (.p i rest) K:=E6 ho hq g.a g.b g.c h
theorem AG {rest:List Oper} (h:JK C D R H ((d,v)::L) (.ops all rest::K)) (hq:fO C R H L o v:=by (apply FW; exact rfl; exact rfl)) (g:GWz C L all o d:=by exact ⟨rfl,rfl,rfl⟩):JK C D R H L (.ops all (o::rest)::K):=CN hq g.a g.b g.c h
theorem AR {rest:Pl} (h:DJ C D R Hf H ((d,v)::L) all (i::done) ps ls rest K) (ho:all[i]?=some o:=by exact rfl) (hq:fO C R H L o v:=by (apply FW; exact rfl; exact rfl)) (g:GWz C L all o d:=by exact ⟨rfl,rfl,rfl⟩) (hin:(ps.all (done.contains ·))=true:=by exact rfl):DJ C D R Hf H L all done ps ls (.q i rest) K:=CX ho hq g.a g.b g.c hin h
theorem DW {rest:Pl} (h:DJ C D R Hf H ((d,v)::L) all (i::done) (i::ps) ls rest K) (ho:all[i]?=some o:=by exact rfl) (hq:fO C R Hf L o v:=by (apply FW; exact rfl; exact rfl)) (g:GWz C L all o d:=by exact ⟨rfl,rfl,rfl⟩):DJ C D R Hf H L all done ps ls (.p i rest) K:=E6 ho hq g.a g.b g.c h
theorem F3 {rest:List Oper} (h:JK C D R H ((d,v)::L) (.ops all rest::K)) (hq:fO C R H L o v:=by (apply GO; exact rfl; exact rfl)) (g:GWz C L all o d:=by exact ⟨rfl,rfl,rfl⟩):JK C D R H L (.ops all (o::rest)::K):=CN hq g.a g.b g.c h
theorem DN {rest:Pl} (h:DJ C D R Hf H ((d,v)::L) all (i::done) ps ls rest K) (ho:all[i]?=some o:=by exact rfl) (hq:fO C R H L o v:=by (apply GO; exact rfl; exact rfl)) (g:GWz C L all o d:=by exact ⟨rfl,rfl,rfl⟩) (hin:(ps.all (done.contains ·))=true:=by exact rfl):DJ C D R Hf H L all done ps ls (.q i rest) K:=CX ho hq g.a g.b g.c hin h
theorem DA {rest:List Oper} (h:JK C D R H ((d,v)::L) (.ops all rest::K)) (hq:fO C R H L o v:=by (apply GF; exact rfl; exact rfl)) (g:GWz C L all o d:=by exact ⟨rfl,rfl,rfl⟩):JK C D R H L (.ops all (o::rest)::K):=CN hq g.a g.b g.c h
theorem CH {rest:Pl} (h:DJ C D R Hf H ((d,v)::L) all (i::done) ps ls rest K) (ho:all[i]?=some o:=by exact rfl) (hq:fO C R H L o v:=by (apply GF; exact rfl; exact rfl)) (g:GWz C L all o d:=by exact ⟨rfl,rfl,rfl⟩) (hin:(ps.all (done.contains ·))=true:=by exact rfl):DJ C D R Hf H L all done ps ls (.q i rest) K:=CX ho hq g.a g.b g.c hin h
theorem CV {rest:List Oper} (h:JK C D R H ((d,v)::L) (.ops all rest::K)) (hq:fO C R H L o v:=by (apply GM; exact rfl; exact rfl; exact rfl; exact rfl; omega)) (g:GWz C L all o d:=by exact ⟨rfl,rfl,rfl⟩):JK C D R H L (.ops all (o::rest)::K):=CN hq g.a g.b g.c h
theorem DT {rest:Pl} (h:DJ C D R Hf H ((d,v)::L) all (i::done) ps ls rest K) (ho:all[i]?=some o:=by exact rfl) (hq:fO C R H L o v:=by (apply GM; exact rfl; exact rfl; exact rfl; exact rfl; omega)) (g:GWz C L all o d:=by exact ⟨rfl,rfl,rfl⟩) (hin:(ps.all (done.contains ·))=true:=by exact rfl):DJ C D R Hf H L all done ps ls (.q i rest) K:=CX ho hq g.a g.b g.c hin h
theorem BL {rest:List Oper} (h:JK C D R H ((d,v)::L) (.ops all rest::K)) (hq:fO C R H L o v:=by (apply GN; exact rfl; exact rfl; exact rfl; exact rfl; omega)) (g:GWz C L all o d:=by exact ⟨rfl,rfl,rfl⟩):JK C D R H L (.ops all (o::rest)::K):=CN hq g.a g.b g.c h
theorem BH {rest:Pl} (h:DJ C D R Hf H ((d,v)::L) all (i::done) ps ls rest K) (ho:all[i]?=some o:=by exact rfl) (hq:fO C R H L o v:=by (apply GN; exact rfl; exact rfl; exact rfl; exact rfl; omega)) (g:GWz C L all o d:=by exact ⟨rfl,rfl,rfl⟩) (hin:(ps.all (done.contains ·))=true:=by exact rfl):DJ C D R Hf H L all done ps ls (.q i rest) K:=CX ho hq g.a g.b g.c hin h
theorem AY {rest:List Oper} (h:JK C D R H ((d,v)::L) (.ops all rest::K)) (hq:fO C R H L o v:=by (apply FF; exact rfl; exact rfl)) (g:GWz C L all o d:=by exact ⟨rfl,rfl,rfl⟩):JK C D R H L (.ops all (o::rest)::K):=CN hq g.a g.b g.c h
theorem BU {rest:Pl} (h:DJ C D R Hf H ((d,v)::L) all (i::done) ps ls rest K) (ho:all[i]?=some o:=by exact rfl) (hq:fO C R H L o v:=by (apply FF; exact rfl; exact rfl)) (g:GWz C L all o d:=by exact ⟨rfl,rfl,rfl⟩) (hin:(ps.all (done.contains ·))=true:=by exact rfl):DJ C D R Hf H L all done ps ls (.q i rest) K:=CX ho hq g.a g.b g.c hin h
theorem AT {rest:List Oper} (h:JK C D R H ((d,v)::L) (.ops all rest::K)) (hq:fO C R H L o v:=by (apply FG; exact rfl; exact rfl)) (g:GWz C L all o d:=by exact ⟨rfl,rfl,rfl⟩):JK C D R H L (.ops all (o::rest)::K):=CN hq g.a g.b g.c h
theorem BS {rest:Pl} (h:DJ C D R Hf H ((d,v)::L) all (i::done) ps ls rest K) (ho:all[i]?=some o:=by exact rfl) (hq:fO C R H L o v:=by (apply FG; exact rfl; exact rfl)) (g:GWz C L all o d:=by exact ⟨rfl,rfl,rfl⟩) (hin:(ps.all (done.contains ·))=true:=by exact rfl):DJ C D R Hf H L all done ps ls (.q i rest) K:=CX ho hq g.a g.b g.c hin h
theorem A6 {rest:List Oper} (h:JK C D R H ((d,v)::L) (.ops all rest::K)) (hq:fO C R H L o v:=by (apply GW; exact rfl; exact rfl)) (g:GWz C L all o d:=by exact ⟨rfl,rfl,rfl⟩):JK C D R H L (.ops all (o::rest)::K):=CN hq g.a g.b g.c h
theorem EL {rest:Pl} (h:DJ C D R Hf H ((d,v)::L) all (i::done) ps ls rest K) (ho:all[i]?=some o:=by exact rfl) (hq:fO C R H L o v:=by (apply GW; exact rfl; exact rfl)) (g:GWz C L all o d:=by exact ⟨rfl,rfl,rfl⟩) (hin:(ps.all (done.contains ·))=true:=by exact rfl):DJ C D R Hf H L all done ps ls (.q i rest) K:=CX ho hq g.a g.b g.c hin h
theorem BX {rest:List Oper} (h:JK C D R H ((d,v)::L) (.ops all rest::K)) (hq:fO C R H L o v:=by (apply aVm; exact rfl)) (g:GWz C L all o d:=by exact ⟨rfl,rfl,rfl⟩):JK C D R H L (.ops all (o::rest)::K):=CN hq g.a g.b g.c h
theorem CZ {rest:Pl} (h:DJ C D R Hf H ((d,v)::L) all (i::done) ps ls rest K) (ho:all[i]?=some o:=by exact rfl) (hq:fO C R H L o v:=by (apply aVm; exact rfl)) (g:GWz C L all o d:=by exact ⟨rfl,rfl,rfl⟩) (hin:(ps.all (done.contains ·))=true:=by exact rfl):DJ C D R Hf H L all done ps ls (.q i rest) K:=CX ho hq g.a g.b g.c hin h
theorem BO {rest:List Oper} (h:JK C D R H ((d,v)::L) (.ops all rest::K)) (hq:fO C R H L o v:=by (apply D5; exact rfl)) (g:GWz C L all o d:=by exact ⟨rfl,rfl,rfl⟩):JK C D R H L (.ops all (o::rest)::K):=CN hq g.a g.b g.c h
theorem A4 {rest:Pl} (h:DJ C D R Hf H ((d,v)::L) all (i::done) ps ls rest K) (ho:all[i]?=some o:=by exact rfl) (hq:fO C R H L o v:=by (apply D5; exact rfl)) (g:GWz C L all o d:=by exact ⟨rfl,rfl,rfl⟩) (hin:(ps.all (done.contains ·))=true:=by exact rfl):DJ C D R Hf H L all done ps ls (.q i rest) K:=CX ho hq g.a g.b g.c hin h
theorem EM {rest:Pl} (h:DJ C D R Hf H ((d,v)::L) all (i::done) (i::ps) ls rest K) (ho:all[i]?=some o:=by exact rfl) (hq:fO C R Hf L o v:=by (apply D5; exact rfl)) (g:GWz C L all o d:=by exact ⟨rfl,rfl,rfl⟩):DJ C D R Hf H L all done ps ls (.p i rest) K:=E6 ho hq g.a g.b g.c h
theorem BI {rest:List Oper} (h:JK C D R H ((d,v)::L) (.ops all rest::K)) (hq:fO C R H L o v:=by (apply GV; exact rfl; exact rfl; omega)) (g:GWz C L all o d:=by exact ⟨rfl,rfl,rfl⟩):JK C D R H L (.ops all (o::rest)::K):=CN hq g.a g.b g.c h
theorem FJ {rest:Pl} (h:DJ C D R Hf H ((d,v)::L) all (i::done) ps ls rest K) (ho:all[i]?=some o:=by exact rfl) (hq:fO C R H L o v:=by (apply GV; exact rfl; exact rfl; omega)) (g:GWz C L all o d:=by exact ⟨rfl,rfl,rfl⟩) (hin:(ps.all (done.contains ·))=true:=by exact rfl):DJ C D R Hf H L all done ps ls (.q i rest) K:=CX ho hq g.a g.b g.c hin h
theorem GQ {rest:Pl} (h:DJ C D R Hf H ((d,v)::L) all (i::done) (i::ps) ls rest K) (ho:all[i]?=some o:=by exact rfl) (hq:fO C R Hf L o v:=by (apply GV; exact rfl; exact rfl; omega)) (g:GWz C L all o d:=by exact ⟨rfl,rfl,rfl⟩):DJ C D R Hf H L all done ps ls (.p i rest) K:=E6 ho hq g.a g.b g.c h
theorem BM {rest:List Oper} (h:JK C D R H ((d,v)::L) (.ops all rest::K)) (hq:fO C R H L o v:=by (apply q_lt; exact rfl; exact rfl; omega)) (g:GWz C L all o d:=by exact ⟨rfl,rfl,rfl⟩):JK C D R H L (.ops all (o::rest)::K):=CN hq g.a g.b g.c h
theorem D8 {rest:Pl} (h:DJ C D R Hf H ((d,v)::L) all (i::done) ps ls rest K) (ho:all[i]?=some o:=by exact rfl) (hq:fO C R H L o v:=by (apply q_lt; exact rfl; exact rfl; omega)) (g:GWz C L all o d:=by exact ⟨rfl,rfl,rfl⟩) (hin:(ps.all (done.contains ·))=true:=by exact rfl):DJ C D R Hf H L all done ps ls (.q i rest) K:=CX ho hq g.a g.b g.c hin h
theorem BD {rest:List Oper} (h:JK C D R H ((d,v)::L) (.ops all rest::K)) (hq:fO C R H L o v:=by (apply aVg; exact rfl; exact rfl; omega)) (g:GWz C L all o d:=by exact ⟨rfl,rfl,rfl⟩):JK C D R H L (.ops all (o::rest)::K):=CN hq g.a g.b g.c h
theorem C4 {rest:Pl} (h:DJ C D R Hf H ((d,v)::L) all (i::done) ps ls rest K) (ho:all[i]?=some o:=by exact rfl) (hq:fO C R H L o v:=by (apply aVg; exact rfl; exact rfl; omega)) (g:GWz C L all o d:=by exact ⟨rfl,rfl,rfl⟩) (hin:(ps.all (done.contains ·))=true:=by exact rfl):DJ C D R Hf H L all done ps ls (.q i rest) K:=CX ho hq g.a g.b g.c hin h
theorem CJ {rest:List Oper} (h:JK C D R H ((d,v)::L) (.ops all rest::K)) (hq:fO C R H L o v:=by (apply q_eq; exact rfl; exact rfl; omega)) (g:GWz C L all o d:=by exact ⟨rfl,rfl,rfl⟩):JK C D R H L (.ops all (o::rest)::K):=CN hq g.a g.b g.c h
theorem F4 {rest:Pl} (h:DJ C D R Hf H ((d,v)::L) all (i::done) ps ls rest K) (ho:all[i]?=some o:=by exact rfl) (hq:fO C R H L o v:=by (apply q_eq; exact rfl; exact rfl; omega)) (g:GWz C L all o d:=by exact ⟨rfl,rfl,rfl⟩) (hin:(ps.all (done.contains ·))=true:=by exact rfl):DJ C D R Hf H L all done ps ls (.q i rest) K:=CX ho hq g.a g.b g.c hin h
theorem B3 {rest:List Oper} (h:JK C D R H ((d,v)::L) (.ops all rest::K)) (hq:fO C R H L o v:=by (apply aVk; exact rfl; exact rfl; omega)) (g:GWz C L all o d:=by exact ⟨rfl,rfl,rfl⟩):JK C D R H L (.ops all (o::rest)::K):=CN hq g.a g.b g.c h
theorem F5 {rest:Pl} (h:DJ C D R Hf H ((d,v)::L) all (i::done) ps ls rest K) (ho:all[i]?=some o:=by exact rfl) (hq:fO C R H L o v:=by (apply aVk; exact rfl; exact rfl; omega)) (g:GWz C L all o d:=by exact ⟨rfl,rfl,rfl⟩) (hin:(ps.all (done.contains ·))=true:=by exact rfl):DJ C D R Hf H L all done ps ls (.q i rest) K:=CX ho hq g.a g.b g.c hin h
theorem C5 {rest:List Oper} (h:JK C D R H ((d,v)::L) (.ops all rest::K)) (hq:fO C R H L o v:=by (apply q_ne; exact rfl; exact rfl; omega)) (g:GWz C L all o d:=by exact ⟨rfl,rfl,rfl⟩):JK C D R H L (.ops all (o::rest)::K):=CN hq g.a g.b g.c h
theorem GI {rest:Pl} (h:DJ C D R Hf H ((d,v)::L) all (i::done) ps ls rest K) (ho:all[i]?=some o:=by exact rfl) (hq:fO C R H L o v:=by (apply q_ne; exact rfl; exact rfl; omega)) (g:GWz C L all o d:=by exact ⟨rfl,rfl,rfl⟩) (hin:(ps.all (done.contains ·))=true:=by exact rfl):DJ C D R Hf H L all done ps ls (.q i rest) K:=CX ho hq g.a g.b g.c hin h
theorem BN {rest:List Oper} (h:JK C D R H ((d,v)::L) (.ops all rest::K)) (hq:fO C R H L o v:=by (apply aVl; exact rfl; exact rfl; omega)) (g:GWz C L all o d:=by exact ⟨rfl,rfl,rfl⟩):JK C D R H L (.ops all (o::rest)::K):=CN hq g.a g.b g.c h
theorem FL {rest:Pl} (h:DJ C D R Hf H ((d,v)::L) all (i::done) ps ls rest K) (ho:all[i]?=some o:=by exact rfl) (hq:fO C R H L o v:=by (apply aVl; exact rfl; exact rfl; omega)) (g:GWz C L all o d:=by exact ⟨rfl,rfl,rfl⟩) (hin:(ps.all (done.contains ·))=true:=by exact rfl):DJ C D R Hf H L all done ps ls (.q i rest) K:=CX ho hq g.a g.b g.c hin h
theorem C1 {rest:List Oper} (h:JK C D R H ((d,v)::L) (.ops all rest::K)) (hq:fO C R H L o v:=by (apply q_gt; exact rfl; exact rfl; omega)) (g:GWz C L all o d:=by exact ⟨rfl,rfl,rfl⟩):JK C D R H L (.ops all (o::rest)::K):=CN hq g.a g.b g.c h
theorem FE {rest:Pl} (h:DJ C D R Hf H ((d,v)::L) all (i::done) ps ls rest K) (ho:all[i]?=some o:=by exact rfl) (hq:fO C R H L o v:=by (apply q_gt; exact rfl; exact rfl; omega)) (g:GWz C L all o d:=by exact ⟨rfl,rfl,rfl⟩) (hin:(ps.all (done.contains ·))=true:=by exact rfl):DJ C D R Hf H L all done ps ls (.q i rest) K:=CX ho hq g.a g.b g.c hin h
theorem B7 {rest:List Oper} (h:JK C D R H ((d,v)::L) (.ops all rest::K)) (hq:fO C R H L o v:=by (apply aVi; exact rfl; exact rfl; omega)) (g:GWz C L all o d:=by exact ⟨rfl,rfl,rfl⟩):JK C D R H L (.ops all (o::rest)::K):=CN hq g.a g.b g.c h
theorem DO {rest:Pl} (h:DJ C D R Hf H ((d,v)::L) all (i::done) ps ls rest K) (ho:all[i]?=some o:=by exact rfl) (hq:fO C R H L o v:=by (apply aVi; exact rfl; exact rfl; omega)) (g:GWz C L all o d:=by exact ⟨rfl,rfl,rfl⟩) (hin:(ps.all (done.contains ·))=true:=by exact rfl):DJ C D R Hf H L all done ps ls (.q i rest) K:=CX ho hq g.a g.b g.c hin h
theorem EA {rest:List Oper} (h:JK C D R H ((d,v)::L) (.ops all rest::K)) (hq:fO C R H L o v:=by (apply q_le; exact rfl; exact rfl; omega)) (g:GWz C L all o d:=by exact ⟨rfl,rfl,rfl⟩):JK C D R H L (.ops all (o::rest)::K):=CN hq g.a g.b g.c h
theorem G1 {rest:Pl} (h:DJ C D R Hf H ((d,v)::L) all (i::done) ps ls rest K) (ho:all[i]?=some o:=by exact rfl) (hq:fO C R H L o v:=by (apply q_le; exact rfl; exact rfl; omega)) (g:GWz C L all o d:=by exact ⟨rfl,rfl,rfl⟩) (hin:(ps.all (done.contains ·))=true:=by exact rfl):DJ C D R Hf H L all done ps ls (.q i rest) K:=CX ho hq g.a g.b g.c hin h
theorem DC {rest:List Oper} (h:JK C D R H ((d,v)::L) (.ops all rest::K)) (hq:fO C R H L o v:=by (apply aVh; exact rfl; exact rfl; omega)) (g:GWz C L all o d:=by exact ⟨rfl,rfl,rfl⟩):JK C D R H L (.ops all (o::rest)::K):=CN hq g.a g.b g.c h
theorem aW2 {rest:Pl} (h:DJ C D R Hf H ((d,v)::L) all (i::done) ps ls rest K) (ho:all[i]?=some o:=by exact rfl) (hq:fO C R H L o v:=by (apply aVh; exact rfl; exact rfl; omega)) (g:GWz C L all o d:=by exact ⟨rfl,rfl,rfl⟩) (hin:(ps.all (done.contains ·))=true:=by exact rfl):DJ C D R Hf H L all done ps ls (.q i rest) K:=CX ho hq g.a g.b g.c hin h
theorem DQ {rest:List Oper} (h:JK C D R H ((d,v)::L) (.ops all rest::K)) (hq:fO C R H L o v:=by (apply q_ge; exact rfl; exact rfl; omega)) (g:GWz C L all o d:=by exact ⟨rfl,rfl,rfl⟩):JK C D R H L (.ops all (o::rest)::K):=CN hq g.a g.b g.c h
theorem G2 {rest:Pl} (h:DJ C D R Hf H ((d,v)::L) all (i::done) ps ls rest K) (ho:all[i]?=some o:=by exact rfl) (hq:fO C R H L o v:=by (apply q_ge; exact rfl; exact rfl; omega)) (g:GWz C L all o d:=by exact ⟨rfl,rfl,rfl⟩) (hin:(ps.all (done.contains ·))=true:=by exact rfl):DJ C D R Hf H L all done ps ls (.q i rest) K:=CX ho hq g.a g.b g.c hin h
theorem CP {rest:List Oper} (h:JK C D R H ((d,v)::L) (.ops all rest::K)) (hq:fO C R H L o v:=by (apply aVj; exact rfl; exact rfl; omega)) (g:GWz C L all o d:=by exact ⟨rfl,rfl,rfl⟩):JK C D R H L (.ops all (o::rest)::K):=CN hq g.a g.b g.c h
theorem FM {rest:Pl} (h:DJ C D R Hf H ((d,v)::L) all (i::done) ps ls rest K) (ho:all[i]?=some o:=by exact rfl) (hq:fO C R H L o v:=by (apply aVj; exact rfl; exact rfl; omega)) (g:GWz C L all o d:=by exact ⟨rfl,rfl,rfl⟩) (hin:(ps.all (done.contains ·))=true:=by exact rfl):DJ C D R Hf H L all done ps ls (.q i rest) K:=CX ho hq g.a g.b g.c hin h
theorem B6 {rest:List Oper} (h:JK C D R H ((d,v)::L) (.ops all rest::K)) (hq:fO C R H L o v:=by (apply EH; exact rfl; exact rfl; omega; omega)) (g:GWz C L all o d:=by exact ⟨rfl,rfl,rfl⟩):JK C D R H L (.ops all (o::rest)::K):=CN hq g.a g.b g.c h
theorem CE {rest:Pl} (h:DJ C D R Hf H ((d,v)::L) all (i::done) ps ls rest K) (ho:all[i]?=some o:=by exact rfl) (hq:fO C R H L o v:=by (apply EH; exact rfl; exact rfl; omega; omega)) (g:GWz C L all o d:=by exact ⟨rfl,rfl,rfl⟩) (hin:(ps.all (done.contains ·))=true:=by exact rfl):DJ C D R Hf H L all done ps ls (.q i rest) K:=CX ho hq g.a g.b g.c hin h
theorem DV {rest:Pl} (h:DJ C D R Hf H ((d,v)::L) all (i::done) (i::ps) ls rest K) (ho:all[i]?=some o:=by exact rfl) (hq:fO C R Hf L o v:=by (apply EH; exact rfl; exact rfl; omega; omega)) (g:GWz C L all o d:=by exact ⟨rfl,rfl,rfl⟩):DJ C D R Hf H L all done ps ls (.p i rest) K:=E6 ho hq g.a g.b g.c h
theorem CF {rest:List Oper} (h:JK C D R H ((d,v)::L) (.ops all rest::K)) (hq:fO C R H L o v:=by (apply GE; exact rfl; exact rfl; exact ⟨by omega,by omega⟩)) (g:GWz C L all o d:=by exact ⟨rfl,rfl,rfl⟩):JK C D R H L (.ops all (o::rest)::K):=CN hq g.a g.b g.c h
theorem DP {rest:Pl} (h:DJ C D R Hf H ((d,v)::L) all (i::done) ps ls rest K) (ho:all[i]?=some o:=by exact rfl) (hq:fO C R H L o v:=by (apply GE; exact rfl; exact rfl; exact ⟨by omega,by omega⟩)) (g:GWz C L all o d:=by exact ⟨rfl,rfl,rfl⟩) (hin:(ps.all (done.contains ·))=true:=by exact rfl):DJ C D R Hf H L all done ps ls (.q i rest) K:=CX ho hq g.a g.b g.c hin h
theorem GR {rest:Pl} (h:DJ C D R Hf H ((d,v)::L) all (i::done) (i::ps) ls rest K) (ho:all[i]?=some o:=by exact rfl) (hq:fO C R Hf L o v:=by (apply GE; exact rfl; exact rfl; exact ⟨by omega,by omega⟩)) (g:GWz C L all o d:=by exact ⟨rfl,rfl,rfl⟩):DJ C D R Hf H L all done ps ls (.p i rest) K:=E6 ho hq g.a g.b g.c h
theorem CC {rest:List Oper} (h:JK C D R H ((d,v)::L) (.ops all rest::K)) (hq:fO C R H L o v:=by (apply GT; exact rfl; exact rfl; exact ⟨by omega,by omega⟩)) (g:GWz C L all o d:=by exact ⟨rfl,rfl,rfl⟩):JK C D R H L (.ops all (o::rest)::K):=CN hq g.a g.b g.c h
theorem ES {rest:Pl} (h:DJ C D R Hf H ((d,v)::L) all (i::done) ps ls rest K) (ho:all[i]?=some o:=by exact rfl) (hq:fO C R H L o v:=by (apply GT; exact rfl; exact rfl; exact ⟨by omega,by omega⟩)) (g:GWz C L all o d:=by exact ⟨rfl,rfl,rfl⟩) (hin:(ps.all (done.contains ·))=true:=by exact rfl):DJ C D R Hf H L all done ps ls (.q i rest) K:=CX ho hq g.a g.b g.c hin h
theorem FN {rest:List Oper} (h:JK C D R H ((d,v)::L) (.ops all rest::K)) (hq:fO C R H L o v:=by (apply q_dbl; exact rfl; exact rfl; omega)) (g:GWz C L all o d:=by exact ⟨rfl,rfl,rfl⟩):JK C D R H L (.ops all (o::rest)::K):=CN hq g.a g.b g.c h
theorem EY {rest:List Oper} (h:JK C D R H ((d,v)::L) (.ops all rest::K)) (hq:fO C R H L o v:=by (apply GU; exact rfl; exact rfl; exact ⟨by omega,by omega⟩)) (g:GWz C L all o d:=by exact ⟨rfl,rfl,rfl⟩):JK C D R H L (.ops all (o::rest)::K):=CN hq g.a g.b g.c h
theorem FO {rest:Pl} (h:DJ C D R Hf H ((d,v)::L) all (i::done) ps ls rest K) (ho:all[i]?=some o:=by exact rfl) (hq:fO C R H L o v:=by (apply GU; exact rfl; exact rfl; exact ⟨by omega,by omega⟩)) (g:GWz C L all o d:=by exact ⟨rfl,rfl,rfl⟩) (hin:(ps.all (done.contains ·))=true:=by exact rfl):DJ C D R Hf H L all done ps ls (.q i rest) K:=CX ho hq g.a g.b g.c hin h
theorem aW3 {rest:List Oper} (h:JK C D R H ((d,v)::L) (.ops all rest::K)) (hq:fO C R H L o v:=by (apply q_quo; exact rfl; exact rfl; omega; omega; omega)) (g:GWz C L all o d:=by exact ⟨rfl,rfl,rfl⟩):JK C D R H L (.ops all (o::rest)::K):=CN hq g.a g.b g.c h
theorem AI {rest:List Oper} (h:JK C D R H ((d,v)::L) (.ops all rest::K)) (hq:fO C R H L o v:=by (apply EU; exact rfl; exact rfl; (first|(exact fR (by (repeat (first|exact .here|apply Mem.there)); first|done|fail); exact rfl)|(exact tQ (by assumption) (by (repeat (first|exact .here|apply Mem.there)); first|done|fail); exact rfl)|(exact aAl (by assumption) (by (repeat (first|exact .here|apply Mem.there)); first|done|fail); exact rfl)|(exact aLh (by assumption) (by (repeat (first|exact .here|apply Mem.there)); first|done|fail); exact rfl)))) (g:GWz C L all o d:=by exact ⟨rfl,rfl,rfl⟩):JK C D R H L (.ops all (o::rest)::K):=CN hq g.a g.b g.c h
theorem A7 {rest:Pl} (h:DJ C D R Hf H ((d,v)::L) all (i::done) ps ls rest K) (ho:all[i]?=some o:=by exact rfl) (hq:fO C R H L o v:=by (apply EU; exact rfl; exact rfl; (first|(exact fR (by (repeat (first|exact .here|apply Mem.there)); first|done|fail); exact rfl)|(exact tQ (by assumption) (by (repeat (first|exact .here|apply Mem.there)); first|done|fail); exact rfl)|(exact aAl (by assumption) (by (repeat (first|exact .here|apply Mem.there)); first|done|fail); exact rfl)|(exact aLh (by assumption) (by (repeat (first|exact .here|apply Mem.there)); first|done|fail); exact rfl)))) (g:GWz C L all o d:=by exact ⟨rfl,rfl,rfl⟩) (hin:(ps.all (done.contains ·))=true:=by exact rfl):DJ C D R Hf H L all done ps ls (.q i rest) K:=CX ho hq g.a g.b g.c hin h
theorem EV {rest:Pl} (h:DJ C D R Hf H ((d,v)::L) all (i::done) (i::ps) ls rest K) (ho:all[i]?=some o:=by exact rfl) (hq:fO C R Hf L o v:=by (apply EU; exact rfl; exact rfl; (first|(exact fR (by (repeat (first|exact .here|apply Mem.there)); first|done|fail); exact rfl)|(exact tQ (by assumption) (by (repeat (first|exact .here|apply Mem.there)); first|done|fail); exact rfl)|(exact aAl (by assumption) (by (repeat (first|exact .here|apply Mem.there)); first|done|fail); exact rfl)|(exact aLh (by assumption) (by (repeat (first|exact .here|apply Mem.there)); first|done|fail); exact rfl)))) (g:GWz C L all o d:=by exact ⟨rfl,rfl,rfl⟩):DJ C D R Hf H L all done ps ls (.p i rest) K:=E6 ho hq g.a g.b g.c h
theorem GS {rest:List Oper} (h:JK C D R H ((d,v)::L) (.ops all rest::K)) (hq:fO C R H L o v:=by (apply q_min; exact rfl; exact rfl)) (g:GWz C L all o d:=by exact ⟨rfl,rfl,rfl⟩):JK C D R H L (.ops all (o::rest)::K):=CN hq g.a g.b g.c h
theorem EN {rest:List Oper} (h:JK C D R H ((d,v)::L) (.ops all rest::K)) (hq:fO C R H L o v:=by (apply aVn; exact rfl; exact rfl)) (g:GWz C L all o d:=by exact ⟨rfl,rfl,rfl⟩):JK C D R H L (.ops all (o::rest)::K):=CN hq g.a g.b g.c h
theorem F6 {rest:Pl} (h:DJ C D R Hf H ((d,v)::L) all (i::done) ps ls rest K) (ho:all[i]?=some o:=by exact rfl) (hq:fO C R H L o v:=by (apply aVn; exact rfl; exact rfl)) (g:GWz C L all o d:=by exact ⟨rfl,rfl,rfl⟩) (hin:(ps.all (done.contains ·))=true:=by exact rfl):DJ C D R Hf H L all done ps ls (.q i rest) K:=CX ho hq g.a g.b g.c hin h
theorem BR {rest:List Oper} (h:JK C D R H ((d,v)::L) (.ops all rest::K)) (hq:fO C R H L o v:=by (apply EQ; exact rfl; exact rfl)) (g:GWz C L all o d:=by exact ⟨rfl,rfl,rfl⟩):JK C D R H L (.ops all (o::rest)::K):=CN hq g.a g.b g.c h
theorem DX {rest:Pl} (h:DJ C D R Hf H ((d,v)::L) all (i::done) ps ls rest K) (ho:all[i]?=some o:=by exact rfl) (hq:fO C R H L o v:=by (apply EQ; exact rfl; exact rfl)) (g:GWz C L all o d:=by exact ⟨rfl,rfl,rfl⟩) (hin:(ps.all (done.contains ·))=true:=by exact rfl):DJ C D R Hf H L all done ps ls (.q i rest) K:=CX ho hq g.a g.b g.c hin h
theorem EO {rest:List Oper} (h:JK C D R H ((d,v)::L) (.ops all rest::K)) (hq:fO C R H L o v:=by (apply GH; exact rfl; exact rfl; exact rfl)) (g:GWz C L all o d:=by exact ⟨rfl,rfl,rfl⟩):JK C D R H L (.ops all (o::rest)::K):=CN hq g.a g.b g.c h
theorem DD {rest:List Oper} (h:JK C D R H ((d,v)::L) (.ops all rest::K)) (hq:fO C R H L o v:=by (apply GZ; exact rfl; exact rfl; exact rfl; exact ⟨by omega,by omega⟩)) (g:GWz C L all o d:=by exact ⟨rfl,rfl,rfl⟩):JK C D R H L (.ops all (o::rest)::K):=CN hq g.a g.b g.c h
theorem F7 {rest:List Oper} (h:JK C D R H ((d,v)::L) (.ops all rest::K)) (hq:fO C R H L o v:=by (apply q_cap; exact rfl; exact rfl)) (g:GWz C L all o d:=by exact ⟨rfl,rfl,rfl⟩):JK C D R H L (.ops all (o::rest)::K):=CN hq g.a g.b g.c h
theorem EF {rest:List Oper} (h:JK C D R H ((d,v)::L) (.ops all rest::K)) (hq:fO C R H L o v:=by (apply FB; exact rfl; exact rfl; exact rfl; exact rfl; omega)) (g:GWz C L all o d:=by exact ⟨rfl,rfl,rfl⟩):JK C D R H L (.ops all (o::rest)::K):=CN hq g.a g.b g.c h
theorem EG {rest:Pl} (h:DJ C D R Hf H ((d,v)::L) all (i::done) ps ls rest K) (ho:all[i]?=some o:=by exact rfl) (hq:fO C R H L o v:=by (apply FB; exact rfl; exact rfl; exact rfl; exact rfl; omega)) (g:GWz C L all o d:=by exact ⟨rfl,rfl,rfl⟩) (hin:(ps.all (done.contains ·))=true:=by exact rfl):DJ C D R Hf H L all done ps ls (.q i rest) K:=CX ho hq g.a g.b g.c hin h
theorem FP {rest:List Oper} (h:JK C D R H ((d,v)::L) (.ops all rest::K)) (hq:fO C R H L o v:=by (apply FC; exact rfl; exact rfl; exact rfl; exact rfl; omega)) (g:GWz C L all o d:=by exact ⟨rfl,rfl,rfl⟩):JK C D R H L (.ops all (o::rest)::K):=CN hq g.a g.b g.c h
theorem GJ {rest:Pl} (h:DJ C D R Hf H ((d,v)::L) all (i::done) ps ls rest K) (ho:all[i]?=some o:=by exact rfl) (hq:fO C R H L o v:=by (apply FC; exact rfl; exact rfl; exact rfl; exact rfl; omega)) (g:GWz C L all o d:=by exact ⟨rfl,rfl,rfl⟩) (hin:(ps.all (done.contains ·))=true:=by exact rfl):DJ C D R Hf H L all done ps ls (.q i rest) K:=CX ho hq g.a g.b g.c hin h
theorem CB {rest:List Oper} (h:JK C D R H ((d,v)::L) (.ops all rest::K)) (hq:fO C R H L o v:=by (apply FY; exact rfl; exact rfl; exact (by (repeat (first|exact Bld.nil|apply Bld.put rfl rfl rfl|apply Bld.keep rfl)); first|done|fail))) (g:GWz C L all o d:=by exact ⟨rfl,rfl,rfl⟩):JK C D R H L (.ops all (o::rest)::K):=CN hq g.a g.b g.c h
theorem EW {rest:Pl} (h:DJ C D R Hf H ((d,v)::L) all (i::done) ps ls rest K) (ho:all[i]?=some o:=by exact rfl) (hq:fO C R H L o v:=by (apply FY; exact rfl; exact rfl; exact (by (repeat (first|exact Bld.nil|apply Bld.put rfl rfl rfl|apply Bld.keep rfl)); first|done|fail))) (g:GWz C L all o d:=by exact ⟨rfl,rfl,rfl⟩) (hin:(ps.all (done.contains ·))=true:=by exact rfl):DJ C D R Hf H L all done ps ls (.q i rest) K:=CX ho hq g.a g.b g.c hin h
theorem aW4 {rest:List Oper} (h:JK C D R H ((d,v)::L) (.ops all rest::K)) (hq:fO C R H L o v:=by (apply q_neg; exact rfl; exact ⟨by omega,by omega⟩)) (g:GWz C L all o d:=by exact ⟨rfl,rfl,rfl⟩):JK C D R H L (.ops all (o::rest)::K):=CN hq g.a g.b g.c h
theorem A3 {rest:List Oper} {p:Nat->Value} {q:Nat->List PH} (h:∀ b,JK C D R (q b) ((d,p b)::L) (.ops all rest::K)) (hl:iX C R H L o (fun v H2=>∃ b,v=p b/\H2=q b):=by (apply EB; exact rfl)) (g:GWz C L all o d:=by exact ⟨rfl,rfl,rfl⟩):JK C D R H L (.ops all (o::rest)::K):=CR hl g.a g.b g.c (fun _ _ ⟨b,e1,e2⟩=>by subst e1; subst e2; exact h b)
theorem EZ {rest:Pl} {p:Nat->Value} {q:Nat->List PH} (h:∀ b,DJ C D R Hf (q b) ((d,p b)::L) all (i::done) ps (i::ls) rest K) (ho:all[i]?=some o:=by exact rfl) (hl:iX C R H L o (fun v H2=>∃ b,v=p b/\H2=q b):=by (apply EB; exact rfl)) (g:GWz C L all o d:=by exact ⟨rfl,rfl,rfl⟩) (hsub:∀ b w,Sat C.N R (q b) w->Sat C.N R H w:=by (intro b w hw; exact hw.tail)):mV C D R Hf H L all done ps ls i .e rest K:=a_e ho hl g.a g.b g.c (fun _ _ ⟨b,_,e⟩ w hw=>by subst e; exact hsub b w hw) (fun _ _ ⟨b,e1,e2⟩=>by subst e1; subst e2; exact h b)
theorem E0 {rest:Pl} {p:Nat->Value} {q:Nat->List PH} (h:∀ b,DJ C D R Hf (q b) ((d,p b)::L) all (i::done) ps (i::ls) rest K) (ho:all[i]?=some o:=by exact rfl) (hl:iX C R H L o (fun v H2=>∃ b,v=p b/\H2=q b):=by (apply EB; exact rfl)) (g:GWz C L all o d:=by exact ⟨rfl,rfl,rfl⟩) (hsub:∀ b w,Sat C.N R (q b) w->Sat C.N R H w:=by (intro b w hw; exact hw.tail)):DJ C D R Hf H L all done ps ls (.l i .e rest) K:=BZ (a_e ho hl g.a g.b g.c (fun _ _ ⟨b,_,e⟩ w hw=>by subst e; exact hsub b w hw) (fun _ _ ⟨b,e1,e2⟩=>by subst e1; subst e2; exact h b))
theorem B5 {rest:List Oper} {p:Nat->Value} {q:Nat->List PH} (h:∀ b,JK C D R (q b) ((d,p b)::L) (.ops all rest::K)) (hl:iX C R H L o (fun v H2=>∃ b,v=p b/\H2=q b):=by (apply DH; exact rfl; exact rfl)) (g:GWz C L all o d:=by exact ⟨rfl,rfl,rfl⟩):JK C D R H L (.ops all (o::rest)::K):=CR hl g.a g.b g.c (fun _ _ ⟨b,e1,e2⟩=>by subst e1; subst e2; exact h b)
theorem E1 {rest:Pl} {p:Nat->Value} {q:Nat->List PH} (h:∀ b,DJ C D R Hf (q b) ((d,p b)::L) all (i::done) ps (i::ls) rest K) (ho:all[i]?=some o:=by exact rfl) (hl:iX C R H L o (fun v H2=>∃ b,v=p b/\H2=q b):=by (apply DH; exact rfl; exact rfl)) (g:GWz C L all o d:=by exact ⟨rfl,rfl,rfl⟩) (hsub:∀ b w,Sat C.N R (q b) w->Sat C.N R H w:=by (intro b w hw; exact hw.tail)):mV C D R Hf H L all done ps ls i .e rest K:=a_e ho hl g.a g.b g.c (fun _ _ ⟨b,_,e⟩ w hw=>by subst e; exact hsub b w hw) (fun _ _ ⟨b,e1,e2⟩=>by subst e1; subst e2; exact h b)
theorem E2 {rest:Pl} {p:Nat->Value} {q:Nat->List PH} (h:∀ b,DJ C D R Hf (q b) ((d,p b)::L) all (i::done) ps (i::ls) rest K) (ho:all[i]?=some o:=by exact rfl) (hl:iX C R H L o (fun v H2=>∃ b,v=p b/\H2=q b):=by (apply DH; exact rfl; exact rfl)) (g:GWz C L all o d:=by exact ⟨rfl,rfl,rfl⟩) (hsub:∀ b w,Sat C.N R (q b) w->Sat C.N R H w:=by (intro b w hw; exact hw.tail)):DJ C D R Hf H L all done ps ls (.l i .e rest) K:=BZ (a_e ho hl g.a g.b g.c (fun _ _ ⟨b,_,e⟩ w hw=>by subst e; exact hsub b w hw) (fun _ _ ⟨b,e1,e2⟩=>by subst e1; subst e2; exact h b))
theorem BW {rest:List Oper} {p:Nat->Value} {q:Nat->List PH} (h:∀ b,JK C D R (q b) ((d,p b)::L) (.ops all rest::K)) (hl:iX C R H L o (fun v H2=>∃ b,v=p b/\H2=q b):=by (apply CL; exact rfl; exact rfl; exact rfl; exact rfl; exact rfl; exact (by (repeat (first|exact (fun v hv=>absurd hv bD)|(refine eS.2 ⟨?_,?_⟩; (focus (first|exact rfl|assumption))))); first|done|fail); exact (by (repeat (first|exact iS.nil|apply iS.one rfl|apply iS.agg2|apply iS.agg3|apply iS.agg1|apply iS.agg4|apply iS.agg5)); first|done|fail); exact rfl)) (g:GWz C L all o d:=by exact ⟨rfl,rfl,rfl⟩):JK C D R H L (.ops all (o::rest)::K):=CR hl g.a g.b g.c (fun _ _ ⟨b,e1,e2⟩=>by subst e1; subst e2; exact h b)
theorem D4 {rest:Pl} {p:Nat->Value} {q:Nat->List PH} (h:∀ b,DJ C D R Hf (q b) ((d,p b)::L) all (i::done) ps (i::ls) rest K) (ho:all[i]?=some o:=by exact rfl) (hl:iX C R H L o (fun v H2=>∃ b,v=p b/\H2=q b):=by (apply CL; exact rfl; exact rfl; exact rfl; exact rfl; exact rfl; exact (by (repeat (first|exact (fun v hv=>absurd hv bD)|(refine eS.2 ⟨?_,?_⟩; (focus (first|exact rfl|assumption))))); first|done|fail); exact (by (repeat (first|exact iS.nil|apply iS.one rfl|apply iS.agg2|apply iS.agg3|apply iS.agg1|apply iS.agg4|apply iS.agg5)); first|done|fail); exact rfl)) (g:GWz C L all o d:=by exact ⟨rfl,rfl,rfl⟩) (hsub:∀ b w,Sat C.N R (q b) w->Sat C.N R H w:=by (intro b w hw; exact hw.tail)):mV C D R Hf H L all done ps ls i .e rest K:=a_e ho hl g.a g.b g.c (fun _ _ ⟨b,_,e⟩ w hw=>by subst e; exact hsub b w hw) (fun _ _ ⟨b,e1,e2⟩=>by subst e1; subst e2; exact h b)
theorem BY {rest:Pl} {p:Nat->Value} {q:Nat->List PH} (h:∀ b,DJ C D R Hf (q b) ((d,p b)::L) all (i::done) ps (i::ls) rest K) (ho:all[i]?=some o:=by exact rfl) (hl:iX C R H L o (fun v H2=>∃ b,v=p b/\H2=q b):=by (apply CL; exact rfl; exact rfl; exact rfl; exact rfl; exact rfl; exact (by (repeat (first|exact (fun v hv=>absurd hv bD)|(refine eS.2 ⟨?_,?_⟩; (focus (first|exact rfl|assumption))))); first|done|fail); exact (by (repeat (first|exact iS.nil|apply iS.one rfl|apply iS.agg2|apply iS.agg3|apply iS.agg1|apply iS.agg4|apply iS.agg5)); first|done|fail); exact rfl)) (g:GWz C L all o d:=by exact ⟨rfl,rfl,rfl⟩) (hsub:∀ b w,Sat C.N R (q b) w->Sat C.N R H w:=by (intro b w hw; exact hw.tail)):DJ C D R Hf H L all done ps ls (.l i .e rest) K:=BZ (a_e ho hl g.a g.b g.c (fun _ _ ⟨b,_,e⟩ w hw=>by subst e; exact hsub b w hw) (fun _ _ ⟨b,e1,e2⟩=>by subst e1; subst e2; exact h b))
theorem B8 {rest:List Oper} {p:Nat->Value} {q:Nat->List PH} (h:∀ b,JK C D R (q b) ((d,p b)::L) (.ops all rest::K)) (hl:iX C R H L o (fun v H2=>∃ b,v=p b/\H2=q b):=by (apply FI; exact rfl)) (g:GWz C L all o d:=by exact ⟨rfl,rfl,rfl⟩):JK C D R H L (.ops all (o::rest)::K):=CR hl g.a g.b g.c (fun _ _ ⟨b,e1,e2⟩=>by subst e1; subst e2; exact h b)
theorem F8 {rest:Pl} {p:Nat->Value} {q:Nat->List PH} (h:∀ b,DJ C D R Hf (q b) ((d,p b)::L) all (i::done) ps (i::ls) rest K) (ho:all[i]?=some o:=by exact rfl) (hl:iX C R H L o (fun v H2=>∃ b,v=p b/\H2=q b):=by (apply FI; exact rfl)) (g:GWz C L all o d:=by exact ⟨rfl,rfl,rfl⟩) (hsub:∀ b w,Sat C.N R (q b) w->Sat C.N R H w:=by (intro b w hw; exact hw.tail)):DJ C D R Hf H L all done ps ls (.l i .e rest) K:=BZ (a_e ho hl g.a g.b g.c (fun _ _ ⟨b,_,e⟩ w hw=>by subst e; exact hsub b w hw) (fun _ _ ⟨b,e1,e2⟩=>by subst e1; subst e2; exact h b))
theorem AU {all:Array Oper} {o:Oper} {rest:List Oper} {u:Value} {H':List PH} (h:JK C D R H' L (.ops all rest::K)) (hl:iX C R H L o (fun v H2=>v=u/\H2=H'):=by (apply DB; exact rfl; exact rfl; exact (by (repeat (first|exact .here|apply gU.there)); first|done|fail); exact (by (repeat (first|exact (fun v hv=>absurd hv bD)|(refine eS.2 ⟨?_,?_⟩; (focus (first|exact rfl|assumption))))); first|done|fail); exact rfl; exact rfl)) (hg:gT all L o=some true:=by exact rfl) (hd:o.dst=none:=by exact rfl):JK C D R H L (.ops all (o::rest)::K):=CY hl hg hd (fun _ _ ⟨e1,e2⟩=>by subst e1; subst e2; exact h)
theorem BK {all:Array Oper} {o:Oper} {rest:List Oper} {u:Value} {H':List PH} (h:JK C D R H' L (.ops all rest::K)) (hl:iX C R H L o (fun v H2=>v=u/\H2=H'):=by (apply EC; exact rfl; exact rfl; (first|exact rfl|assumption); exact rfl; exact (by (repeat (first|exact .here|apply gU.there)); first|done|fail); (focus (repeat (first|exact uR.here|apply uR.there)); done))) (hg:gT all L o=some true:=by exact rfl) (hd:o.dst=none:=by exact rfl):JK C D R H L (.ops all (o::rest)::K):=CY hl hg hd (fun _ _ ⟨e1,e2⟩=>by subst e1; subst e2; exact h)
theorem CI {all:Array Oper} {done:List Nat} {i:Nat} {rest:Pl} {o:Oper} {u:Value} {H':List PH} (h:DJ C D R Hf H' L all (i::done) ps (i::ls) rest K) (ho:all[i]?=some o:=by exact rfl) (hl:iX C R H L o (fun v H2=>v=u/\H2=H'):=by (apply EC; exact rfl; exact rfl; (first|exact rfl|assumption); exact rfl; exact (by (repeat (first|exact .here|apply gU.there)); first|done|fail); (focus (repeat (first|exact uR.here|apply uR.there)); done))) (hg:gT all L o=some true:=by exact rfl) (hd:o.dst=none:=by exact rfl) (hsub:∀ w,Sat C.N R H' w->Sat C.N R Hf w:=by (intro w hw; exact hw.sel (by (repeat (first|exact Sel.nil|(apply Sel.cons; (focus ((repeat (first|exact .here|apply Mem.there|apply gU.there)); first|done|fail))))); first|done|fail))):DJ C D R Hf H L all done ps ls (.l i .b rest) K:=BZ (D7 ho hl hg hd (fun _ _ ⟨_,e⟩ w hw=>by subst e; exact hsub w hw) (fun _ _ ⟨e1,e2⟩=>by subst e1; subst e2; exact h))
theorem rdB (b:Nat) (t:TypeId) (vs:List Value):RdN (sng b (.cells vs.toArray t (0,0))) b 0 vs:=fun j v hv=>by
 rw [kE,bZ]
 simpa using hv
theorem rdQ {ρ:PH} {b:Nat} {xs ys:List Value} (h:RdN ρ b 0 (xs ++ ys)):RdP ρ b 0 xs:=⟨fun j v hv=>h j v (by
 rw [cM (aC.1 hv).1]
 exact hv)⟩
theorem rdC {ρ:PH} {b:Nat} {vs:List Value} {v:Value} (h:RdN ρ b 0 vs) (i:Nat) (e:vs[i]?=some v:=by rfl):rdc ρ b i=some v:=by
 have:=h i v e
 rwa [bZ] at this
section
variable {all:Array Oper} {rest:List Oper} {t:TypeId} {x:Operand} {d:Nat} {ty:TypeId} {pos:String} {aft:Array Edge} {g:Option (Nat × Bool)} {vs:List Value}
theorem BF (h:∀ b,RdN (sng b (.cells vs.toArray t (0,0))) b 0 vs->JK C D (sng b (.cells vs.toArray t (0,0))::R) H ((d,.pointer (some ⟨b,0,none⟩))::L) (.ops all rest::K)) (hv:fM L x=some (.agg vs.toArray):=by exact rfl) (hg:gT all L ⟨some d,.box t x,ty,pos,aft,g⟩=some true:=by exact rfl) (hM:Nat.blt d C.M=true:=by exact rfl):JK C D R H L (.ops all (⟨some d,.box t x,ty,pos,aft,g⟩::rest)::K):=CR (FI hv) hg rfl hM (fun v H' ⟨b,e1,e2⟩=>by subst e1; subst e2; exact AW .here (h b (rdB b t vs)))
theorem BV (h:∀ b,JK C D R (sng b (.cells vs.toArray t (0,0))::H) ((d,.pointer (some ⟨b,0,none⟩))::L) (.ops all rest::K)) (hv:fM L x=some (.agg vs.toArray):=by exact rfl) (hg:gT all L ⟨some d,.box t x,ty,pos,aft,g⟩=some true:=by exact rfl) (hM:Nat.blt d C.M=true:=by exact rfl):JK C D R H L (.ops all (⟨some d,.box t x,ty,pos,aft,g⟩::rest)::K):=CR (FI hv) hg rfl hM (fun v H' ⟨b,e1,e2⟩=>by subst e1; subst e2; exact h b)
theorem C3 {v:Value} (h:∀ b,JK C D R (sng b (.cells #[v] t (0,0))::H) ((d,.pointer (some ⟨b,0,none⟩))::L) (.ops all rest::K)) (hv:fM L x=some v:=by exact rfl) (h1:v.oneCell'=true:=by exact rfl) (hg:gT all L ⟨some d,.box t x,ty,pos,aft,g⟩=some true:=by exact rfl) (hM:Nat.blt d C.M=true:=by exact rfl):JK C D R H L (.ops all (⟨some d,.box t x,ty,pos,aft,g⟩::rest)::K):=CR (aWb hv h1) hg rfl hM (fun v H' ⟨b,e1,e2⟩=>by subst e1; subst e2; exact h b)
theorem CT (h:∀ b,JK C D R (sng b (.cells vs.toArray t (0,0))::H) ((d,.pointer (some ⟨b,0,none⟩))::L) (.ops all rest::K)) (hv:kD C.P t=some (.agg vs.toArray):=by exact rfl) (hg:gT all L ⟨some d,.alloc t,ty,pos,aft,g⟩=some true:=by exact rfl) (hM:Nat.blt d C.M=true:=by exact rfl):JK C D R H L (.ops all (⟨some d,.alloc t,ty,pos,aft,g⟩::rest)::K):=CR (EB hv) hg rfl hM (fun v H' ⟨b,e1,e2⟩=>by subst e1; subst e2; exact h b)
theorem A5 {R1:List PH} {f u:Value} {xs:Array Operand} {ts:Array TypeId} (hs:Ans C.P f vs R1 (fun r=>r=u)) (h:JK C D R H ((d,u)::L) (.ops all rest::K)) (hf:fM L x=some f:=by exact rfl) (ha:jP L xs.toList=some vs:=by exact rfl) (hr:jK R1 R H:=by (repeat (first|exact jK.nil|(refine jK.consR ?_ ?_; (focus ((repeat (first|exact .here|apply Mem.there|apply gU.there)); first|done|fail)))|(refine jK.consH ?_ ?_; (focus ((repeat (first|exact .here|apply Mem.there|apply gU.there)); first|done|fail)))|exact (fun τ hτ=>.inl (by simp [hτ])))); first|done|fail) (hg:gT all L ⟨some d,.call ⟨.value x,xs,ts⟩,ty,pos,aft,g⟩=some true:=by exact rfl) (hM:Nat.blt d C.M=true:=by exact rfl):JK C D R H L (.ops all (⟨some d,.call ⟨.value x,xs,ts⟩,ty,pos,aft,g⟩::rest)::K):=BT hs hf ha hr hg hM (fun v e=>by subst e; exact h)
end
theorem AV {P:Program} {fn:Func} {N:Bs} {M t:Nat} {R R0 H H':List PH} {L:Env} {K:List It} {post:Value->List PH->Prop} {v:Value} (hp:post v H') (hr:fn.results = #[.tmp t]:=by exact rfl) (hv:look L t=some v:=by exact rfl) (hR:∀ ρ∈R0,ρ∈R:=by exact fQ) (hH:Sel H H':=by exact fK):JK ⟨none,P,FnQ P fn N R0 post,N,M⟩ [] R H L (.code .ret::K):=A2 (qR hr hv) hR hH hp
theorem lzZ {α:Type} {x:Option α} {a b:α} (h:x=some a) (e:a=b:=by kernel_rfl):x=some b:=h.trans (congrArg some e)
abbrev P0Z:Pl:=.q 0 (.q 1 (.q 2 (.q 3 (.q 4 (.q 5 (.q 6 (.q 7 (.q 8 (.q 9 (.q 10 (.q 11 .nil)))))))))))
abbrev P1Z:Pl:=.q 0 (.q 1 (.q 2 (.q 3 (.q 4 (.q 5 (.q 6 (.q 7 (.q 8 (.q 9 (.q 10 (.q 11 (.q 12 (.q 13 (.q 14 (.q 15 (.q 16 (.q 17 (.q 18 (.q 19 .nil)))))))))))))))))))
abbrev P2Z:Pl:=.q 0 (.q 1 (.q 2 (.q 3 (.q 4 (.q 5 (.q 6 (.q 7 (.q 8 (.q 9 (.q 10 (.q 11 (.q 12 (.q 13 (.q 14 (.q 15 (.q 16 (.q 17 .nil)))))))))))))))))
abbrev P3Z:Pl:=.q 0 (.q 1 (.q 2 (.q 3 (.q 4 (.q 5 (.q 6 (.q 7 (.q 8 (.q 9 .nil)))))))))
abbrev P4Z:Pl:=.q 0 (.q 1 (.q 2 (.q 3 (.q 4 (.q 5 (.q 6 (.q 7 (.q 8 (.q 9 (.q 10 (.q 11 (.q 12 (.q 13 (.q 14 (.q 15 (.q 16 .nil))))))))))))))))
abbrev P5Z:Pl:=.q 0 (.q 1 (.q 2 (.q 3 (.q 4 (.q 5 (.q 6 (.q 7 (.q 8 (.q 9 (.q 10 .nil))))))))))
structure Wg (G:Prop):Prop where
  p:G
theorem Aa {J G:Prop} (g:G) (h:Wg G->J:=by intro g;refine AC ?_;refine AA ?_;exact g.1):J:=h ⟨g⟩
theorem Aaa {J G:Prop} (g:G) (h:Wg G->J:=by intro g;refine AD ?_;refine AE ?_;exact g.1):J:=h ⟨g⟩
theorem Aab {J G:Prop} (g:G) (h:Wg G->J:=by intro g;refine Aa ?_;refine AB ?_;exact g.1):J:=h ⟨g⟩
theorem Aac {J G:Prop} (g:G) (h:Wg G->J:=by intro g;refine AG ?_;refine AF ?_;exact g.1):J:=h ⟨g⟩
theorem Aad {J G:Prop} (g:G) (h:Wg G->J:=by intro g;refine AL rfl rfl rfl ?_;refine AL rfl rfl rfl ?_;exact g.1):J:=h ⟨g⟩
theorem Aae {J G:Prop} (g:G) (h:Wg G->J:=by intro g;refine AE ?_;refine AJ rfl ?_;exact g.1):J:=h ⟨g⟩
theorem Aaf {J G:Prop} (g:G) (h:Wg G->J:=by intro g;refine AX rfl rfl rfl rfl rfl ?_;refine AX rfl rfl rfl rfl rfl ?_;exact g.1):J:=h ⟨g⟩
theorem Aag {J G:Prop} (g:G) (h:Wg G->J:=by intro g;refine AC ?_;refine Aab ?_;exact g.1):J:=h ⟨g⟩
theorem Aah {J G:Prop} (g:G) (h:Wg G->J:=by intro g;refine AE ?_;refine AQ rfl ?_;exact g.1):J:=h ⟨g⟩
theorem Aai {J G:Prop} (g:G) (h:Wg G->J:=by intro g;refine Aae ?_;refine AK ?_;exact g.1):J:=h ⟨g⟩
theorem Aaj {J G:Prop} (g:G) (h:Wg G->J:=by intro g;refine AR ?_;refine AN ?_;exact g.1):J:=h ⟨g⟩
theorem Aak {J G:Prop} (g:G) (h:Wg G->J:=by intro g;refine AE ?_;refine AC ?_;exact g.1):J:=h ⟨g⟩
theorem Aal {J G:Prop} (g:G) (h:Wg G->J:=by intro g;refine AB ?_;refine AB ?_;exact g.1):J:=h ⟨g⟩
theorem Aam {J G:Prop} (g:G) (h:Wg G->J:=by intro g;refine Aa ?_;refine Aaa ?_;exact g.1):J:=h ⟨g⟩
theorem Aan {J G:Prop} (g:G) (h:Wg G->J:=by intro g;refine Aa ?_;refine Aac ?_;exact g.1):J:=h ⟨g⟩
theorem Aao {J G:Prop} (g:G) (h:Wg G->J:=by intro g;refine AB ?_;refine AE ?_;exact g.1):J:=h ⟨g⟩
theorem Aap {J G:Prop} (g:G) (h:Wg G->J:=by intro g;refine AC ?_;refine AM ?_;exact g.1):J:=h ⟨g⟩
theorem Aaq {J G:Prop} (g:G) (h:Wg G->J:=by intro g;refine AD ?_;refine Aaa ?_;exact g.1):J:=h ⟨g⟩
theorem Aar {J G:Prop} (g:G) (h:Wg G->J:=by intro g;refine Aa ?_;refine AI ?_;exact g.1):J:=h ⟨g⟩
theorem Aas {J G:Prop} (g:G) (h:Wg G->J:=by intro g;refine AB ?_;refine Aac ?_;exact g.1):J:=h ⟨g⟩
theorem Aat {J G:Prop} (g:G) (h:Wg G->J:=by intro g;refine AK ?_;refine Aap ?_;exact g.1):J:=h ⟨g⟩
theorem Aau {J G:Prop} (g:G) (h:Wg G->J:=by intro g;refine AQ rfl ?_;refine Aat ?_;exact g.1):J:=h ⟨g⟩
theorem Aav {J G:Prop} (g:G) (h:Wg G->J:=by intro g;refine Aag ?_;refine AB ?_;exact g.1):J:=h ⟨g⟩
theorem Aaw {J G:Prop} (g:G) (h:Wg G->J:=by intro g;refine Aab ?_;refine AB ?_;exact g.1):J:=h ⟨g⟩
theorem Aax {J G:Prop} (g:G) (h:Wg G->J:=by intro g;refine Aad ?_;refine AL rfl rfl rfl ?_;exact g.1):J:=h ⟨g⟩
theorem Aay {J G:Prop} (g:G) (h:Wg G->J:=by intro g;refine BB ?_;refine AA ?_;exact g.1):J:=h ⟨g⟩
theorem Aaz {J G:Prop} (g:G) (h:Wg G->J:=by intro g;refine AJ rfl ?_;refine BA rfl ?_;exact g.1):J:=h ⟨g⟩
theorem Aa0 {J G:Prop} (g:G) (h:Wg G->J:=by intro g;refine AP ?_;refine AP ?_;exact g.1):J:=h ⟨g⟩
theorem Aa1 {J G:Prop} (g:G) (h:Wg G->J:=by intro g;refine BI ?_;refine Aao ?_;exact g.1):J:=h ⟨g⟩
theorem Aa3 {J G:Prop} (g:G) (h:Wg G->J:=by intro g;refine Aay ?_;refine Aa1 ?_;exact g.1):J:=h ⟨g⟩
theorem Aa4 {J G:Prop} (g:G) (h:Wg G->J:=by intro g;refine BM ?_;refine Aak ?_;refine Aau ?_;exact g.1):J:=h ⟨g⟩
theorem Aa5 {J G:Prop} (g:G) (h:Wg G->J:=by intro g;refine Aab ?_;refine Aaa ?_;exact g.1):J:=h ⟨g⟩
theorem Aa6 {J G:Prop} (g:G) (h:Wg G->J:=by intro g;refine AU ?_;refine AE ?_;exact g.1):J:=h ⟨g⟩
theorem Aa7 {J G:Prop} (g:G) (h:Wg G->J:=by intro g;refine Aae ?_;refine BA rfl ?_;exact g.1):J:=h ⟨g⟩
theorem Aa8 {J G:Prop} (g:G) (h:Wg G->J:=by intro g;refine Aa ?_;refine Aa4 ?_;exact g.1):J:=h ⟨g⟩
theorem Aa9 {J G:Prop} (g:G) (h:Wg G->J:=by intro g;refine BL ?_;refine AI ?_;exact g.1):J:=h ⟨g⟩
theorem Ab {J G:Prop} (g:G) (h:Wg G->J:=by intro g;refine AS ?_;refine AS ?_;exact g.1):J:=h ⟨g⟩
theorem Aba {J G:Prop} (g:G) (h:Wg G->J:=by intro g;refine Aaa ?_;refine AC ?_;exact g.1):J:=h ⟨g⟩
theorem Abb {J G:Prop} (g:G) (h:Wg G->J:=by intro g;refine Aa ?_;refine AF ?_;exact g.1):J:=h ⟨g⟩
theorem Abd {J G:Prop} (g:G) (h:Wg G->J:=by intro g;refine AB ?_;refine Aad ?_;exact g.1):J:=h ⟨g⟩
theorem Abe {J G:Prop} (g:G) (h:Wg G->J:=by intro g;refine AT ?_;refine Aai ?_;exact g.1):J:=h ⟨g⟩
theorem Abf {J G:Prop} (g:G) (h:Wg G->J:=by intro g;refine Aas ?_;refine Aac ?_;exact g.1):J:=h ⟨g⟩
theorem Abh {J G:Prop} (g:G) (h:Wg G->J:=by intro g;refine A6 ?_;refine Aao ?_;refine AM ?_;exact g.1):J:=h ⟨g⟩
theorem Abi {J G:Prop} (g:G) (h:Wg G->J:=by intro g;refine BD ?_;refine Aak ?_;refine Aaz ?_;exact g.1):J:=h ⟨g⟩
theorem Abj {J G:Prop} (g:G) (h:Wg G->J:=by intro g;refine Aaj ?_;refine Aaj ?_;exact g.1):J:=h ⟨g⟩
theorem Abk {J G:Prop} (g:G) (h:Wg G->J:=by intro g;refine AB ?_;refine Ab ?_;exact g.1):J:=h ⟨g⟩
theorem Abl {J G:Prop} (g:G) (h:Wg G->J:=by intro g;refine BH ?_;refine A7 ?_;exact g.1):J:=h ⟨g⟩
theorem Abm {J G:Prop} (g:G) (h:Wg G->J:=by intro g;refine Aal ?_;refine AB ?_;exact g.1):J:=h ⟨g⟩
theorem Abn {J G:Prop} (g:G) (h:Wg G->J:=by intro g;refine BN ?_;refine Aai ?_;exact g.1):J:=h ⟨g⟩
theorem Abo {J G:Prop} (g:G) (h:Wg G->J:=by intro g;refine A4 ?_;refine AR ?_;exact g.1):J:=h ⟨g⟩
theorem Abp {J G:Prop} (g:G) (h:Wg G->J:=by intro g;refine Aa ?_;refine Abi ?_;exact g.1):J:=h ⟨g⟩
theorem Abq {J G:Prop} (g:G) (h:Wg G->J:=by intro g;refine Aaa ?_;refine Aab ?_;exact g.1):J:=h ⟨g⟩
theorem Abr {J G:Prop} (g:G) (h:Wg G->J:=by intro g;refine Aan ?_;refine Aac ?_;exact g.1):J:=h ⟨g⟩
theorem Abs {J G:Prop} (g:G) (h:Wg G->J:=by intro g;refine Aar ?_;refine AI ?_;exact g.1):J:=h ⟨g⟩
theorem Abt {J G:Prop} (g:G) (h:Wg G->J:=by intro g;refine Aa8 ?_;refine Aa ?_;exact g.1):J:=h ⟨g⟩
theorem Abu {J G:Prop} (g:G) (h:Wg G->J:=by intro g;refine AA ?_;refine Aal ?_;exact g.1):J:=h ⟨g⟩
theorem Abv {J G:Prop} (g:G) (h:Wg G->J:=by intro g;refine Aaa ?_;refine Aag ?_;exact g.1):J:=h ⟨g⟩
theorem Abw {J G:Prop} (g:G) (h:Wg G->J:=by intro g;refine Aaf ?_;refine Aaf ?_;exact g.1):J:=h ⟨g⟩
theorem Abx {J G:Prop} (g:G) (h:Wg G->J:=by intro g;refine BK ?_;refine AE ?_;exact g.1):J:=h ⟨g⟩
theorem Aby {J G:Prop} (g:G) (h:Wg G->J:=by intro g;refine BC ?_;refine AJ rfl ?_;exact g.1):J:=h ⟨g⟩
theorem Abz {J G:Prop} (g:G) (h:Wg G->J:=by intro g;refine BI ?_;refine Aaa ?_;exact g.1):J:=h ⟨g⟩
theorem Ab0 {J G:Prop} (g:G) (h:Wg G->J:=by intro g;refine BM ?_;refine Aah ?_;exact g.1):J:=h ⟨g⟩
theorem Ab1 {J G:Prop} (g:G) (h:Wg G->J:=by intro g;refine CH ?_;refine AN ?_;exact g.1):J:=h ⟨g⟩
theorem Ab2 {J G:Prop} (g:G) (h:Wg G->J:=by intro g;refine Abt ?_;refine Aa9 ?_;exact g.1):J:=h ⟨g⟩
theorem Ab3 {J G:Prop} (g:G) (h:Wg G->J:=by intro g;refine Aac ?_;refine A6 ?_;exact g.1):J:=h ⟨g⟩
theorem Ab4 {J G:Prop} (g:G) (h:Wg G->J:=by intro g;refine AG ?_;refine AI ?_;exact g.1):J:=h ⟨g⟩
theorem Ab5 {J G:Prop} (g:G) (h:Wg G->J:=by intro g;refine BD ?_;refine Aa7 ?_;exact g.1):J:=h ⟨g⟩
theorem Ab6 {J G:Prop} (g:G) (h:Wg G->J:=by intro g;refine Aah ?_;refine Aam ?_;exact g.1):J:=h ⟨g⟩
theorem Ab7 {J G:Prop} (g:G) (h:Wg G->J:=by intro g;refine Abk ?_;refine Aaq ?_;exact g.1):J:=h ⟨g⟩
theorem Ab8 {J G:Prop} (g:G) (h:Wg G->J:=by intro g;refine AB ?_;refine Abz ?_;exact g.1):J:=h ⟨g⟩
theorem Ab9 {J G:Prop} (g:G) (h:Wg G->J:=by intro g;refine Aam ?_;refine Aag ?_;exact g.1):J:=h ⟨g⟩
theorem Ac {J G:Prop} (g:G) (h:Wg G->J:=by intro g;refine BP ?_;refine BC ?_;exact g.1):J:=h ⟨g⟩
theorem Aca {J G:Prop} (g:G) (h:Wg G->J:=by intro g;refine Aaj ?_;refine AN ?_;exact g.1):J:=h ⟨g⟩
theorem Acb {J G:Prop} (g:G) (h:Wg G->J:=by intro g;refine Abo ?_;refine Ab1 ?_;exact g.1):J:=h ⟨g⟩
theorem Acc {J G:Prop} (g:G) (h:Wg G->J:=by intro g;refine BC ?_;refine AQ rfl ?_;exact g.1):J:=h ⟨g⟩
theorem Acd {J G:Prop} (g:G) (h:Wg G->J:=by intro g;refine AB ?_;refine Aax ?_;exact g.1):J:=h ⟨g⟩
theorem Ace {J G:Prop} (g:G) (h:Wg G->J:=by intro g;refine Aai ?_;refine Aa3 ?_;exact g.1):J:=h ⟨g⟩
theorem Acf {J G:Prop} (g:G) (h:Wg G->J:=by intro g;refine AT ?_;refine Aaa ?_;exact g.1):J:=h ⟨g⟩
theorem Acg {J G:Prop} (g:G) (h:Wg G->J:=by intro g;refine Abd ?_;refine Aax ?_;exact g.1):J:=h ⟨g⟩
theorem Ach {J G:Prop} (g:G) (h:Wg G->J:=by intro g;refine Aby ?_;refine AK ?_;exact g.1):J:=h ⟨g⟩
theorem Aci {J G:Prop} (g:G) (h:Wg G->J:=by intro g;refine AY ?_;refine Aah ?_;exact g.1):J:=h ⟨g⟩
theorem Acj {J G:Prop} (g:G) (h:Wg G->J:=by intro g;refine BO ?_;refine AG ?_;exact g.1):J:=h ⟨g⟩
theorem Ack {J G:Prop} (g:G) (h:Wg G->J:=by intro g;refine Aay ?_;refine Ab8 ?_;exact g.1):J:=h ⟨g⟩
theorem Acl {J G:Prop} (g:G) (h:Wg G->J:=by intro g;refine Aa0 ?_;refine Abl ?_;exact g.1):J:=h ⟨g⟩
theorem Acm {J G:Prop} (g:G) (h:Wg G->J:=by intro g;refine Aan ?_;refine AB ?_;exact g.1):J:=h ⟨g⟩
theorem Acn {J G:Prop} (g:G) (h:Wg G->J:=by intro g;refine BX ?_;refine Aai ?_;exact g.1):J:=h ⟨g⟩
theorem Aco {J G:Prop} (g:G) (h:Wg G->J:=by intro g;refine Aca ?_;refine Acb ?_;exact g.1):J:=h ⟨g⟩
theorem Acp {J G:Prop} (g:G) (h:Wg G->J:=by intro g;refine Ab0 ?_;refine Aat ?_;exact g.1):J:=h ⟨g⟩
theorem Acq {J G:Prop} (g:G) (h:Wg G->J:=by intro g;refine Aaa ?_;refine BB ?_;exact g.1):J:=h ⟨g⟩
theorem Acr {J G:Prop} (g:G) (h:Wg G->J:=by intro g;refine AK ?_;refine AM ?_;exact g.1):J:=h ⟨g⟩
theorem Acs {J G:Prop} (g:G) (h:Wg G->J:=by intro g;refine Aab ?_;refine Aal ?_;exact g.1):J:=h ⟨g⟩
theorem Acu {J G:Prop} (g:G) (h:Wg G->J:=by intro g;refine Aah ?_;refine Aa5 ?_;exact g.1):J:=h ⟨g⟩
theorem Acv {J G:Prop} (g:G) (h:Wg G->J:=by intro g;refine Aaa ?_;refine Aan ?_;exact g.1):J:=h ⟨g⟩
theorem Acw {J G:Prop} (g:G) (h:Wg G->J:=by intro g;refine Abd ?_;refine Aad ?_;exact g.1):J:=h ⟨g⟩
theorem Acx {J G:Prop} (g:G) (h:Wg G->J:=by intro g;refine Aav ?_;refine Ab5 ?_;exact g.1):J:=h ⟨g⟩
theorem Acy {J G:Prop} (g:G) (h:Wg G->J:=by intro g;refine B3 ?_;refine Aai ?_;exact g.1):J:=h ⟨g⟩
theorem Acz {J G:Prop} (g:G) (h:Wg G->J:=by intro g;refine Aa ?_;refine Ab4 ?_;exact g.1):J:=h ⟨g⟩
theorem Ac0 {J G:Prop} (g:G) (h:Wg G->J:=by intro g;refine AY ?_;refine Aaa ?_;exact g.1):J:=h ⟨g⟩
theorem Ac1 {J G:Prop} (g:G) (h:Wg G->J:=by intro g;refine AT ?_;refine Aas ?_;exact g.1):J:=h ⟨g⟩
theorem Ac2 {J G:Prop} (g:G) (h:Wg G->J:=by intro g;refine AP ?_;refine Abw ?_;exact g.1):J:=h ⟨g⟩
theorem Ac3 {J G:Prop} (g:G) (h:Wg G->J:=by intro g;refine Aaj ?_;refine AP ?_;exact g.1):J:=h ⟨g⟩
theorem Ac4 {J G:Prop} (g:G) (h:Wg G->J:=by intro g;refine Abe ?_;refine AC ?_;exact g.1):J:=h ⟨g⟩
theorem Ac5 {J G:Prop} (g:G) (h:Wg G->J:=by intro g;refine AC ?_;refine Abb ?_;exact g.1):J:=h ⟨g⟩
theorem Ac6 {J G:Prop} (g:G) (h:Wg G->J:=by intro g;refine AD ?_;refine Aaq ?_;exact g.1):J:=h ⟨g⟩
theorem Ac7 {J G:Prop} (g:G) (h:Wg G->J:=by intro g;refine Abq ?_;refine Abn ?_;exact g.1):J:=h ⟨g⟩
theorem Ac8 {J G:Prop} (g:G) (h:Wg G->J:=by intro g;refine Aaa ?_;refine Abr ?_;exact g.1):J:=h ⟨g⟩
theorem Ac9 {J G:Prop} (g:G) (h:Wg G->J:=by intro g;refine CV ?_;refine AF ?_;exact g.1):J:=h ⟨g⟩
theorem Ad {J G:Prop} (g:G) (h:Wg G->J:=by intro g;refine AA ?_;refine AB ?_;exact g.1):J:=h ⟨g⟩
theorem Ada {J G:Prop} (g:G) (h:Wg G->J:=by intro g;refine BH ?_;refine BZ ?_;exact g.1):J:=h ⟨g⟩
theorem Adb {J G:Prop} (g:G) (h:Wg G->J:=by intro g;refine AU ?_;refine Aak ?_;exact g.1):J:=h ⟨g⟩
theorem Adc {J G:Prop} (g:G) (h:Wg G->J:=by intro g;refine Aa0 ?_;refine AP ?_;exact g.1):J:=h ⟨g⟩
theorem Add {J G:Prop} (g:G) (h:Wg G->J:=by intro g;refine AU ?_;refine Aaa ?_;exact g.1):J:=h ⟨g⟩
theorem Ade {J G:Prop} (g:G) (h:Wg G->J:=by intro g;refine A6 ?_;refine B7 ?_;exact g.1):J:=h ⟨g⟩
theorem Adf {J G:Prop} (g:G) (h:Wg G->J:=by intro g;refine Ab9 ?_;refine Abh ?_;exact g.1):J:=h ⟨g⟩
theorem Adg {J G:Prop} (g:G) (h:Wg G->J:=by intro g;refine DA ?_;refine AF ?_;exact g.1):J:=h ⟨g⟩
theorem Adh {J G:Prop} (g:G) (h:Wg G->J:=by intro g;refine Aaw ?_;refine CF ?_;exact g.1):J:=h ⟨g⟩
theorem Adi {J G:Prop} (g:G) (h:Wg G->J:=by intro g;refine Abl ?_;refine Acl ?_;exact g.1):J:=h ⟨g⟩
theorem Adj {J G:Prop} (g:G) (h:Wg G->J:=by intro g;refine Aa ?_;refine BR ?_;exact g.1):J:=h ⟨g⟩
theorem Adk {J G:Prop} (g:G) (h:Wg G->J:=by intro g;refine Aa0 ?_;refine CE ?_;exact g.1):J:=h ⟨g⟩
theorem Adl {J G:Prop} (g:G) (h:Wg G->J:=by intro g;refine Aa ?_;refine Aaq ?_;exact g.1):J:=h ⟨g⟩
theorem Adm {J G:Prop} (g:G) (h:Wg G->J:=by intro g;refine BM ?_;refine Abm ?_;exact g.1):J:=h ⟨g⟩
theorem Adn {J G:Prop} (g:G) (h:Wg G->J:=by intro g;refine AP ?_;refine Abo ?_;exact g.1):J:=h ⟨g⟩
theorem Ado {J G:Prop} (g:G) (h:Wg G->J:=by intro g;refine Aa8 ?_;refine Aa5 ?_;exact g.1):J:=h ⟨g⟩
theorem Adp {J G:Prop} (g:G) (h:Wg G->J:=by intro g;refine Abn ?_;refine Aag ?_;exact g.1):J:=h ⟨g⟩
theorem Adq {J G:Prop} (g:G) (h:Wg G->J:=by intro g;refine Ac2 ?_;refine Abw ?_;exact g.1):J:=h ⟨g⟩
theorem Adr {J G:Prop} (g:G) (h:Wg G->J:=by intro g;refine CI ?_;refine BC ?_;exact g.1):J:=h ⟨g⟩
theorem Ads {J G:Prop} (g:G) (h:Wg G->J:=by intro g;refine AB ?_;refine AF ?_;exact g.1):J:=h ⟨g⟩
theorem Adt {J G:Prop} (g:G) (h:Wg G->J:=by intro g;refine C1 ?_;refine Aah ?_;exact g.1):J:=h ⟨g⟩
theorem Adu {J G:Prop} (g:G) (h:Wg G->J:=by intro g;refine C5 ?_;refine Aah ?_;exact g.1):J:=h ⟨g⟩
theorem Adv {J G:Prop} (g:G) (h:Wg G->J:=by intro g;refine CJ ?_;refine Abf ?_;exact g.1):J:=h ⟨g⟩
theorem Adw {J G:Prop} (g:G) (h:Wg G->J:=by intro g;refine AY ?_;refine Aai ?_;exact g.1):J:=h ⟨g⟩
theorem Ady {J G:Prop} (g:G) (h:Wg G->J:=by intro g;refine AX rfl rfl rfl rfl rfl ?_;refine BS ?_;exact g.1):J:=h ⟨g⟩
theorem Adz {J G:Prop} (g:G) (h:Wg G->J:=by intro g;refine Aaa ?_;refine Aaw ?_;exact g.1):J:=h ⟨g⟩
theorem Ad0 {J G:Prop} (g:G) (h:Wg G->J:=by intro g;refine Aac ?_;refine Aac ?_;exact g.1):J:=h ⟨g⟩
theorem Ad1 {J G:Prop} (g:G) (h:Wg G->J:=by intro g;refine Aba ?_;refine Aan ?_;exact g.1):J:=h ⟨g⟩
theorem Ad2 {J G:Prop} (g:G) (h:Wg G->J:=by intro g;refine Ab7 ?_;refine Aag ?_;exact g.1):J:=h ⟨g⟩
theorem Ad3 {J G:Prop} (g:G) (h:Wg G->J:=by intro g;refine AE ?_;refine AM ?_;exact g.1):J:=h ⟨g⟩
theorem Ad4 {J G:Prop} (g:G) (h:Wg G->J:=by intro g;refine Aar ?_;refine AB ?_;exact g.1):J:=h ⟨g⟩
theorem Ad5 {J G:Prop} (g:G) (h:Wg G->J:=by intro g;refine Aa3 ?_;refine CM ?_;exact g.1):J:=h ⟨g⟩
theorem Ad6 {J G:Prop} (g:G) (h:Wg G->J:=by intro g;refine Acc ?_;refine AA ?_;exact g.1):J:=h ⟨g⟩
theorem Ad7 {J G:Prop} (g:G) (h:Wg G->J:=by intro g;refine Aav ?_;refine A6 ?_;exact g.1):J:=h ⟨g⟩
theorem Ad8 {J G:Prop} (g:G) (h:Wg G->J:=by intro g;refine Aav ?_;refine CC ?_;exact g.1):J:=h ⟨g⟩
theorem Ae {J G:Prop} (g:G) (h:Wg G->J:=by intro g;refine Ado ?_;refine Acs ?_;refine Aa9 ?_;exact g.1):J:=h ⟨g⟩
theorem Aea {J G:Prop} (g:G) (h:Wg G->J:=by intro g;refine Aam ?_;refine Aaw ?_;exact g.1):J:=h ⟨g⟩
theorem Aeb {J G:Prop} (g:G) (h:Wg G->J:=by intro g;refine BA rfl ?_;refine AA ?_;refine Aa1 ?_;exact g.1):J:=h ⟨g⟩
theorem Aec {J G:Prop} (g:G) (h:Wg G->J:=by intro g;refine Acw ?_;refine Aad ?_;exact g.1):J:=h ⟨g⟩
theorem Aed {J G:Prop} (g:G) (h:Wg G->J:=by intro g;refine Ac8 ?_;refine Adv ?_;exact g.1):J:=h ⟨g⟩
theorem Aee {J G:Prop} (g:G) (h:Wg G->J:=by intro g;refine Aab ?_;refine Abm ?_;exact g.1):J:=h ⟨g⟩
theorem Aef {J G:Prop} (g:G) (h:Wg G->J:=by intro g;refine A7 ?_;refine AP ?_;exact g.1):J:=h ⟨g⟩
theorem Aeg {J G:Prop} (g:G) (h:Wg G->J:=by intro g;refine BS ?_;refine AP ?_;exact g.1):J:=h ⟨g⟩
theorem Aeh {J G:Prop} (g:G) (h:Wg G->J:=by intro g;refine Acv ?_;refine A6 ?_;exact g.1):J:=h ⟨g⟩
theorem Aei {J G:Prop} (g:G) (h:Wg G->J:=by intro g;refine BX ?_;refine Aah ?_;exact g.1):J:=h ⟨g⟩
theorem Aej {J G:Prop} (g:G) (h:Wg G->J:=by intro g;refine CJ ?_;refine Aah ?_;exact g.1):J:=h ⟨g⟩
theorem Aek {J G:Prop} (g:G) (h:Wg G->J:=by intro g;refine AY ?_;refine Abf ?_;exact g.1):J:=h ⟨g⟩
theorem Ael {J G:Prop} (g:G) (h:Wg G->J:=by intro g;refine BH ?_;refine Ab1 ?_;exact g.1):J:=h ⟨g⟩
theorem Aem {J G:Prop} (g:G) (h:Wg G->J:=by intro g;refine Abk ?_;refine AS ?_;exact g.1):J:=h ⟨g⟩
theorem Aen {J G:Prop} (g:G) (h:Wg G->J:=by intro g;refine AU ?_;refine Abv ?_;exact g.1):J:=h ⟨g⟩
theorem Aeo {J G:Prop} (g:G) (h:Wg G->J:=by intro g;refine Abt ?_;refine Ac9 ?_;exact g.1):J:=h ⟨g⟩
theorem Aep {J G:Prop} (g:G) (h:Wg G->J:=by intro g;refine Abp ?_;refine Aam ?_;exact g.1):J:=h ⟨g⟩
theorem Aeq {J G:Prop} (g:G) (h:Wg G->J:=by intro g;refine Abj ?_;refine Abj ?_;exact g.1):J:=h ⟨g⟩
theorem Aer {J G:Prop} (g:G) (h:Wg G->J:=by intro g;refine Aa6 ?_;refine Acm ?_;exact g.1):J:=h ⟨g⟩
theorem Aes {J G:Prop} (g:G) (h:Wg G->J:=by intro g;refine Acg ?_;refine Acf ?_;exact g.1):J:=h ⟨g⟩
theorem Aeu {J G:Prop} (g:G) (h:Wg G->J:=by intro g;refine Aav ?_;refine Ab0 ?_;refine Acr ?_;exact g.1):J:=h ⟨g⟩
theorem Aev {J G:Prop} (g:G) (h:Wg G->J:=by intro g;refine Aaw ?_;refine Adm ?_;exact g.1):J:=h ⟨g⟩
theorem Aew {J G:Prop} (g:G) (h:Wg G->J:=by intro g;refine Abu ?_;refine Abm ?_;exact g.1):J:=h ⟨g⟩
theorem Aex {J G:Prop} (g:G) (h:Wg G->J:=by intro g;refine Aag ?_;refine Ab3 ?_;exact g.1):J:=h ⟨g⟩
end
variable {C:Cx} {D:List Deferred} {R H:List PH} {L:Env} {K:List It}
variable {dst:Option Tmp} {ty:TypeId} {pos:String} {aft:Array Edge} {g:Option (Nat × Bool)}
def sV:Nat->List (Int × Int)->List MapEntry
  | _,[]=>[]
  | i,kv::m=>⟨int kv.1,int kv.2,i⟩::sV (i+1) m
def oB (m:List (Int × Int)):Obj:=.map (sV 0 m).toArray m.length
def pZ (k:Int):List (Int × Int)->Option (Nat × Int)
  | []=>none
  | (a,v)::m=>if k=a then some (0,v) else (pZ k m).map (fun p=>(p.1+1,p.2))
def mC (k:Int) (m:List (Int × Int)):Option Int:=(pZ k m).map (·.2)
def nM (k v:Int):List (Int × Int)->List (Int × Int)
  | []=>[(k,v)]
  | (a,w)::m=>if k=a then (a,v)::m else (a,w)::nM k v m
theorem vK (k:Int):∀ (m:List (Int × Int)) (i j:Nat),Instr.findNow (.int .i64) (int k) (sV i m) j=some ((pZ k m).map (fun p=>(j+p.1,int p.2)))
  | [],i,j=>rfl
  | (a,v)::m,i,j=>by
    by_cases h:k=a
    · subst h
      simp [sV,Instr.findNow,Instr.sameNow,pZ,int]
    · have ih:=vK k m (i+1) (j+1)
      have hs:Instr.sameNow (.int .i64) (int k) (int a)=some false:=by simp [Instr.sameNow,int,h]
      simp only [sV,Instr.findNow,hs,pZ,if_neg h,ih,Option.map_map]
      congr 2
      funext p
      show (j+1+p.1,int p.2)=(j+(p.1+1),int p.2)
      rw [show j+1+p.1=j+(p.1+1) by omega]
theorem aEb {k v:Int}:∀ {m:List (Int × Int)} (i:Nat),pZ k m=none->sV i m ++ [⟨int k,int v,i+m.length⟩]=sV i (nM k v m)/\(nM k v m).length=m.length+1
  | [],i,_=>⟨rfl,rfl⟩
  | (a,w)::m,i,h=>by
    unfold pZ at h
    split at h
    · exact absurd h (by simp)
    · rename_i hk
      have h':pZ k m=none:=by simpa using h
      obtain ⟨e,l⟩:=aEb (k:=k) (v:=v) (m:=m) (i+1) h'
      simp only [nM,if_neg hk,sV,aG,aS,l,and_true,← e]
      congr 4
      omega
theorem aEc {k v:Int}:∀ {m:List (Int × Int)} (i n:Nat) (w:Int),pZ k m=some (n,w)->(sV i m).modify n (fun e=>{ e with key:=int k,val:=int v })=sV i (nM k v m)/\(nM k v m).length=m.length/\n<m.length/\((sV i m)[n]?).map (·.key)=some (int k)
  | [],i,n,w,h=>by simp [pZ] at h
  | (a,u)::m,i,n,w,h=>by
    unfold pZ at h
    split at h
    · rename_i hk
      subst hk
      simp at h
      obtain ⟨rfl,rfl⟩:=h
      simp [sV,nM]
    · rename_i hk
      cases hm:pZ k m with
      | none=>rw [hm] at h; simp at h
      | some p =>
        rw [hm] at h
        simp at h
        obtain ⟨rfl,rfl⟩:=h
        obtain ⟨e,l,l2,l3⟩:=aEc (k:=k) (v:=v) (m:=m) (i+1) p.1 p.2 hm
        simp only [nM,if_neg hk,sV,aS,l,List.modify_succ_cons,e]
        refine ⟨trivial,trivial,by omega,?_⟩
        simpa using l3
theorem FZ {t:TypeId}:iX C R H L ⟨dst,.makeMap t none,ty,pos,aft,g⟩ (fun v H'=>∃ b,v=.map (some b)/\H'=sng b (oB [])::H):=by
  refine ⟨fun a w hx hs next Q hn=>?_⟩
  refine iR (v:=.map (some w.heap.size)) (w':=w.alloc (oB [])) (by intro c; simp) ?_ (hn _ _ _ ⟨_,rfl,rfl⟩ (hs.alloc _))
  simp [execOp,Instr.makeMap,newObj]
  rfl
theorem qA {P:Program} {w:World} {kt:TypeId} {k:Int} (e:Bool) (n:Nat) (hkt:P.underlying kt=some (.int .i64)):(Instr.checkKey e (n+1) kt (int k)).run P w=.ok () w:=by
  simp [Instr.checkKey,Go.underlying,Sem.run,hkt,int]
theorem yV {P:Program} {w:World} {kt:TypeId} {k:Int} {l:List (Int × Int)} (hkt:P.underlying kt=some (.int .i64)):(Instr.findKey kt (int k) (sV 0 l)).run P w=.ok ((pZ k l).map (fun p=>(p.1,int p.2))) w:=by
  have hf:=vK k l 0 0
  simp only [bZ] at hf
  simp [Instr.findKey,Go.underlying,Sem.run,hkt,hf]
theorem aBn {P:Program} {w:World} {t kt et:TypeId} {b:Nat} {k:Int} {l:List (Int × Int)} {ok:Bool} (ht:P.underlying t=some (.map kt et)) (hkt:P.underlying kt=some (.int .i64)) (hz:kD P et=some (int 0)) (hg:w.heap[b]?=some (oB l)) :
    (Instr.lookup t (.map (some b)) (int k) ok).run P w=.ok (if ok then .tuple #[int ((mC k l).getD 0),.bool (mC k l).isSome] else int ((mC k l).getD 0)) w:=by
  have hf:=yV (P:=P) (w:=w) (k:=k) (l:=l) hkt
  have hc:=fun e=>qA (P:=P) (w:=w) (k:=k) e 9999 hkt
  simp only [Nat.reduceAdd] at hc;unfold mC
  cases hm:pZ k l with
  | none =>
    rw [hm] at hf
    simp [Instr.lookup,Go.underlying,Sem.run,ht,getObj,hg,oB,hc,hf,gI hz]
    done
  | some p =>
    rw [hm] at hf
    simp [Instr.lookup,Go.underlying,Sem.run,ht,getObj,hg,oB,hc,hf]
    done
def aM8 (N:Bs) (R H:List PH) (b:Nat) (l:List (Int × Int)):Prop:=∀ w,Sat N R H w->w.heap[b]?=some (oB l)
theorem sJ {N:Bs} {b:Nat} {l:List (Int × Int)} (m:Mem (sng b (oB l)) H):aM8 N R H b l:=fun w hs=>hs.h _ m.mem b _ (jT b _)
theorem aBo {N:Bs} {b:Nat} {l:List (Int × Int)} (m:Mem (sng b (oB l)) R):aM8 N R H b l:=fun w hs=>hs.r _ m.mem b _ (jT b _)
theorem D3 {x y:Operand} {t kt et:TypeId} {b:Nat} {k:Int} {l:List (Int × Int)} (h:fM L x=some (.map (some b))) (hk:fM L y=some (int k)) (ht:C.P.underlying t=some (.map kt et)) (hkt:C.P.underlying kt=some (.int .i64)) (hz:kD C.P et=some (int 0)) (hm:aM8 C.N R H b l) :
    fO C R H L ⟨dst,.lookup t x y false,ty,pos,aft,g⟩ (int ((mC k l).getD 0)):=
  ⟨by intro c; simp,fun a w hx hs=>by
    have e1:=hx x (by simp [Op.operands]) _ h
    have e2:=hx y (by simp [Op.operands]) _ hk
    simp [execOp,e1,e2,aBn ht hkt hz (hm w hs)]⟩
theorem EX {x y:Operand} {t kt et:TypeId} {b:Nat} {k:Int} {l:List (Int × Int)} (h:fM L x=some (.map (some b))) (hk:fM L y=some (int k)) (ht:C.P.underlying t=some (.map kt et)) (hkt:C.P.underlying kt=some (.int .i64)) (hz:kD C.P et=some (int 0)) (hm:aM8 C.N R H b l) :
    fO C R H L ⟨dst,.lookup t x y true,ty,pos,aft,g⟩ (.tuple #[int ((mC k l).getD 0),.bool (mC k l).isSome]):=
  ⟨by intro c; simp,fun a w hx hs=>by
    have e1:=hx x (by simp [Op.operands]) _ h
    have e2:=hx y (by simp [Op.operands]) _ hk
    simp [execOp,e1,e2,aBn ht hkt hz (hm w hs)]⟩
theorem aC6 {P:Program} {w:World} {t kt et:TypeId} {b:Nat} {k v:Int} {l:List (Int × Int)} (ht:P.underlying t=some (.map kt et)) (hkt:P.underlying kt=some (.int .i64)) (hg:w.heap[b]?=some (oB l)) :
    (Instr.mapUpdate t (.map (some b)) (int k) (int v)).run P w=.ok () { w with heap:=w.heap.setIfInBounds b (oB (nM k v l)) }:=by
  have hf:=yV (P:=P) (w:=w) (k:=k) (l:=l) hkt
  have hc:=fun e=>qA (P:=P) (w:=w) (k:=k) e 9999 hkt
  simp only [Nat.reduceAdd] at hc
  cases hm:pZ k l with
  | none =>
    rw [hm] at hf
    obtain ⟨e,n⟩:=aEb (k:=k) (v:=v) 0 hm
    have e2:oB (nM k v l)=.map ((sV 0 l).toArray.push ⟨int k,int v,l.length⟩) (l.length+1):=by
      unfold oB; rw [n,← e]; simp
    rw [e2]
    simp [Instr.mapUpdate,Go.underlying,Sem.run,ht,getObj,hg,oB,hc,hf,setObj]
    done
  | some p =>
    rw [hm] at hf
    obtain ⟨e,n,n2,n3⟩:=aEc (k:=k) (v:=v) 0 p.1 p.2 hm
    have e2:oB (nM k v l)=.map ((sV 0 l).toArray.modify p.1 (fun e=>{ e with key:=int k,val:=int v })) l.length:=by
      unfold oB; rw [n,← e]; simp
    rw [e2]
    have hsb:Instr.sameBits 10000 (int k) (int k)=true:=by simp [Instr.sameBits,int]
    have hks:(Instr.keyThatStays (int k) (int k)).run P w=.ok (int k) w:=by simp [Instr.keyThatStays,hsb]
    simp [Instr.mapUpdate,Go.underlying,Sem.run,ht,getObj,hg,oB,hc,hf,setObj,n3,hks]
    done
theorem EI {x y z:Operand} {t kt et:TypeId} {b:Nat} {k v:Int} {l:List (Int × Int)} {H':List PH} (h:fM L x=some (.map (some b))) (hk:fM L y=some (int k)) (hv:fM L z=some (int v)) (ht:C.P.underlying t=some (.map kt et)) (hkt:C.P.underlying kt=some (.int .i64)) (hm:gU (sng b (oB l)) H H') :
    iX C R H L ⟨dst,.mapUpdate t x y z,ty,pos,aft,g⟩ (fun u H2=>u=undef/\H2=sng b (oB (nM k v l))::H'):=by
  refine ⟨fun a w hx hs next Q hnx=>?_⟩
  have hg:=hs.own hm
  have e1:=hx x (by simp [Op.operands]) _ h
  have e2:=hx y (by simp [Op.operands]) _ hk
  have e3:=hx z (by simp [Op.operands]) _ hv
  refine pM (w':={ w with heap:=w.heap.setIfInBounds b (oB (nM k v l)) }) (by intro c; simp) ?_ (hnx _ _ _ ⟨rfl,rfl⟩ (hs.turn hm ?_ ?_ ?_))
  · simp [execOp,e1,e2,e3,aC6 ht hkt hg]
  · simp
  · have:b<w.heap.size:=by
      rw [bP] at hg; exact hg.1
    simp [this]
  · intro k hk; simp [cG,Ne.symm hk]
end Go.Eng
namespace Go.Step
structure Ct where
  f:Int
  t:Int
  s:Int
  e:Int
  r:Int
  g:Int
  l:Int
def aBp (c:Ct):Prop:=(0<=c.f/\c.f<=15)/\(0<=c.t/\c.t<=15)/\(1<=c.r/\c.r<=1000)/\(1<=c.g/\c.g<=1048576)/\(0<=c.l/\c.l<=16)
instance (c:Ct):Decidable (aBp c):=inferInstanceAs (Decidable (_/\_))
def iC (c:Ct):Int:=if ¬ aBp c then 2 else if c.f=c.t then 1 else if c.s<0\/c.e<=c.s\/1099511627776-2*c.g<c.e then 2 else 0
def ovl (c d:Ct):Bool:=decide (iC c=0/\iC d=0/\c.f=d.f/\c.t=d.t/\c.s<d.e/\d.s<c.e)
theorem vL {c:Ct} (h:iC c=0):0<=c.s/\c.s<c.e/\c.e<=1099511627776:=by
  unfold iC at h
  split at h
  · omega
  · rename_i hk
    split at h
    · omega
    · split at h
      · omega
      · unfold aBp at hk
        omega
def gK (e:Nat->Int):Nat->Int
  | 0=>0
  | n+1=>if gK e n≠0 then gK e n else e n
theorem lJ {e:Nat->Int} {k:Nat} (h:gK e k=0) (h2:e k=0):gK e (k+1)=0:=by simp [gK,h,h2]
theorem jF {e:Nat->Int} {k:Nat} (h:gK e k=0) (h2:e k≠0):∀ n,k<n->gK e n=e k
  | 0,hn=>by omega
  | n+1,hn=>by
    by_cases hk:k=n
    · subst hk; simp [gK,h]
    · have ih:=jF h h2 n (by omega)
      simp [gK,ih,h2]
theorem jO {e:Nat->Int}:∀ {n:Nat},gK e n=0->∀ k,k<n->e k=0
  | 0,_,k,hk=>by omega
  | n+1,h,k,hk=>by
    unfold gK at h
    split at h
    · contradiction
    · rename_i hc
      have hc':gK e n=0:=Decidable.not_not.1 hc
      by_cases e':k=n
      · subst e'; exact h
      · exact jO hc' k (by omega)
theorem uA {e:Nat->Int}:∀ {n:Nat},(∀ k,k<n->e k=0)->gK e n=0
  | 0,_=>rfl
  | n+1,h=>lJ (uA (fun k hk=>h k (by omega))) (h n (by omega))
def aF0 (qs:List Int) (i:Nat):Int:=match qs[i]? with
  | some q=>if q<0\/1073741824<q then 2 else 0
  | none=>0
def ctE (n:Nat) (cs:List Ct) (i:Nat):Int:=match cs[i]? with
  | some c=>if iC c≠0 then iC c else if (n:Int)<=c.f\/(n:Int)<=c.t then 2 else if (cs.take i).any (ovl c) then 14 else 0
  | none=>0
def gD (qs:List Int) (cs:List Ct):Int:=
  if qs.length<1\/16<qs.length\/64<cs.length then 4 else if gK (aF0 qs) qs.length≠0 then gK (aF0 qs) qs.length else gK (ctE qs.length cs) cs.length
end Go.Step
namespace Go.Proofs.YtnijkofdlepfjaaGreat
open Go.Eng Go.Step
set_option maxRecDepth 100000
set_option maxHeartbeats 64000000
def zL (c:Ct):List Value:=[int c.f,int c.t,int c.s,int c.e,int c.r,int c.g,int c.l]
theorem iU (c:Ct):(zL c).length=7:=rfl
theorem yW (a l h:Int):Ans Tryz.prog (fv 76) [int a,int l,int h] [] (fun r=>(r=.bool true/\l<=a/\a<=h)\/(r=.bool false/\¬ (l<=a/\a<=h))):=by
 refine A8 Tryz.func76 Tryz.ntmps76 fun N β=>?_
 by_cases h1:l<=a
 ·by_cases h2:a<=h
  ·refine AC ?_
   refine AA ?_;refine Adz ?_;refine DQ ?_;refine Abm ?_;refine EA ?_;refine Ac0 ?_;exact AV ⟨rfl,.inl ⟨rfl,h1,h2⟩⟩
  ·refine AC ?_
   refine AA ?_;refine Adz ?_;refine DQ ?_;refine Abm ?_;refine DC ?_;refine Ac0 ?_
   exact AV ⟨rfl,.inr ⟨rfl,by omega⟩⟩
 ·refine AC ?_
  refine AA ?_;refine Adz ?_;refine CP ?_;refine Acd ?_;refine Acf ?_
  exact AV ⟨rfl,.inr ⟨rfl,by omega⟩⟩
theorem nN (c:Ct):Ans Tryz.prog (fv 23) [.agg #[int c.f,int c.t,int c.s,int c.e,int c.r,int c.g,int c.l]] [] (fun r=>r=int (iC c)):=by
 refine A8 Tryz.func23 Tryz.ntmps23 fun N β=>?_
 repeat' (first
  | (refine AB ?_)
  | (refine AD ?_)
  | (refine AF ?_)
  | (refine AG ?_)
  | (refine AY ?_)
  | (refine AT ?_)
  | (refine BX ?_)
  | (refine CC ?_)
  | (refine EY ?_)
  | (refine AC ?_)
  | (refine AA ?_)
  | (refine AE ?_)
  | (refine AK ?_)
  | (refine AQ rfl ?_)
  | (refine AJ rfl ?_)
  | (refine AL rfl rfl rfl ?_)
  | (focus ((refine BT (yW _ _ _) rfl rfl rdZ rfl rfl ?_; rintro v (⟨rfl,h⟩|⟨rfl,h⟩))))
  | (refine B8 fun b=>?_)
  | (focus ((refine DR rfl rfl (aP3 _ _) rfl rfl (fun h=>?_) (fun h=>?_))))
  | (focus ((refine DR rfl rfl (aAm _ _) rfl rfl (fun h=>?_) (fun h=>?_))))
  | (focus ((refine DR rfl rfl (aKj _ _) rfl rfl (fun h=>?_) (fun h=>?_))))
  | fail)
 all_goals (refine A2 (qR rfl rfl) fQ fK ⟨rfl,?_⟩)
 all_goals (unfold iC aBp; (repeat' split) <;> first|rfl|(exfalso; omega))
theorem aF1 (c d:Ct):Ans Tryz.prog (fv 26) [.agg #[int c.f,int c.t,int c.s,int c.e,int c.r,int c.g,int c.l],.agg #[int d.f,int d.t,int d.s,int d.e,int d.r,int d.g,int d.l]] [] (fun r=>r=.bool (ovl c d)):=by
 refine A8 Tryz.func26 Tryz.ntmps26 fun N β=>?_
 have hc:=nN c
 have hd:=nN d
 have sc:=@vL c
 have sd:=@vL d
 unfold ovl
 generalize iC c=x at hc sc
 generalize iC d=y at hd sd
 repeat' (first
  | (refine AB ?_)
  | (refine AD ?_)
  | (refine AF ?_)
  | (refine AG ?_)
  | (refine AY ?_)
  | (refine AT ?_)
  | (refine AI ?_)
  | (refine GS ?_)
  | (refine EN ?_)
  | (refine AC ?_)
  | (refine AA ?_)
  | (refine AE ?_)
  | (refine AK ?_)
  | (refine AQ rfl ?_)
  | (refine AJ rfl ?_)
  | (refine AL rfl rfl rfl ?_)
  | (focus ((refine BT hc rfl rfl rdZ rfl rfl ?_; rintro _ rfl)))
  | (focus ((refine BT hd rfl rfl rdZ rfl rfl ?_; rintro _ rfl)))
  | (refine B8 fun b=>?_)
  | (focus ((refine DR rfl rfl (aWa _ _) rfl rfl (fun h=>?_) (fun h=>?_))))
  | (focus ((refine DR rfl rfl (aAm _ _) rfl rfl (fun h=>?_) (fun h=>?_))))
  | fail)
 all_goals (refine A2 (qR rfl rfl) fQ fK ⟨rfl,?_⟩)
 all_goals (congr 1; first|exact (decide_eq_false (by omega)).symm|exact (decide_eq_true (by omega)).symm|(apply decide_eq_decide.2; constructor <;> intro <;> omega))
theorem aI1 (ρ:PH) (Rs:List PH) (v fn:Value) (l:List Ct) (p:Ct->Bool) (hv:SlE zL 7 ρ v l) (hl:l.length<=9223372036854775807) (hfn:∀ (i:Nat) (x:Ct),l[i]?=some x->Ans Tryz.prog fn [.agg (zL x).toArray] Rs (fun r=>r=.bool (p x))) :
  Ans Tryz.prog (fv 77) [v,fn] (ρ::Rs) (fun r=>(∃ (i:Nat) (x:Ct),l[i]?=some x/\p x=true/\(∀ (j:Nat) (y:Ct),j<i->l[j]?=some y->p y=false)/\r=int i)\/((∀ x∈l,p x=false)/\r=int (-1))):=by
 obtain ⟨q,c,rfl,hr⟩:=hv.val iU
 refine A8 Tryz.func77 Tryz.ntmps77 fun N β=>?_
 refine Adf ?_
 refine BE [0,1,7] (0:Nat) (fun k=>k<=l.length/\∀ (i:Nat) (x:Ct),i<k->l[i]?=some x->p x=false) (fun k=>[(8,int k)]) (fun _=>[]) (fun k=>l.length-k) fT ⟨by omega,fun i x h=>by omega⟩ fP fK ?_
 rintro k ⟨hk,hI⟩
 by_cases hlt:k<l.length
 ·have hx:=aA hlt
  obtain ⟨b1,o1,rfl,hrd⟩:=hr k _ hx
  have hrd2:RdN ρ b1 (o1+k*7) (zL l[k]):=hrd
  have hf:=hfn k _ hx
  refine Ae ?_
  refine BT hf rfl rfl (fun τ hτ=>.inl (by simp [hτ])) rfl rfl ?_
  rintro _ rfl
  cases hp:p l[k] with
  | true =>
   refine Acu ?_;exact AV ⟨rfl,.inl ⟨k,l[k],hx,hp,hI,rfl⟩⟩
  | false =>
   refine Ace ?_
   refine AZ (k+1) ⟨by omega,fun i x hi hix=>?_⟩ (by omega) fP fK
   by_cases e:i=k
   ·subst e; rw [hx] at hix; injection hix with hix; rw [← hix]; exact hp
   ·exact hI i x (by omega) hix
 ·refine AC ?_
  refine AA ?_;refine Abi ?_;refine Aam ?_
  refine A2 (qR rfl rfl) fQ fK ⟨rfl,.inr ⟨fun x hx=>?_,rfl⟩⟩
  obtain ⟨i,hi,rfl⟩:=bB hx
  exact hI i _ (by omega) (aA hi)
theorem aLi (ρ:PH) (Rs:List PH) (v fn:Value) (l:List Ct) (p:Ct->Bool) (hv:SlE zL 7 ρ v l) (hl:l.length<=9223372036854775807) (hfn:∀ (i:Nat) (x:Ct),l[i]?=some x->Ans Tryz.prog fn [.agg (zL x).toArray] Rs (fun r=>r=.bool (p x))) :
  Ans Tryz.prog (fv 24) [v,fn] (ρ::Rs) (fun r=>r=.bool (l.any p)):=by
 have hix:=aI1 ρ Rs v fn l p hv hl hfn
 obtain ⟨q,c,rfl,hr⟩:=hv.val iU
 refine A8 Tryz.func24 Tryz.ntmps24 fun N β=>?_
 refine Aea ?_
 refine BT hix rfl rfl (fun τ hτ=>.inl (bS _ hτ)) rfl rfl ?_
 rintro _ (⟨i,x,hi,hp,_,rfl⟩|⟨hall2,rfl⟩)
 ·have hfl:l.any p=true:=eW.2 ⟨x,aF hi,hp⟩
  refine DQ ?_;refine Aaa ?_
  exact AV ⟨rfl,by rw [hfl]⟩
 ·have hfl:l.any p=false:=eP.2 (fun x hx=>by rw [hall2 x hx]; simp)
  refine CP ?_;refine Aaa ?_
  exact AV ⟨rfl,by rw [hfl]⟩
theorem SlE.pre {α:Type} {enc:α->List Value} {s:Nat} {ρ:PH} {p:Option Addr} {n c:Nat} {l:List α} (h:SlE enc s ρ (.slice p n c) l) (he:∀ x,(enc x).length=s) {k:Nat} (hk:k<=l.length):SlE enc s ρ (.slice (oH p c 0 s) k c) (l.take k):=by
 have hlen:(l.take k).length=k:=by rw [aL]; omega
 have hfl:(l.take k).flatMap enc ++ (l.drop k).flatMap enc=l.flatMap enc:=by rw [← aX,bH]
 have hll:((l.take k).flatMap enc).length=k*s:=by
  have:=kT he (l.take k)
  rwa [hlen] at this
 unfold SlE;rw [hlen];refine ⟨hll,?_⟩
 by_cases h0:k=0
 ·subst h0; exact .inl ⟨rfl,_,_,rfl⟩
 ·obtain ⟨_,⟨hn,_⟩|⟨b,o,c',e,hr⟩⟩:=h
  ·omega
  ·simp only [aN] at e
   obtain ⟨rfl,rfl,rfl⟩:=e
   refine .inr ⟨b,o,c,?_,fun j u hu=>hr j u ?_⟩
   ·unfold oH
    split
    ·rfl
    ·simp [Addr.add]
   ·rw [← hfl,cM (by have:=(aC.1 hu).1; exact this)]
    exact hu
theorem zM (bt:Nat) (c d:Ct):Ans Tryz.prog (.func (.func 25) #[] #[.pointer (some ⟨bt,0,none⟩)]) [.agg (zL d).toArray] [sng bt (.cells #[int c.f,int c.t,int c.s,int c.e,int c.r,int c.g,int c.l] 71 (0,0))] (fun r=>r=.bool (ovl c d)):=by
 refine CU [.pointer (some ⟨bt,0,none⟩)] Tryz.func25 Tryz.ntmps25 fun N β=>?_
 have hb:RdN (sng bt (.cells #[int c.f,int c.t,int c.s,int c.e,int c.r,int c.g,int c.l] 71 (0,0))) bt 0 [int c.f,int c.t,int c.s,int c.e,int c.r,int c.g,int c.l]:=fun j u hu=>by rw [kE,bZ]; simpa using hu
 refine Aa ?_
 refine B8 fun b=>?_
 refine Aaa ?_;refine Abs ?_;refine A5 (aF1 c d) ?_;refine Aaa ?_;exact AV ⟨rfl,rfl⟩
theorem aM9 {qs:List Int} {i:Nat} {q:Int} (h:qs[i]?=some q):aF0 qs i=if q<0\/1073741824<q then 2 else 0:=by unfold aF0; rw [h]
theorem aSn {n:Nat} {cs:List Ct} {i:Nat} {c:Ct} (h:cs[i]?=some c):ctE n cs i=if iC c≠0 then iC c else if (n:Int)<=c.f\/(n:Int)<=c.t then 2 else if (cs.take i).any (ovl c) then 14 else 0:=by unfold ctE; rw [h]
abbrev jW (ρ:PH) (v:Value) (l:List Ct):Prop:=SlE zL 7 ρ v l
theorem oC {ρ:PH} {p:Option Addr} {l:List Ct} (h:nH zL 7 ρ p l) {i:Nat} {c:Ct} (hx:l[i]?=some c) :
  ∃ b o,p=some ⟨b,o,none⟩/\RdN ρ b (o+i*7) [int c.f,int c.t,int c.s,int c.e,int c.r,int c.g,int c.l]:=h i c hx
theorem iD (ρ τ:PH) (pq pc:Option Addr) (kq kc:Nat) (qs:List Int) (cs:List Ct) (hq:gC ρ (.slice pq qs.length kq) qs) (hc:jW τ (.slice pc cs.length kc) cs) (hcap:cs.length<=kc) (lq:qs.length<=9223372036854775807) (lc:cs.length<=9223372036854775807) :
  Ans Tryz.prog (fv 7) [.agg #[.slice pq qs.length kq,.slice pc cs.length kc]] [ρ,τ] (fun r=>r=int (gD qs cs)):=by
 have hc2:=hc
 obtain ⟨_,_,e,hrq⟩:=hq.val Eng.encI_len
 simp only [aN] at e
 obtain ⟨rfl,_,rfl⟩:=e
 obtain ⟨_,_,e,hrc⟩:=hc.val iU
 simp only [aN] at e
 obtain ⟨rfl,_,rfl⟩:=e
 refine A8 Tryz.func7 Tryz.ntmps7 fun N β=>?_
 refine Aa ?_
 refine BF fun b1 bx175=>?_
 have c10:=rdC bx175 0
 have c11:=rdC bx175 1
 unfold gD
 by_cases hl1:qs.length<1
 ·rw [if_pos (.inl hl1)]
  refine Aeh ?_;refine Abv ?_;refine BM ?_;refine Abd ?_;refine AY ?_;refine Acw ?_;refine AY ?_;refine Ab6 ?_;exact AV ⟨rfl,rfl⟩
 by_cases hl2:16<qs.length
 ·rw [if_pos (.inr (.inl hl2))]
  refine Aeh ?_;refine Abv ?_;refine BD ?_;refine Aal ?_;refine C1 ?_;refine AT ?_;refine Acw ?_;refine AY ?_;refine Ab6 ?_;exact AV ⟨rfl,rfl⟩
 by_cases hl3:64<cs.length
 ·rw [if_pos (.inr (.inr hl3))]
  refine Aeh ?_;refine Abv ?_;refine BD ?_;refine Aal ?_;refine B7 ?_;refine Ac1 ?_;refine A6 ?_;refine C1 ?_;refine AT ?_;refine Ab6 ?_;exact AV ⟨rfl,rfl⟩
 rw [if_neg (by omega)]
 refine Aeh ?_;refine Abv ?_;refine BD ?_;refine Aal ?_;refine B7 ?_;refine Ac1 ?_;refine Ade ?_;refine Ac4 ?_;refine Aan ?_;refine Abh ?_
 refine BE [1,3,25,26] (0:Nat) (fun k=>k<=qs.length/\gK (aF0 qs) k=0) (fun k=>[(27,int k)]) (fun _=>[]) (fun k=>qs.length-k) fT ⟨by omega,rfl⟩ fP fK ?_
 rintro k ⟨hk,hI⟩
 by_cases hlt:k<qs.length
 ·have hx:=aA hlt
  obtain ⟨b2,o2,rfl,g1⟩:=hrq.int hx
  have hE:=aM9 hx
  generalize qs[k]=x at g1 hE
  by_cases hbad:x<0\/1073741824<x
  ·rw [if_pos hbad] at hE
   have hh:=jF hI (by rw [hE]; decide) _ hlt
   rw [hE] at hh
   rw [if_pos (by rw [hh]; decide),hh]
   by_cases hneg:x<0
   ·refine AC ?_
    refine AA ?_;refine Aa4 ?_;refine Aa ?_;refine Ac9 ?_;refine Abq ?_;refine BM ?_;refine Abd ?_;refine AY ?_;refine Ab6 ?_;exact AV ⟨rfl,rfl⟩
   ·refine AC ?_
    refine AA ?_;refine Aa4 ?_;refine Aa ?_;refine Ac9 ?_;refine Abq ?_;refine BD ?_;refine Aal ?_;refine C1 ?_;refine AT ?_;refine Ab6 ?_;exact AV ⟨rfl,rfl⟩
  ·rw [if_neg hbad] at hE
   refine Aeo ?_;refine Abq ?_;refine BD ?_;refine Aal ?_;refine B7 ?_;refine Abe ?_;refine Aa3 ?_
   exact AZ (k+1) ⟨by omega,lJ hI hE⟩ (by omega) fP fK
 have hke:k=qs.length:=by omega
 subst hke
 rw [if_neg (by rw [hI]; simp)]
 refine Abp ?_;refine AC ?_;refine Aan ?_;refine Abh ?_
 refine BE [1,3,39,40] (0:Nat) (fun k=>k<=cs.length/\gK (ctE qs.length cs) k=0) (fun k=>[(41,int k)]) (fun _=>[]) (fun k=>cs.length-k) fT ⟨by omega,rfl⟩ fP fK ?_
 clear hI hk hlt;rintro k ⟨hk,hI⟩
 by_cases hlt:k<cs.length
 ·have hx:=aA hlt
  obtain ⟨b2,o2,rfl,hrd⟩:=oC hrc hx
  have hE:=aSn (n:=qs.length) hx
  generalize cs[k]=c at hrd hE
  refine Aa8 ?_;refine Aab ?_;refine Aa9 ?_
  refine A3 fun b=>?_
  refine AD ?_;refine Adb ?_;refine Aar ?_
  revert b; intro b7
  skip
  refine A5 (nN c) ?_
  by_cases h0:iC c=0
  rotate_left
  ·rw [if_pos h0] at hE
   have hh:=jF hI (by rw [hE]; exact h0) _ hlt
   rw [hh,hE]
   generalize iC c=y at h0
   refine Abq ?_;refine C5 ?_;refine Acu ?_;exact AV ⟨rfl,rfl⟩
  rw [if_neg (by omega)] at hE
  by_cases hfar:(qs.length:Int)<=c.f\/(qs.length:Int)<=c.t
  ·rw [if_pos hfar] at hE
   have hh:=jF hI (by rw [hE]; decide) _ hlt
   rw [hh,hE]
   by_cases hf1:(qs.length:Int)<=c.f
   ·refine AD ?_
    refine AE ?_;refine Aab ?_;refine Abn ?_;refine AC ?_;refine Acm ?_;refine DQ ?_;refine Acw ?_;refine AY ?_;refine Ab6 ?_;exact AV ⟨rfl,rfl⟩
   ·refine AD ?_
    refine AE ?_;refine Aab ?_;refine Abn ?_;refine AC ?_;refine Acm ?_;refine CP ?_;refine Aas ?_;refine AB ?_;refine DQ ?_;refine AT ?_;refine Ab6 ?_;exact AV ⟨rfl,rfl⟩
  rw [if_neg hfar] at hE;refine Ac7 ?_;refine AC ?_;refine Acm ?_;refine CP ?_;refine Aas ?_;refine AB ?_;refine CP ?_;refine Abe ?_;refine Acm ?_;refine EF ?_;refine BR ?_
  refine A5 (aLi τ [sng b7 (.cells #[int c.f,int c.t,int c.s,int c.e,int c.r,int c.g,int c.l] 71 (0,0))] _ _ (cs.take k) (ovl c) (SlE.pre hc2 iU hk) (by rw [aL]; omega) (fun i x _=>zM b7 c x)) ?_
  cases ho:(cs.take k).any (ovl c) with
  | true =>
   rw [ho,if_pos rfl] at hE
   have hh:=jF hI (by rw [hE]; decide) _ hlt
   rw [hh,hE];refine Ab6 ?_;exact AV ⟨rfl,rfl⟩
  | false =>
   rw [ho,if_neg (by simp)] at hE
   refine Ace ?_
   exact AZ (k+1) ⟨by omega,lJ hI hE⟩ (by omega) fP fK
 have hke:k=cs.length:=by omega
 subst hke;rw [hI];refine Aep ?_;exact AV ⟨rfl,rfl⟩
end Go.Proofs.YtnijkofdlepfjaaGreat
namespace Go.Step
structure Lv where
  a:Int
  v:Int
  deriving DecidableEq,Inhabited
def aSo (l:Lv):Prop:=l.a<0\/1099511627776<l.a\/l.v < -1125899906842624\/1125899906842624<l.v
instance (l:Lv):Decidable (aSo l):=by unfold aSo; infer_instance
def aOv (pa pv:Int):List Lv->Int
  | []=>0
  | l::f=>if aSo l then 2 else if l.a<=pa\/l.v=pv then 9 else aOv l.a l.v f
def Asc (pa:Int):List Lv->Prop
  | []=>True
  | l::f=>pa<l.a/\l.a<=1099511627776/\(-1125899906842624<=l.v/\l.v<=1125899906842624)/\Asc l.a f
theorem aI2:∀ (f:List Lv) (pa pv:Int),aOv pa pv f=0->Asc pa f
  | [],_,_,_=>trivial
  | l::f,pa,pv,h=>by
    simp only [aOv] at h
    split at h
    · simp at h
    · rename_i h1
      split at h
      · simp at h
      · rename_i h2
        unfold aSo at h1
        exact ⟨by omega,by omega,⟨by omega,by omega⟩,aI2 f l.a l.v h⟩
def vat (cur:Int):List Lv->Int->Int
  | [],_=>cur
  | l::f,t=>if l.a<=t then vat l.v f t else cur
def val (f:List Lv) (t:Int):Int:=vat 0 f t
theorem uB:∀ (f g:List Lv) (cur t:Int),(∀ l∈f,l.a<=t)->vat cur (f ++ g) t=vat (vat cur f t) g t
  | [],g,cur,t,_=>rfl
  | l::f,g,cur,t,h=>by
    simp only [aG,vat]
    rw [if_pos (h l (by simp)),if_pos (h l (by simp))]
    exact uB f g l.v t (fun m hm=>h m (by simp [hm]))
theorem aI3:∀ (f:List Lv) (cur t:Int),(∀ l,f.head?=some l->t<l.a)->vat cur f t=cur
  | [],_,_,_=>rfl
  | l::f,cur,t,h=>by
    simp only [vat]
    rw [if_neg (by have:=h l rfl; omega)]
theorem aSp (f:List Lv) (l:Lv) (cur t:Int) (h:∀ m∈f,m.a<=t) (hl:l.a<=t):vat cur (f ++ [l]) t=l.v:=by
  rw [uB f [l] cur t h]
  simp [vat,hl]


def aI4 (pa:Int):List Lv->Prop
  | []=>True
  | l::f=>pa<l.a/\l.a<=1099511627776/\aI4 l.a f
theorem Asc.t:∀ {f:List Lv} {p:Int},Asc p f->aI4 p f
  | [],_,_=>trivial
  | _::_,_,h=>⟨h.1,h.2.1,h.2.2.2.t⟩
theorem aI4.gt:∀ {f:List Lv} {p:Int},aI4 p f->∀ l∈f,p<l.a/\l.a<=1099511627776
  | [],_,_,l,hl=>by simp at hl
  | m::f,p,h,l,hl=>by
    simp at hl
    rcases hl with rfl|hl
    · exact ⟨h.1,h.2.1⟩
    · have h9:=h.2.2.gt l hl
      have:=h.1
      exact ⟨by omega,h9.2⟩
end Go.Step
