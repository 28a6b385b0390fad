/- A graph as it lies in memory: dates and parents. -/
import Derived.Test.YtopngokkgogolaaGreatDoorKKHR
import Derived.Test.YtopngokkgogolaaGreatDoorKKRW
set_option linter.unusedVariables false
set_option linter.unusedSimpArgs false
open List renaming length_map → Qa0
namespace Go.Proofs.Tryz
open Go.Shelf Go.RowKit Go.VS Go Go.Sort
abbrev V8:TT:=.pair (.node .brw .leaf) (.pair .leaf (.node .brw .leaf))
abbrev Aa3(g:List Ai):AV:=.sl .brw AU.size (g.map (AU.enc V8))
structure Ahm(w:World)(pa:Option Addr)(g:List Ai):Prop where
 at_:∀k,k<g.length→∃b off,pa=some ⟨b,off,none⟩∧b<w.heap.size∧∃a c,w.cell? ⟨b,off+k*3,none⟩=some (.slice a (A6 g (k:Int)).length c)∧Mj w a (A6 g (k:Int))
theorem Aa9{g:List Ai}{C:Ctx}{w:World}{v:Value}{f:List Nat}(h:RV C w (Aa3 g) v f):∃pa ca,v=.slice pa g.length ca∧GM w pa (g.map fun c=>c.2.1)∧Ahm w pa g∧∀p,pa=some p→g≠[]→p.block<w.heap.size:=by
 rcases Sw h with⟨hn,a,c,rfl⟩|⟨b,off,c,rfl,hlt,hat⟩
 ·have hn:g=[]:=List.map_eq_nil_iff.1 hn;subst hn;exact⟨a,c,rfl,⟨fun k hk=>absurd hk (Nat.not_lt_zero _)⟩,⟨fun k hk=>absurd hk (Nat.not_lt_zero _)⟩,fun _ _ h=>absurd rfl h⟩
 ·have hcell:∀k,k<g.length→∀j a,(AU.enc V8 (g.getD k ([],(0,[]))))[j]?=some a→∃u f',w.cell? ⟨b,off+(k*3+j),none⟩=some u∧RV C w a u f':=by
   intro k hk j a ha;refine hat _ a ?_
   have hj:j<3:=by
    have:=(List.getElem?_eq_some_iff.1 ha).1;simpa[BT.enc]using this
   rw[LF (enc:=AU.enc V8) (k:=3) (fun x=>rfl) g (x:=g.getD k ([],(0,[]))) (by rw[getD_eq hk];exact List.getElem?_eq_getElem hk) hj]
   exact ha
  refine⟨some ⟨b,off,none⟩,c,by rw[Qa0],⟨fun k hk=>?_⟩,⟨fun k hk=>?_⟩,fun p hp _=>by cases hp;exact hlt⟩
  ·rw[Qa0]at hk;obtain⟨u,f',hu,hr⟩:=hcell k hk 1 (.lit (.int .i64 (g.getD k ([],(0,[]))).2.1)) rfl;have:=RV.Dj hr;subst this;refine⟨b,off,rfl,hlt,?_⟩;rw[show off+k*3+1=off+(k*3+1)by omega,hu];rw[getD_eq (l:=g.map fun c=>c.2.1) (by rw[Qa0];exact hk),List.getElem_map,getD_eq hk]
  ·obtain⟨u,f',hu,hr⟩:=hcell k hk 0 (.sl .brw 1 ((g.getD k ([],(0,[]))).1.map ((BT.int .i64).enc .leaf))) rfl;obtain⟨a,c',hv,his⟩:=Wo hr;subst hv
   have hp:A6 g (k:Int)=(g.getD k ([],(0,[]))).1:=by unfold A6;rw[Int.toNat_natCast]
   rw[hp];exact⟨b,off,rfl,hlt,a,c',by rw[show off+k*3=off+(k*3+0)by omega];exact hu,his⟩
end Go.Proofs.Tryz
