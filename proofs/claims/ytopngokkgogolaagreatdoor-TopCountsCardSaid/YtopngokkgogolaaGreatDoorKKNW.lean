/- intern.number: where its rows lie. -/
import Derived.Test.YtopngokkgogolaaGreatDoorKKNU
import Derived.Test.YtopngokkgogolaaGreatDoorKKRW
set_option linter.unusedVariables false
set_option linter.unusedSimpArgs false
open List renaming length_set → Qa0
namespace Go.Proofs.Tryz
open Go.Shelf Go.RowKit Go.VS Go Go.Sort Go.Maps
structure Ahn(w:World)(a:Option Addr)(l:List Bs):Prop where
 at_:∀(k:Nat) (s:Bs),l[k]?=some s→∃b off,a=some ⟨b,off,none⟩∧b<w.heap.size∧w.cell? ⟨b,off+k,none⟩=some (.string ⟨s.toArray⟩)
theorem Ahn.below{w w':World}{a:Option Addr}{l:List Bs}(h:Ahn w a l)(hb:Below w.heap.size w w'):Ahn w' a l:=
 ⟨fun k s hs=>by
  obtain⟨b,off,h1,h2,h3⟩:=h.at_ k s hs
  exact⟨b,off,h1,Nat.lt_of_lt_of_le h2 hb.size,(hb.cell (p:=⟨b,off+k,none⟩) h2).trans h3⟩⟩
structure Ahp(w:World)(a:Option Addr)(x:List (List Bs)):Prop where
 at_:∀(k:Nat) (l:List Bs),x[k]?=some l→∃b off a' c',a=some ⟨b,off,none⟩∧b<w.heap.size∧w.cell? ⟨b,off+k,none⟩=some (.slice a' l.length c')∧Ahn w a' l
theorem Ahp.below{w w':World}{a:Option Addr}{x:List (List Bs)}(h:Ahp w a x)(hb:Below w.heap.size w w'):Ahp w' a x:=
 ⟨fun k l hl=>by
  obtain⟨b,off,a',c',h1,h2,h3,h4⟩:=h.at_ k l hl
  exact⟨b,off,a',c',h1,Nat.lt_of_lt_of_le h2 hb.size,(hb.cell (p:=⟨b,off+k,none⟩) h2).trans h3,h4.below hb⟩⟩
theorem Rw{α:Type}{enc:α→AV}:∀(l:List α),(l.map fun x=>[enc x]).flatten=l.map enc
 |[]=>rfl
 |x::l=>by rw[List.map_cons,List.flatten_cons,Rw l];rfl
theorem Aet{C:Ctx}{w:World}{l:List Bs}{v:Value}{f:List Nat}(h:RV C w (.sl .brw 1 (l.map fun s=>[AV.lit (.string ⟨s.toArray⟩)])) v f):∃a c,v=.slice a l.length c∧Ahn w a l:=by
 rcases Sw h with⟨hn,a,c,rfl⟩|⟨b,off,c,rfl,hb,hc⟩
 ·have hn:l=[]:=List.map_eq_nil_iff.1 hn;subst hn;exact⟨a,c,rfl,⟨fun k s hk=>nomatch hk⟩⟩
 ·refine⟨some ⟨b,off,none⟩,c,by rw[List.length_map],⟨fun k s hs=>⟨b,off,rfl,hb,?_⟩⟩⟩;obtain⟨u,g,h1,h2⟩:=hc k (AV.lit (.string ⟨s.toArray⟩)) (by rw[Rw l,List.getElem?_map,hs];rfl)
  rw[h1,RV.Dj h2]
theorem AeC{C:Ctx}{w:World}{x:List (List Bs)}{v:Value}{f:List Nat}(h:RV C w (.sl .brw 1 (x.map fun l=>[AV.sl .brw 1 (l.map fun s=>[AV.lit (.string ⟨s.toArray⟩)])])) v f):∃a c,v=.slice a x.length c∧Ahp w a x:=by
 rcases Sw h with⟨hn,a,c,rfl⟩|⟨b,off,c,rfl,hb,hc⟩
 ·have hn:x=[]:=List.map_eq_nil_iff.1 hn;subst hn;exact⟨a,c,rfl,⟨fun k s hk=>nomatch hk⟩⟩
 ·refine⟨some ⟨b,off,none⟩,c,by rw[List.length_map],⟨fun k l hl=>?_⟩⟩;obtain⟨u,g,h1,h2⟩:=hc k (AV.sl .brw 1 (l.map fun s=>[AV.lit (.string ⟨s.toArray⟩)])) (by rw[Rw x,List.getElem?_map,hl];rfl)
  obtain⟨a',c',rfl,hst⟩:=Aet h2;exact⟨b,off,a',c',rfl,hb,h1,hst⟩
structure Fv(w:World)(B Bo:Nat)(vs:List Value)(rows:List (List Int)):Prop where
 blk:w.heap[Bo]?=some (.cells vs.toArray 22 (0,0))
 len:rows.length=vs.length
 row:∀j,j<vs.length→Ew w B (vs.getD j undef) (rows.getD j [])
 dis:∀i j,i<vs.length→j<vs.length→i≠j→∀b,(vs.getD i undef).ownBlock=some b→(vs.getD j undef).ownBlock≠some b
 bo:B≤Bo
theorem Vl{w w':World}{B:Nat}{v:Value}{l:List Int}(h:Ew w B v l)(hk:∀g,v.ownBlock=some g→w'.heap[g]?=w.heap[g]?):Ew w' B v l:=by
 refine⟨h.1,?_⟩
 rcases h.2 with h|⟨g,cap,cur,h1,h2,h3,h4⟩
 ·exact .inl h
 ·exact .inr ⟨g,cap,cur,h1,h2,(hk g (by rw[h1];rfl)).trans h3,h4⟩
theorem AbO{w:World}{B:Nat}{v:Value}{l:List Int}(h:Ew w B v l){g:Nat}(hg:v.ownBlock=some g):∃cur,w.heap[g]?=some (.cells cur 3 (0,0)):=by
 rcases h.2 with⟨h1,_⟩|⟨g',cap,cur,h1,h2,h3,h4⟩
 ·rw[h1]at hg;cases hg
 ·rw[h1]at hg
  have:g'=g:=by simpa[Value.ownBlock]using hg
  subst this;exact⟨cur,h3⟩
theorem Fv.kept{w w':World}{B Bo:Nat}{vs:List Value}{rows:List (List Int)}(h:Fv w B Bo vs rows)(hk:Aao w w'):Fv w' B Bo vs rows where
 blk:=hk _ _ _ _ h.blk (by decide) (by decide)
 len:=h.len
 row:=fun j hj=>Vl (h.row j hj) fun g hg=>by
  obtain⟨cur,hc⟩:=AbO (h.row j hj) hg;rw[hk _ _ _ _ hc (by decide) (by decide),hc]
 dis:=h.dis
 bo:=h.bo
theorem Fv.below{w w':World}{B Bo:Nat}{vs:List Value}{rows:List (List Int)}(h:Fv w B Bo vs rows)(hb:Below w.heap.size w w'):Fv w' B Bo vs rows where
 blk:=(hb.block _ (Array.getElem?_eq_some_iff.1 h.blk).1).trans h.blk
 len:=h.len
 row:=fun j hj=>AdT (h.row j hj) hb
 dis:=h.dis
 bo:=h.bo
theorem Fv.app{w w':World}{B Bo i:Nat}{vs:List Value}{rows:List (List Int)}{v':Value}{r:List Int}(h:Fv w B Bo vs rows)(hi:i<vs.length)(hg:w.grownBy w' (vs.getD i undef).ownBlock)(hown:Ew w' B v' r)(hat:v'.ownBlock=(vs.getD i undef).ownBlock∨v'.ownBlock=some w.heap.size):Fv (w'.setCell ⟨Bo,i,none⟩ v') B Bo (vs.set i v') (rows.set i r):=by
 have hbo:w'.heap[Bo]?=some (.cells vs.toArray 22 (0,0)):=(hg.block Bo (Array.getElem?_eq_some_iff.1 h.blk).1 (fun e1=>GW (h.row i hi) h.blk (by decide) e1.symm)).trans h.blk
 have hnb:∀{u:Value} {l:List Int},Ew w' B u l→Ew (w'.setCell ⟨Bo,i,none⟩ v') B u l:=fun hu=>Vl hu fun g hg=>Below.heap_setCell _ _ _ _ fun e1=>GW hu hbo (by decide) (by rw[hg,e1])
 refine⟨?_,by rw[Qa0,Qa0];exact h.len,fun j hj=>?_,fun j k hj hk hjk b hb=>?_,h.bo⟩
 ·simp[World.setCell,Array.getElem?_modify,hbo]
 ·rw[Qa0]at hj;rw[FP hi,FP (by rw[h.len];exact hi)]
  by_cases e:i=j
  ·rw[if_pos e,if_pos e];exact hnb hown
  ·rw[if_neg e,if_neg e];refine hnb (Vl (h.row j hj) fun g hgb=>hg.block g (World.ownsRow.lt (h.row j hj) g hgb).2 fun e1=>?_);exact h.dis i j hi hj e g e1.symm hgb
 ·rw[Qa0]at hj hk;rw[FP hi]at hb⊢
  have hold:∀t,t<vs.length→t≠i→(vs.getD t undef).ownBlock≠v'.ownBlock∨v'.ownBlock=none:=fun t ht hti=>by
   cases hv:v'.ownBlock with
   |none=>exact .inr rfl
   |some g=>
    refine .inl fun e1=>?_
    rcases hat with q|q
    ·rw[hv]at q;exact h.dis i t hi ht (Ne.symm hti) g q.symm e1
    ·rw[hv]at q;have:=(World.ownsRow.lt (h.row t ht) g e1).2;have:=Option.some.inj q;omega
  by_cases e1:i=j
  ·rw[if_pos e1]at hb;rw[if_neg (fun e2=>hjk (e1.symm.trans e2))]
   rcases hold k hk (fun e2=>hjk (e1.symm.trans e2.symm))with q|q
   ·rw[hb]at q;exact q
   ·rw[q]at hb;cases hb
  ·rw[if_neg e1]at hb
   by_cases e2:i=k
   ·rw[if_pos e2]
    rcases hold j hj (fun e3=>e1 e3.symm)with q|q
    ·rw[hb]at q;exact fun e3=>q e3.symm
    ·rw[q];exact fun e3=>nomatch e3
   ·rw[if_neg e2];exact h.dis j k hj hk hjk b hb
end Go.Proofs.Tryz
