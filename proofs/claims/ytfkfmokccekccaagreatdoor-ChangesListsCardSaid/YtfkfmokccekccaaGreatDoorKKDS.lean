/- Slices of differences: where they lie. -/
import Derived.Test.YtfkfmokccekccaaGreatDoorKKX
import Derived.Test.YtfkfmokccekccaaGreatDoorKKY
import Derived.Test.YtfkfmokccekccaaGreatDoorKSm1
set_option linter.unusedVariables false
set_option linter.unusedSimpArgs false
namespace Go.Proofs.Tryz
open Go.Shelf Go.RowKit Go.VS Go Go.Maps
structure UO(w:World)(a:Option Addr)(l:List AD):Prop where
 at_:∀(k:Nat) (x:AD),l[k]?=some x→∃b off,a=some ⟨b,off,none⟩∧b<w.heap.size∧w.cell? ⟨b,off+k*2,none⟩=some (.string ⟨x.1.toArray⟩)∧w.cell? ⟨b,off+k*2+1,none⟩=some (.int .i64 x.2)
theorem UO.below{w w':World}{a:Option Addr}{l:List AD}(h:UO w a l)(hb:Below w.heap.size w w'):UO w' a l:=
 ⟨fun k x hx=>by
  obtain⟨b,off,h1,h2,h3,h4⟩:=h.at_ k x hx
  exact⟨b,off,h1,Nat.lt_of_lt_of_le h2 hb.size,(hb.cell (p:=⟨b,off+k*2,none⟩) h2).trans h3,(hb.cell (p:=⟨b,off+k*2+1,none⟩) h2).trans h4⟩⟩
theorem AgK{C:Ctx}{w:World}{l:List AD}{v:Value}{f:List Nat}(h:RV C w (.sl .brw 2 (l.map ((BT.pair .str (.int .i64)).enc .leaf))) v f):∃a c,v=.slice a l.length c∧UO w a l:=by
 obtain⟨a,c,hv,hc⟩:=Wi (t:=.pair .str (.int .i64)) rfl h
 refine⟨a,c,hv,⟨fun k x hx=>?_⟩⟩
 obtain⟨b,off,h1,h2,h3⟩:=hc k x hx
 exact⟨b,off,h1,h2,h3 0 _ rfl,h3 1 _ rfl⟩
abbrev DB:={x:AD//x.1.length≤140737488351232}
instance:Inhabited DB:=⟨⟨([],0),Nat.zero_le _⟩⟩
def AfR(x:DB):List Value:=Ra x.1
theorem Z7:∀d:List AD,(∀t∈d,t.1.length≤140737488351232)→∃zs:List DB,zs.map (·.1)=d
 |[],_=>⟨[],rfl⟩
 |x::d,h=>by
  obtain⟨zs,hz⟩:=Z7 d fun t ht=>h t (List.mem_cons_of_mem _ ht)
  exact⟨⟨x,h x (List.mem_cons_self ..)⟩::zs,by rw[List.map_cons,hz]⟩
end Go.Proofs.Tryz
