/- changes.Everywhere, walked: the paths that are in all lists. -/
import Derived.Test.YtfkfmokccekccaaGreatDoorKKDS
import Derived.Test.YtfkfmokccekccaaGreatDoorKKShelf
import Derived.Test.YtfkfmokccekccaaGreatDoorKKE2
import Derived.Test.YtfkfmokccekccaaGreatDoorKSm4
import Derived.Shelf.SlicesQ.IndexFunc
set_option linter.unusedVariables false
set_option linter.unusedSimpArgs false
namespace Go.Proofs.Tryz
open Go.Shelf Go.RowKit Go.VS Go Go.Maps Go.Sort
set_option maxHeartbeats 1000000 in
theorem AcZ(a:Option Addr)(c:Nat)(fv:Value)(W:World):Calls prog 86 #[.slice a 0 c,fv] W fun e w'=>e=.returned (.int .i64 (-1))∧Below W.heap.size W w':=by
 go_enter func86,ntmps86
 go_wp2
 refine wp_loop_rounds 1 ?_
 rw[rounds_succ]
 go_wp2
 go_ret
 exact⟨rfl,Below.refl _ W⟩
set_option maxHeartbeats 1000000 in
theorem Acm(a:Option Addr)(c:Nat)(fv:Value)(W:World):Calls prog 53 #[.slice a 0 c,fv] W fun e w'=>e=.returned (.bool false)∧Below W.heap.size W w':=by
 go_enter func53,ntmps53
 go_wp2_with (go_at_call 86;refine(AcZ a c fv W).mono ?_;rintro e w1 ⟨rfl,hB1⟩)
 go_ret
 exact⟨rfl,hB1⟩
set_option maxHeartbeats 1000000 in
theorem Zk(x:DB)(p:Bs)(Bd:Nat)(W:World)(hp:p.length≤140737488351232)(hd:W.cell? ⟨Bd,0,none⟩=some (.string ⟨p.toArray⟩))(ld:Bd<W.heap.size):
  Calls prog 54 #[.agg #[.string ⟨x.1.1.toArray⟩,.int .i64 x.1.2],.pointer (some ⟨Bd,0,none⟩)] W fun e w'=>e=.returned (.bool (x.1.1==p))∧Below W.heap.size W w':=by
 obtain⟨⟨q,kd⟩,hq⟩:=x
 dsimp only at hq⊢
 have nd:Bd≠W.heap.size:=by omega
 have hB2:=(Below.refl _ W).alloc (Nat.le_refl _) (.cells #[.string ⟨q.toArray⟩,.int .i64 kd] 73)
 go_enter func54,ntmps54
 go_wp2
 go_ret
 exact⟨by simp,hB2⟩
theorem AcV(l:List AD)(hl:∀t∈l,t.1.length≤140737488351232)(hn:l.length≤1000000)(p:Bs)(hp:p.length≤140737488351232)(pl:Option Addr)(cl:Nat)(Bd:Nat)(W:World)(hv:UO W pl l)(hd:W.cell? ⟨Bd,0,none⟩=some (.string ⟨p.toArray⟩))(ld:Bd<W.heap.size):
  Calls prog 53 #[.slice pl l.length cl,.func (.func 54) #[] #[.pointer (some ⟨Bd,0,none⟩)]] W fun e w'=>e=.returned (.bool (Ln l p))∧Below W.heap.size W w':=by
 by_cases hne:l=[]
 ·subst hne
  exact Acm pl cl _ W
 ·have h0:0<l.length:=List.length_pos_iff.2 hne
  obtain⟨bl,off,rfl,hbl,_,_⟩:=hv.at_ 0 _ (List.getElem?_eq_getElem h0)
  obtain⟨zs,hz⟩:=Z7 l hl
  have hzl:zs.length=l.length:=by rw[←hz,List.length_map]
  have hpr:PredBelow prog 54 #[.pointer (some ⟨Bd,0,none⟩)] (fun x:DB=>.agg (AfR x).toArray) (fun x=>x.1.1==p) W:=fun W' x hB=>by
   have hc:=(hB.cell (p:=⟨Bd,0,none⟩) ld).trans hd
   have hs:=hB.size
   refine(Zk x p Bd W' hp hc (by omega)).mono ?_
   rintro e w1 ⟨rfl,hB1⟩
   exact⟨rfl,hB.trans (hB1.mono hs)⟩
  have hcon:=AnyQ.slices_ContainsFunc Tryz.cfD 2 Tryz.isAgg73 Tryz.sizeOf73 AfR (fun _=>rfl) (fun x=>x.1.1==p) 54 #[.pointer (some ⟨Bd,0,none⟩)] (enters_of func54 (by kernel_rfl) rfl) bl off l.length cl zs W hpr (by omega) (by omega) hbl (fun j hj i v hi=>by
   have hj':j<l.length:=by omega
   obtain⟨b',off',he,_,q0,q1⟩:=hv.at_ j _ (List.getElem?_eq_getElem hj')
   cases he
   have hx:(zs[j]!).1=l[j]:=by
    rw[getElem!_pos zs j hj]
    have:(zs.map (·.1))[j]?=l[j]?:=by rw[hz]
    rw[List.getElem?_map,List.getElem?_eq_getElem hj,List.getElem?_eq_getElem hj']at this
    exact Option.some.inj this
   unfold AfR at hi
   rw[hx]at hi
   match i,hi with
   |0,hi=>simp[Ra]at hi;rw[←hi];exact q0
   |1,hi=>simp[Ra]at hi;rw[←hi];exact q1
   |i+2,hi=>simp[Ra]at hi)
  refine hcon.mono ?_
  rintro e w' ⟨rfl,hB⟩
  refine⟨?_,hB⟩
  have e1:(zs.take l.length).any (fun x=>x.1.1==p)=Ln l p:=by
   rw[List.take_of_length_le (by omega)]
   unfold Ln
   rw[←hz,List.any_map]
   rfl
  rw[e1]
set_option maxHeartbeats 1000000 in
theorem Wo(l:List AD)(hl:∀t∈l,t.1.length≤140737488351232)(hn:l.length≤1000000)(p:Bs)(hp:p.length≤140737488351232)(pl:Option Addr)(cl:Nat)(Bd:Nat)(W:World)(hv:UO W pl l)(hd:W.cell? ⟨Bd,0,none⟩=some (.string ⟨p.toArray⟩))(ld:Bd<W.heap.size):
  Calls prog 52 #[.slice pl l.length cl,.pointer (some ⟨Bd,0,none⟩)] W fun e w'=>e=.returned (.bool (Ln l p))∧Below W.heap.size W w':=by
 have hcon:=AcV l hl hn p hp pl cl Bd W hv hd ld
 generalize Ln l p=r at hcon⊢
 go_enter func52,ntmps52
 go_wp2_with (go_at_call 53;refine hcon.mono ?_;rintro e w1 ⟨rfl,hB1⟩)
 go_ret
 exact⟨rfl,hB1⟩
set_option maxHeartbeats 1000000 in
theorem Wp(l:List AD)(hl:∀t∈l,t.1.length≤140737488351232)(hn:l.length≤1000000)(p:Bs)(hp:p.length≤140737488351232)(pl:Option Addr)(cl:Nat)(Bd Bi:Nat)(W:World)(hv:UO W pl l)(hd:W.cell? ⟨Bd,0,none⟩=some (.string ⟨p.toArray⟩))(ld:Bd<W.heap.size)
  (hi:W.cell? ⟨Bi,0,none⟩=some (.func (.func 52) #[] #[.pointer (some ⟨Bd,0,none⟩)])) (li:Bi<W.heap.size):
  Calls prog 56 #[.slice pl l.length cl,.pointer (some ⟨Bi,0,none⟩)] W fun e w'=>e=.returned (.bool (!Ln l p))∧Below W.heap.size W w':=by
 have hcon:=Wo l hl hn p hp pl cl Bd W hv hd ld
 have eg:∀args w,(callFunc 52 args).run prog w=.ok (.enter 52 args) w:=enters_of func52 (by kernel_rfl) rfl
 generalize Ln l p=r at hcon⊢
 go_enter func56,ntmps56
 go_wp2_with (go_at_fn 52;refine hcon.mono ?_;rintro e w1 ⟨rfl,hB1⟩)
 go_ret
 exact⟨rfl,hB1⟩
structure TG(w:World)(a:Option Addr)(L:List (List AD)):Prop where
 at_:∀(k:Nat) (l:List AD),L[k]?=some l→∃b off pl cl,a=some ⟨b,off,none⟩∧b<w.heap.size∧w.cell? ⟨b,off+k,none⟩=some (.slice pl l.length cl)∧UO w pl l
theorem TG.below{w w':World}{a:Option Addr}{L:List (List AD)}(h:TG w a L)(hb:Below w.heap.size w w'):TG w' a L:=
 ⟨fun k l hk=>by
  obtain⟨b,off,pl,cl,h1,h2,h3,h4⟩:=h.at_ k l hk
  exact⟨b,off,pl,cl,h1,Nat.lt_of_lt_of_le h2 hb.size,(hb.cell (p:=⟨b,off+k,none⟩) h2).trans h3,h4.below hb⟩⟩
structure Aas(w:World)(a:Option Addr)(L:List (List AD))(p:Bs)(Bd Bi:Nat):Prop where
 ls:TG w a L
 d:w.cell? ⟨Bd,0,none⟩=some (.string ⟨p.toArray⟩)
 ld:Bd<w.heap.size
 i:w.cell? ⟨Bi,0,none⟩=some (.func (.func 52) #[] #[.pointer (some ⟨Bd,0,none⟩)])
 li:Bi<w.heap.size
theorem Aas.below{w w':World}{a:Option Addr}{L:List (List AD)}{p:Bs}{Bd Bi:Nat}(h:Aas w a L p Bd Bi)(hb:Below w.heap.size w w'):Aas w' a L p Bd Bi:=
 ⟨h.ls.below hb,(hb.cell (p:=⟨Bd,0,none⟩) h.ld).trans h.d,Nat.lt_of_lt_of_le h.ld hb.size,(hb.cell (p:=⟨Bi,0,none⟩) h.li).trans h.i,Nat.lt_of_lt_of_le h.li hb.size⟩
theorem Aav(L:List (List AD))(p:Bs){k:Nat}(h:k<L.length):Jr (L.take (k+1)) p=(Jr (L.take k) p&&Ln L[k] p):=by
 have:=TK L p h
 rwa [getD_eq h]at this
theorem AbY{L:List (List AD)}{p:Bs}{k:Nat}(h:k<L.length)(hb:Ln L[k] p=false):Jr L p=false:=by
 unfold Jr
 rw[List.all_eq_false]
 exact⟨_,List.getElem_mem h,by rw[hb];simp⟩
set_option maxHeartbeats 2000000 in
theorem AaX(L:List (List AD))(hl:∀l∈L,l.length≤1000000∧∀t∈l,t.1.length≤140737488351232)(hn:L.length≤1000000)(p:Bs)(hp:p.length≤140737488351232)(pa:Option Addr)(ca:Nat)(Bd Bi:Nat)(W:World)(hE:Aas W pa L p Bd Bi):
  Calls prog 87 #[.slice pa L.length ca,.func (.func 56) #[] #[.pointer (some ⟨Bi,0,none⟩)]] W fun e w'=>(∃r:Int,e=.returned (.int .i64 r)∧decide (r≥0)=!Jr L p)∧Below W.heap.size W w':=by
 have eg:∀args w,(callFunc 56 args).run prog w=.ok (.enter 56 args) w:=enters_of func56 (by kernel_rfl) rfl
 go_enter func87,ntmps87
 go_wp2
 go_loopw [8] (fun i wr=>∃k:Nat,k≤L.length∧i=.int .i64 k∧Jr (L.take k) p=true∧Below W.heap.size W wr) (fun i _=>L.length -(Lib.intOf i).toNat)
 case atStart=>exact⟨0,Nat.zero_le _,rfl,rfl,Below.refl _ W⟩
 case round=>
  obtain⟨k,hk,hi,ha,hB⟩:=hrel
  subst hi
  by_cases hks:k<L.length
  ·obtain⟨b,off,pl,cl,rfl,hb,q0,hv⟩:=hE.ls.at_ k L[k] (List.getElem?_eq_getElem hks)
   have c0:=(hB.cell (p:=⟨b,off+k,none⟩) hb).trans q0
   have hnx:=Aav L p hks
   rw[ha,Bool.true_and]at hnx
   have hbad:=fun h=>AbY (p:=p) hks h
   obtain⟨hln,hlt⟩:=hl _ (List.getElem_mem hks)
   have hE2:=hE.below hB
   have hcon:=Wp L[k] hlt hln p hp pl cl Bd Bi wr (hv.below hB) hE2.d hE2.ld hE2.i hE2.li
   generalize L[k]=l at c0 hnx hbad hcon
   clear hE2 hlt hv q0 hE
   cases hr:Ln l p with
   |true=>
    rw[hr]at hcon hnx
    clear hbad hr
    go_wp2_with (go_at_fn 56;refine hcon.mono ?_;rintro e w1 ⟨rfl,hB1⟩)
    go_roundw
    case rel=>exact⟨k+1,by omega,by simp,hnx,hB.trans (hB1.mono hB.size)⟩
    case measure=>simp only[Lib.intOf];omega
   |false=>
    rw[hr]at hcon
    have hb2:=hbad hr
    clear hbad hr
    go_wp2_with (go_at_fn 56;refine hcon.mono ?_;rintro e w1 ⟨rfl,hB1⟩)
    go_ret
    refine⟨⟨_,rfl,?_⟩,hB.trans (hB1.mono hB.size)⟩
    rw[hb2]
    simp
  ·have hke:k=L.length:=by omega
   subst hke
   rw[List.take_length]at ha
   go_wp2
   go_ret
   exact⟨⟨_,rfl,by rw[ha];rfl⟩,hB⟩
set_option maxHeartbeats 1000000 in
theorem AaI(L:List (List AD))(hl:∀l∈L,l.length≤1000000∧∀t∈l,t.1.length≤140737488351232)(hn:L.length≤1000000)(p:Bs)(hp:p.length≤140737488351232)(pa:Option Addr)(ca:Nat)(Bd Bi:Nat)(W:World)(hE:Aas W pa L p Bd Bi):
  Calls prog 55 #[.slice pa L.length ca,.func (.func 56) #[] #[.pointer (some ⟨Bi,0,none⟩)]] W fun e w'=>e=.returned (.bool (!Jr L p))∧Below W.heap.size W w':=by
 have hcon:=AaX L hl hn p hp pa ca Bd Bi W hE
 generalize(!Jr L p)=r at hcon⊢
 go_enter func55,ntmps55
 go_wp2_with (go_at_call 87;refine hcon.mono ?_;rintro e w1 ⟨⟨q,rfl,hq⟩,hB1⟩)
 go_ret
 exact⟨by subst hq;rfl,hB1⟩
end Go.Proofs.Tryz
