/- similar.Renames: the sorts, as contracts. -/
import Derived.Test.YtfkfmokccekccaaGreatDoorKKRO
set_option linter.unusedVariables false
set_option linter.unusedSimpArgs false
namespace Go.Proofs.Tryz
open Go.Shelf Go.RowKit Go.VS Go Go.Maps Go.Sort Go.Lib
theorem AqW{w:World}{b off n:Nat}{os:Array Obj}{l S:List Aoc}(h:Ap6 w b off l)(hl:S.length=l.length):Ap6 (sortWorldK AoL 3 w b off n S.toArray os) b off S:=by
 obtain⟨cs,e,hb,hs,ht⟩:=h
 have hg:b<w.heap.size:=(Array.getElem?_eq_some_iff.1 hb).1
 refine⟨putCells id off (flatK AoL 3 S.toArray) cs,e,?_,by simp[putCells];omega,?_⟩
 ·unfold sortWorldK putRowK
  rw[heap_grow_old _ _ (by simpa using hg)]
  simp[putRow,mapBlock,Sort.ahead,Array.getElem?_modify,hb,onCells]
 ·rw[UG (k:=3) (fun _=>rfl)]
  have hf:=Gr (enc:=AoL) (k:=3) (fun _=>rfl) S
  rw[←hl]at hs
  rw[←hf]at hs⊢
  generalize(S.map AoL).flatten=L at hs
  apply List.ext_getElem?
  intro j
  by_cases hj:j<L.length
  ·rw[List.getElem?_take_of_lt hj,List.getElem?_drop,Array.getElem?_toList]
   simp[putCells,hj,show off+j<cs.size by omega]
  ·rw[List.getElem?_take_eq_none (by omega),List.getElem?_eq_none (by omega)]
theorem Aq0{w:World}{b off n:Nat}{os:Array Obj}(d:Array Aoc):w.grownBy (sortWorldK AoL 3 w b off n d os) (some b):=by
 unfold sortWorldK putRowK
 refine⟨rfl,rfl,rfl,by simp,fun k hk hne=>?_⟩
 rw[heap_grow_old _ _ (by simpa using hk)]
 have:b≠k:=fun e=>hne (by rw[e])
 simp[putRow,mapBlock,Sort.ahead,Array.getElem?_modify,this]
theorem Asa(cf:Aoc→Aoc→Int)(hO:SWO (ltOf cf))(g:Nat)(fn:Func)(hfn:prog.funcs[g]?=some fn)(hen:∀args w,(callFunc g args).run prog w=.ok (.enter g args) w)
  (hc:∀(x y:Aoc) (W:World),Calls prog g #[AqJ x,AqJ y] W fun e w'=>e=.returned (.int .i64 (cf x y))∧∃q os',w'=grow (W.drewN q) os')
  (l:List Aoc) (b off cap:Nat) (W:World) (hl:l.length≤4000000) (h:Ap6 W b off l):
  Calls prog 36 #[.slice (some ⟨b,off,none⟩) l.length cap,.func (.func g) #[] #[]] W fun e w'=>e=.returned (.tuple #[])∧∃S:List Aoc,S.Perm l∧(S.Pairwise fun x y=>ltOf cf y x=false)∧W.grownBy w' (some b)∧Ap6 w' b off S:=by
 have hcon:=AnyQ.slices_SortFunc Tryz.Ar9 3 Tryz.isAgg68 Tryz.sizeOf68 AoL (fun _=>rfl) (fun x u hu=>by simp[AoL]at hu;rcases hu with rfl|rfl|rfl<;>rfl) cf hO g #[] b off cap l.toArray W hen
  (fun _ _ _ _ x y=>hc x y _) (Ap2 h) (Art h) (by rw[List.size_toArray];omega)
 rw[List.size_toArray]at hcon
 refine hcon.mono ?_
 rintro e w' ⟨rfl,d',n,os,hp,hs,rfl⟩
 have hpl:=toList_perm (d:=l.toArray) (d':=d') (by rw[List.size_toArray];exact hp)
 rw[List.toList_toArray]at hpl
 refine⟨rfl,d'.toList,hpl,?_,Aq0 _,?_⟩
 ·exact Xz (lt:=ltOf cf) (d:=l.toArray) (d':=d') (by have:=hp.1;simpa using this) (by rw[List.size_toArray];exact hs)
 ·have:=AqW (n:=n) (os:=os) (S:=d'.toList) h hpl.length_eq
  rwa [Array.toArray_toList]at this
theorem Ap3(W:World)(g:Nat):Calls prog 36 #[.slice none 0 0,.func (.func g) #[] #[]] W fun e w'=>e=.returned (.tuple #[])∧w'=W:=
 AnyF.slices_SortFunc_none (P:=prog) (ρ:=Tryz.Aqt) {Tryz.Ar9 with} none 0 _ W
set_option maxHeartbeats 1000000 in
theorem Ara(x y:Aoc)(W:World):Calls prog 38 #[AqJ x,AqJ y] W fun e w'=>e=.returned (.int .i64 (Lib.compareBytes x.2.1 y.2.1))∧∃q os',w'=grow (W.drewN q) os':=by
 obtain⟨xa,xb,xs⟩:=x
 obtain⟨ya,yb,ys⟩:=y
 unfold AqJ
 dsimp only
 have hcon:∀W',Calls prog 39 #[.string ⟨xb.toArray⟩,.string ⟨yb.toArray⟩] W' fun e w'=>e=.returned (.int .i64 (Lib.compareBytes xb yb))∧w'=W':=fun W'=>by
  have:=Tryz.strings_Compare ⟨xb.toArray⟩ ⟨yb.toArray⟩ W'
  simpa using this
 generalize Lib.compareBytes xb yb=r at hcon⊢
 go_enter func38,ntmps38
 go_wp2_with (go_at_call 39;refine(hcon _).mono ?_;rintro e w' ⟨rfl,rfl⟩)
 go_ret
 exact⟨rfl,0,_,by rw[alloc_eq_grow,alloc_eq_grow,grow_grow];rfl⟩
theorem ltT(x y:Aoc):ltOf (fun x y:Aoc=>Lib.compareBytes x.2.1 y.2.1) x y=Op.bytesLess x.2.1 y.2.1:=by
 unfold ltOf
 exact AaD x.2.1 y.2.1
end Go.Proofs.Tryz
