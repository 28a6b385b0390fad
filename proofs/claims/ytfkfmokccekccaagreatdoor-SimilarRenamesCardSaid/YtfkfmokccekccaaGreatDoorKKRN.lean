/- similar.Renames: rows of pairs, sorted by the library. -/
import Derived.Test.YtfkfmokccekccaaGreatDoorKKMB
import Derived.Test.YtfkfmokccekccaaGreatDoorKKX
import Derived.Test.YtfkfmokccekccaaGreatDoorKKZ
import Derived.Test.YtfkfmokccekccaaGreatDoorKSm2
set_option linter.unusedVariables false
set_option linter.unusedSimpArgs false
namespace Go.VS
theorem Asn{t:BT}(ht:t.flat=true){C:Ctx}{w:World}{l:List t.D}{v:Value}{f:List Nat}(h:RV C w (.sl .own t.size (l.map (t.enc .leaf))) v f):
  (v=.slice none 0 0∧l=[])∨∃b off cap cs e,v=.slice (some ⟨b,off,none⟩) l.length cap∧b∈f∧w.heap[b]?=some (.cells cs e (0,0))∧off+l.length*t.size≤cs.size∧(cs.toList.drop off).take (l.length*t.size)=(l.map t.fl).flatten:=by
 generalize ha:AV.sl .own t.size (l.map (t.enc .leaf))=q at h
 cases h with
 |own k' xs' b off cap cs e f' hb hs hc hm hk hr=>
  simp only[AV.sl.injEq]at ha
  obtain⟨_,rfl,rfl⟩:=ha
  rw[List.length_map]at hc hr⊢
  have hle:l.length*t.size≤cap*t.size:=Nat.mul_le_mul_right _ hc
  refine .inr ⟨b,off,cap,cs,e,rfl,by simp,hb,by omega,?_⟩
  rw[AeS ht]at hr
  exact ApI hr
 |shr τ k' xs' b' off' cap cs e fz ht hz hi hb hs hc hk hr=>simp only[AV.sl.injEq]at ha;exact absurd ha.1.symm ht
 |slNil τ k'=>
  simp only[AV.sl.injEq,List.map_eq_nil_iff]at ha
  exact .inl ⟨rfl,ha.2.2⟩
 |shrE τ k' a cap ht=>simp only[AV.sl.injEq]at ha;exact absurd ha.1.symm ht
 |_=>cases ha
end Go.VS
namespace Go.Proofs.Tryz
open Go.Shelf Go.RowKit Go.VS Go Go.Maps Go.Sort Go.Lib
def AoL(x:Aoc):List Value:=[.string ⟨x.1.toArray⟩,.string ⟨x.2.1.toArray⟩,.int .i64 x.2.2]
def AqJ(x:Aoc):Value:=.agg #[.string ⟨x.1.toArray⟩,.string ⟨x.2.1.toArray⟩,.int .i64 x.2.2]
def Ap6(w:World)(b off:Nat)(l:List Aoc):Prop:=∃cs e,w.heap[b]?=some (.cells cs e (0,0))∧off+l.length*3≤cs.size∧(cs.toList.drop off).take (l.length*3)=(l.map AoL).flatten
theorem Art{w:World}{b off:Nat}{l:List Aoc}(h:Ap6 w b off l):b<w.heap.size:=by
 obtain⟨cs,e,hb,_⟩:=h
 exact(Array.getElem?_eq_some_iff.1 hb).1
theorem Ap2{w:World}{b off:Nat}{l:List Aoc}(h:Ap6 w b off l):HoldsK AoL 3 w b off l.toArray:=by
 obtain⟨cs,e,hb,hs,ht⟩:=h
 unfold HoldsK
 rw[UG (k:=3) (fun _=>rfl)]
 have hl:=Gr (enc:=AoL) (k:=3) (fun _=>rfl) l
 intro j hj
 have hj':j<l.length*3:=by rw[←hl];simpa using hj
 refine⟨?_,by simp[World.frozen?,hb]⟩
 have h1:((cs.toList.drop off).take (l.length*3))[j]?=((l.map AoL).flatten)[j]?:=by rw[ht]
 rw[List.getElem?_take_of_lt hj',List.getElem?_drop]at h1
 simp only[World.cell?,hb]
 simp only[Option.isSome_none,Bool.false_eq_true,if_false]
 have hlt:j<(l.map AoL).flatten.length:=by rw[hl];exact hj'
 rw[←Array.getElem?_toList,h1,List.getElem?_eq_getElem hlt,getElem!_pos _ j hj]
 simp
theorem ArL{w:World}{b off:Nat}{l:List Aoc}(h:Ap6 w b off l){k:Nat}{x:Aoc}(hx:l[k]?=some x):w.cell? ⟨b,off+k*3,none⟩=some (.string ⟨x.1.toArray⟩)∧w.cell? ⟨b,off+k*3+1,none⟩=some (.string ⟨x.2.1.toArray⟩)∧w.cell? ⟨b,off+k*3+2,none⟩=some (.int .i64 x.2.2):=by
 have hh:=Ap2 h
 unfold HoldsK at hh
 rw[UG (k:=3) (fun _=>rfl)]at hh
 have hl:=Gr (enc:=AoL) (k:=3) (fun _=>rfl) l
 have hk:=(List.getElem?_eq_some_iff.1 hx).1
 have get:∀c (u:Value),c<3→(AoL x)[c]?=some u→w.cell? ⟨b,off+(k*3+c),none⟩=some u:=fun c u hc hu=>by
  have h1:=Oa (enc:=AoL) (k:=3) (fun _=>rfl) l (j:=k) (x:=x) (c:=c) hx hc
  rw[hu]at h1
  have hlt:k*3+c<(l.map AoL).flatten.length:=(List.getElem?_eq_some_iff.1 h1).1
  have h2:=(hh (k*3+c) (by simpa using hlt)).1
  rw[getElem!_pos _ (k*3+c) (by simpa using hlt)]at h2
  rw[h2]
  rw[List.getElem?_eq_getElem hlt]at h1
  simpa using h1
 refine⟨?_,?_,?_⟩
 ·have:=get 0 _ (by omega) rfl;simpa using this
 ·have:=get 1 _ (by omega) rfl;rw[←Nat.add_assoc]at this;exact this
 ·have:=get 2 _ (by omega) rfl;rw[←Nat.add_assoc]at this;exact this
theorem AsD{w w':World}{b off:Nat}{l:List Aoc}(h:Ap6 w b off l)(he:w'.heap[b]?=w.heap[b]?):Ap6 w' b off l:=by
 obtain⟨cs,e,hb,hs,ht⟩:=h
 exact⟨cs,e,he.trans hb,hs,ht⟩
def or3(a b c:Int):Int:=if a≠0 then a else if b≠0 then b else c
theorem Ar0(a b c:Int)(g:Nat)(W:World)(h0:W.cell? ⟨g,0,none⟩=some (.int .i64 a))(h1:W.cell? ⟨g,1,none⟩=some (.int .i64 b))(h2:W.cell? ⟨g,2,none⟩=some (.int .i64 c)):
  Calls prog 76 #[.slice (some ⟨g,0,none⟩) 3 3] W fun e w'=>e=.returned (.int .i64 (or3 a b c))∧w'=W:=by
 generalize hr:or3 a b c=r
 have hc:∀k:Nat,k<3→∃z:Int,W.cell? ⟨g,k,none⟩=some (.int .i64 z)∧z=(if k=0 then a else if k=1 then b else c):=fun k hk=>by
  match k,hk with
  |0,_=>exact⟨a,h0,rfl⟩
  |1,_=>exact⟨b,h1,rfl⟩
  |2,_=>exact⟨c,h2,rfl⟩
 clear h0 h1 h2
 go_enter func76,ntmps76
 go_wp2
 go_loopw [8] (fun i wr=>∃k:Nat,k≤3∧i=.int .i64 k∧wr=W∧∀j,j<k→(if j=0 then a else if j=1 then b else c)=0) (fun i _=>3 -(Lib.intOf i).toNat)
 case atStart=>exact⟨0,by omega,by simp,by simp,fun j hj=>absurd hj (by omega)⟩
 case round=>
  obtain⟨k,hk,hi,hw,hz⟩:=hrel
  subst hi
  subst hw
  by_cases hks:k<3
  ·obtain⟨z,hcz,hzv⟩:=hc k hks
   by_cases hz0:z=0
   ·subst hz0
    have hnx:∀j,j<k+1→(if j=0 then a else if j=1 then b else c)=0:=fun j hj=>by
     by_cases e:j=k
     ·rw[e];exact hzv.symm
     ·exact hz j (by omega)
    clear hz hzv hc
    go_wp2
    go_roundw
    case rel=>exact⟨k+1,by omega,by simp,by simp,hnx⟩
    case measure=>simp only[Lib.intOf];omega
   ·have hzr:r=z:=by
     rw[←hr]
     unfold or3
     have z0:0<k→a=0:=fun h=>hz 0 h
     have z1:1<k→b=0:=fun h=>hz 1 h
     rcases(by omega:k=0∨k=1∨k=2)with e|e|e
     ·subst e
      have hzv:z=a:=hzv
      rw[if_pos (by rw[←hzv];exact hz0),hzv]
     ·subst e
      have hzv:z=b:=hzv
      rw[if_neg (by rw[z0 (by omega)];simp),if_pos (by rw[←hzv];exact hz0),hzv]
     ·subst e
      have hzv:z=c:=hzv
      rw[if_neg (by rw[z0 (by omega)];simp),if_neg (by rw[z1 (by omega)];simp),hzv]
    clear hz hzv hc hr
    subst hzr
    go_wp2
    go_ret
    exact⟨rfl,rfl⟩
  ·have hke:k=3:=by omega
   subst hke
   have hr0:r=0:=by
    rw[←hr]
    unfold or3
    have z0:a=0:=hz 0 (by omega)
    have z1:b=0:=hz 1 (by omega)
    have z2:c=0:=hz 2 (by omega)
    rw[z0,z1,z2]
    rfl
   clear hz hc hr
   subst hr0
   go_wp2
   go_ret
   exact⟨rfl,rfl⟩
end Go.Proofs.Tryz
