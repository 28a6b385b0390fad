/- intern.number, walked. -/
import Derived.Test.YtopngokkgogolaaGreatDoorKKNW
import Derived.Deep.RegionHeld3
import Derived.Deep.DrawnRows
import Derived.Deep.AppendLies
set_option linter.unusedVariables false
set_option linter.unusedSimpArgs false
namespace Go.Proofs.Tryz
open Go.Shelf Go.RowKit Go.VS Go Go.Sort Go.Maps
attribute [local go_sem ↓] Go.wp_at_zero Go.wp_at_succ
theorem GF.grown{w w':World}{B Bt Bm:Nat}{g:Bs→Option Int}{ns:List Bs}{v u:Value}{l:List Int}(h:GF w B Bt Bm g ns v)(hu:Ew w B u l)(hg:w.grownBy w' u.ownBlock):GF w' B Bt Bm g ns v where
 tb:=(hg.block Bt (Array.getElem?_eq_some_iff.1 h.tb).1 (fun e1=>GW hu h.tb (by decide) e1.symm)).trans h.tb
 mp:=CJ.of_block h.mp (hg.block Bm (CJ.lt h.mp) (fun e1=>ZT hu h.mp e1.symm))
 nm:=PA h.nm fun k hk=>hg.block k (World.ownsRow.lt h.nm k hk).2 fun e1=>by
  rcases h.nm.2 with⟨h1,_⟩|⟨g',cap,cur,h1,h2,h3,h4⟩
  ·rw[h1]at hk;cases hk
  ·rw[h1]at hk
   have:g'=k:=by simpa[Value.ownBlock]using hk
   subst this;exact GW hu h3 (by decide) e1.symm
 inv:=h.inv
 bt:=h.bt
 bm:=h.bm
theorem GF.set{w:World}{B Bt Bm Bo i:Nat}{g:Bs→Option Int}{ns:List Bs}{v u:Value}{cur:Array Value}(h:GF w B Bt Bm g ns v)(hb:w.heap[Bo]?=some (.cells cur 22 (0,0))):GF (w.setCell ⟨Bo,i,none⟩ u) B Bt Bm g ns v where
 tb:=(Below.heap_setCell _ _ _ _ (show Bt≠Bo from fun e=>by have:=h.tb;rw[e,hb]at this;cases this)).trans h.tb
 mp:=CJ.of_block h.mp (Below.heap_setCell _ _ _ _ (show Bm≠Bo from fun e=>by obtain⟨es,cl,q⟩:=Wx h.mp;rw[e,hb]at q;cases q))
 nm:=PA h.nm fun k hk=>Below.heap_setCell _ _ _ _ (show k≠Bo from fun e=>GW h.nm hb (by decide) (by rw[hk,e]))
 inv:=h.inv
 bt:=h.bt
 bm:=h.bm
theorem GF.drew{w:World}{B Bt Bm:Nat}{g:Bs→Option Int}{ns:List Bs}{v:Value}(h:GF w B Bt Bm g ns v):GF w.drew B Bt Bm g ns v:=⟨h.tb,CJ.of_block h.mp rfl,PA h.nm fun _ _=>rfl,h.inv,h.bt,h.bm⟩
theorem GF.below{w w':World}{B Bt Bm:Nat}{g:Bs→Option Int}{ns:List Bs}{v:Value}(h:GF w B Bt Bm g ns v)(hb:Below w.heap.size w w'):GF w' B Bt Bm g ns v:=
 ⟨(hb.block _ (Array.getElem?_eq_some_iff.1 h.tb).1).trans h.tb,CJ.of_block h.mp (hb.block _ (CJ.lt h.mp)),PA h.nm fun k hk=>hb.block k (World.ownsRow.lt h.nm k hk).2,h.inv,h.bt,h.bm⟩
def WN(x:List (List Bs))(i:Nat):Nat:=(x.take i).flatten.length
theorem WN.zero(x:List (List Bs)):WN x 0=0:=rfl
theorem WN.next{x:List (List Bs)}{i:Nat}{l:List Bs}(h:x[i]?=some l):WN x (i+1)=WN x i+l.length:=by
 obtain⟨hi,rfl⟩:=List.getElem?_eq_some_iff.1 h;unfold WN;rw[List.take_succ_eq_append_getElem hi,List.flatten_append,List.length_append];simp
theorem WN.le{x:List (List Bs)}(h:∀l∈x,l.length≤4096)(i:Nat)(hi:i≤x.length):WN x i≤i*4096:=by
 induction i with
 |zero=>exact Nat.zero_le _
 |succ i ih=>
  rw[WN.next (List.getElem?_eq_getElem hi),Nat.succ_mul];have:=ih (Nat.le_of_succ_le hi);have:=h _ (List.getElem_mem hi);exact Nat.add_le_add ‹_› ‹_›
theorem WN.all(x:List (List Bs)):WN x x.length=x.flatten.length:=by
 unfold WN;rw[List.take_of_length_le (Nat.le_refl _)]
def NuI(x:List (List Bs))(g:Bs→Option Int)(rows:List (List Int))(i k:Nat):Prop:=rows.length=x.length∧(∀j l,x[j]?=some l→(j<i→(∀s∈l,∃n,g s=some n)∧rows.getD j []=l.map fun s=>(g s).getD 0)∧(j=i→(∀s∈l.take k,∃n,g s=some n)∧rows.getD j []=(l.take k).map fun s=>(g s).getD 0)∧(i<j→rows.getD j []=[]))
theorem NuI.start(x:List (List Bs))(g:Bs→Option Int):NuI x g (List.replicate x.length []) 0 0:=by
 refine⟨by simp,fun j l hl=>?_⟩;have hj:=(List.getElem?_eq_some_iff.1 hl).1
 have hr:(List.replicate x.length ([]:List Int)).getD j []=[]:=by rw[List.getD_eq_getElem?_getD,List.getElem?_replicate];split<;>rfl
 exact⟨fun h=>absurd h (Nat.not_lt_zero _),fun _=>⟨fun s hs=>by simp at hs,hr⟩,fun _=>hr⟩
theorem NuI.row{x:List (List Bs)}{g:Bs→Option Int}{rows:List (List Int)}{i:Nat}{l:List Bs}(h:NuI x g rows i l.length)(hl:x[i]?=some l):NuI x g rows (i+1) 0:=by
 refine⟨h.1,fun j l' hl'=>?_⟩;obtain⟨h1,h2,h3⟩:=h.2 j l' hl';refine⟨fun hj=>?_,fun hj=>⟨fun s hs=>by simp at hs,by rw[h3 (by omega)];rfl⟩,fun hj=>h3 (by omega)⟩
 rcases Nat.lt_or_ge j i with h4|h4
 ·exact h1 h4
 ·have h5:j=i:=by omega
  subst h5;rw[hl]at hl';cases hl';have:=h2 rfl;rw[List.take_length]at this;exact this
theorem NuI.next{x:List (List Bs)}{g g':Bs→Option Int}{rows:List (List Int)}{i k:Nat}{l:List Bs}{s:Bs}{n:Int}(h:NuI x g rows i k)(hl:x[i]?=some l)(hs:l[k]?=some s)(hg:g' s=some n)(hext:∀t j,g t=some j→g' t=some j):NuI x g' (rows.set i (rows.getD i []++[n])) i (k+1):=by
 have hi:=(List.getElem?_eq_some_iff.1 hl).1
 have hmap:∀m:List Bs,(∀t∈m,∃n,g t=some n)→(m.map fun t=>(g t).getD 0)=m.map fun t=>(g' t).getD 0:=fun m hm=>List.map_congr_left fun t ht=>by
  obtain⟨n,hn⟩:=hm t ht;rw[hn,hext t n hn]
 have hdom:∀m:List Bs,(∀t∈m,∃n,g t=some n)→∀t∈m,∃n,g' t=some n:=fun m hm t ht=>by
  obtain⟨n,hn⟩:=hm t ht;exact⟨n,hext t n hn⟩
 refine⟨by rw[List.length_set];exact h.1,fun j l' hl'=>?_⟩
 obtain⟨h1,h2,h3⟩:=h.2 j l' hl';rw[FP (by rw[h.1];exact hi)]
 refine⟨fun hj=>?_,fun hj=>?_,fun hj=>by rw[if_neg (by omega)];exact h3 hj⟩
 ·rw[if_neg (by omega)];obtain⟨q1,q2⟩:=h1 hj;exact⟨hdom _ q1,by rw[q2,hmap _ q1]⟩
 ·subst hj;rw[if_pos rfl];rw[hl]at hl';cases hl';obtain⟨q1,q2⟩:=h2 rfl;rw[List.take_add_one,hs];refine⟨fun t ht=>?_,?_⟩
  ·rcases List.mem_append.1 ht with ht|ht
   ·exact hdom _ q1 t ht
   ·have:t=s:=by simpa using ht
    rw[this];exact⟨n,hg⟩
  ·rw[q2,hmap _ q1,List.map_append];show _=_++[(g' s).getD 0];rw[hg];rfl
end Go.Proofs.Tryz
