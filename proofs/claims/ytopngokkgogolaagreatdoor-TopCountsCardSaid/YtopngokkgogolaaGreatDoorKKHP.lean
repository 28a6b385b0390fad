/- The queue of walk, as container/heap sees it: its methods. -/
import Derived.Test.YtopngokkgogolaaGreatDoorKKRI
import Derived.BigRegion
import Derived.Deep.RegionLaw
import Derived.Deep.AppendLies
set_option linter.unusedVariables false
set_option linter.unusedSimpArgs false
open List renaming length_set → Qa0
open Option.some renaming injEq → Qa1, inj → Qa2
namespace Go.Proofs.Tryz
open Go.Shelf Go.RowKit Go.VS Go Go.Sort
structure GM(w:World)(a:Option Addr)(ds:List Int):Prop where
 at_:∀k,k<ds.length→∃b off,a=some ⟨b,off,none⟩∧b<w.heap.size∧w.cell? ⟨b,off+k*3+1,none⟩=some (.int .i64 (ds.getD k 0))
theorem GM.of{w w':World}{a:Option Addr}{ds:List Int}(h:GM w a ds){B:Nat}(hB:∀b,b<B→w'.heap[b]?=w.heap[b]?)(hs:w.heap.size≤w'.heap.size)(hb:∀p,a=some p→p.block<B):GM w' a ds:=
 ⟨fun k hk=>by
  obtain⟨b,off,h1,h2,h3⟩:=h.at_ k hk;refine⟨b,off,h1,Nat.lt_of_lt_of_le h2 hs,?_⟩;rw[←h3];unfold World.cell?
  rw[hB b (hb _ h1)]⟩
def Zh(ds:List Int)(x y:Int):Bool:=if ds.getD x.toNat 0=ds.getD y.toNat 0 then decide (x<y)else decide (ds.getD x.toNat 0>ds.getD y.toNat 0)
set_option maxHeartbeats 1000000 in
theorem Zi(ds:List Int)(pa:Option Addr)(ca:Nat)(x y:Int)(w:World)(h:GM w pa ds)(hx:0≤x∧x<ds.length)(hy:0≤y∧y<ds.length):
  Calls prog 72 #[.slice pa ds.length ca,.int .i64 x,.int .i64 y] w fun e w'=>e=.returned (.bool (Zh ds x y))∧∃m,w'=w.drewN m:=by
 obtain⟨b,off,rfl,_,c1⟩:=h.at_ x.toNat (by omega);obtain⟨b',off',he,_,c2⟩:=h.at_ y.toNat (by omega);cases he
 obtain⟨x0,rfl⟩:∃k:Nat,x=k:=⟨x.toNat,by omega⟩
 obtain⟨y0,rfl⟩:∃k:Nat,y=k:=⟨y.toNat,by omega⟩
 unfold Zh;rw[Int.toNat_natCast]at c1 c2⊢;rw[Int.toNat_natCast];generalize ds.getD x0 0=d1 at c1;generalize ds.getD y0 0=d2 at c2;clear h
 by_cases hde:d1=d2
 ·subst hde;rw[if_pos rfl]
  go_enter func72,ntmps72
  go_wp2_with fail
  go_quiet (fail)
  go_wp2
  go_ret
  exact⟨by simp,_,rfl⟩
 ·rw[if_neg hde];have hne:(d1 !=d2)=true:=bne_iff_ne.2 hde
  go_enter func72,ntmps72
  go_wp2_with fail
  go_quiet (fail)
  go_wp2_with fail
  have c1':(w.drewN nq).cell? ⟨b,off+x0*3+1,none⟩=some (.int .i64 d1):=c1;have c2':(w.drewN nq).cell? ⟨b,off+y0*3+1,none⟩=some (.int .i64 d2):=c2
  go_quiet (fail)
  go_wp2
  go_ret
  exact⟨rfl,_,World.drewN_drewN _ _ _⟩
structure QAt(w:World)(B q:Nat)(fv v:Value)(l:List Int):Prop where
 blk:w.heap[q]?=some (.cells #[v,fv] 161 (0,0))
 own:Ew w B v l
theorem Nr{w:World}{B:Nat}{v:Value}{l:List Int}(h:Ew w B v l):∃a c,v=.slice a l.length c:=by
 rcases h.2 with⟨h1,hn0⟩|⟨g',cap,cur,h1,_⟩
 ·exact⟨none,0,by rw[h1,hn0]⟩
 ·exact⟨_,_,h1⟩
theorem QAt.c0{w:World}{B q:Nat}{fv v:Value}{l:List Int}(h:QAt w B q fv v l):w.cell? ⟨q,0,none⟩=some v:=Am h.blk 0
theorem QAt.c1{w:World}{B q:Nat}{fv v:Value}{l:List Int}(h:QAt w B q fv v l):w.cell? ⟨q,1,none⟩=some fv:=Am h.blk 1
theorem QAt.f0{w:World}{B q:Nat}{fv v:Value}{l:List Int}(h:QAt w B q fv v l)(k:Nat):w.frozen? ⟨q,k,none⟩=false:=by simp[World.frozen?,h.blk]
theorem QL(w:World)(B q:Nat)(fv v:Value)(l:List Int)(h:QAt w B q fv v l):Calls prog 74 #[.pointer (some ⟨q,0,none⟩)] w fun e w'=>e=.returned (.int .i64 l.length)∧w'=w:=by
 obtain⟨a,c,rfl⟩:=Nr h.own;have c0:=h.c0
 go_enter func74,ntmps74
 go_wp2
 go_ret
 first|exact⟨rfl,rfl⟩|rfl
theorem JO{w:World}{B:Nat}{v:Value}{l:List Int}(h:Ew w B v l){k:Nat}(hk:k<l.length):∃g cap,v=.slice (some ⟨g,0,none⟩) l.length cap∧B≤g∧g<w.heap.size∧w.cell? ⟨g,k,none⟩=some (.int .i64 (l.getD k 0))∧w.frozen? ⟨g,k,none⟩=false:=by
 rcases h.2 with⟨h1,hn0⟩|⟨g,cap,cur,h1,hg,hb,hnc,hcm,hcs,htk⟩
 ·omega
 ·refine⟨g,cap,h1,hg,(Array.getElem?_eq_some_iff.1 hb).1,?_,by simp[World.frozen?,hb]⟩;rw[Am hb,←Array.getElem?_toList]
  have h2:(cur.toList.take (l.length*1))[k]?=(l.map (Value.int .i64))[k]?:=by rw[htk]
  rw[List.getElem?_take_of_lt (by omega),List.getElem?_map,List.getElem?_eq_getElem hk]at h2;rw[h2,getD_eq hk];rfl
set_option maxHeartbeats 1000000 in
theorem UC(ds:List Int)(pa:Option Addr)(ca:Nat)(w:World)(B q:Nat)(v:Value)(l:List Int)(h:QAt w B q (.func (.func 72) #[.slice pa ds.length ca] #[]) v l)(hd:GM w pa ds)(hr:∀x∈l,0≤x∧x<(ds.length:Int))(i j:Nat)(hi:i<l.length)(hj:j<l.length):
  Calls prog 374 #[.pointer (some ⟨q,0,none⟩),.int .i64 i,.int .i64 j] w fun e w'=>e=.returned (.bool (Zh ds (l.getD i 0) (l.getD j 0)))∧∃m,w'=w.drewN m:=by
 obtain⟨g,cap,rfl,_,_,k1,_⟩:=JO h.own hi;obtain⟨g',cap',he,_,_,k2,_⟩:=JO h.own hj;cases he;have c0:=h.c0;have c1:=h.c1
 have hb:=fun n=>Zi ds pa ca (l.getD i 0) (l.getD j 0) (w.drewN n) ⟨hd.at_⟩ (hr _ (BK hi)) (hr _ (BK hj))
 generalize l.getD i 0=x at k1 hb;generalize l.getD j 0=y at k2 hb;clear hr hd
 go_enter func374,ntmps374
 go_wp2_with fail
 go_quiet ((go_at_call 72;exact Calls.quiet_of (hb _)))
 go_wp2
 go_ret
 exact⟨rfl,_,rfl⟩
structure QF(q:Nat)(v:Value)(w w':World):Prop where
 os:w'.os=w.os
 tape:w'.tape=w.tape
 output:w'.output=w.output
 size:w.heap.size≤w'.heap.size
 block:∀b,b<w.heap.size→b≠q→v.ownBlock≠some b→w'.heap[b]?=w.heap[b]?
theorem heap_set{w:World}{g i:Nat}{u:Value}{cur:Array Value}{e:TypeId}{fr:Nat×Nat}(h:w.heap[g]?=some (.cells cur e fr)):(w.setCell ⟨g,i,none⟩ u).heap[g]?=some (.cells (cur.setIfInBounds i u) e fr):=by
 simp[World.setCell,Array.getElem?_modify,h]
theorem WJ{w:World}{B g c i:Nat}{l:List Int}{x:Int}(h:Ew w B (.slice (some ⟨g,0,none⟩) l.length c) l)(hi:i<l.length):Ew (w.setCell ⟨g,i,none⟩ (.int .i64 x)) B (.slice (some ⟨g,0,none⟩) l.length c) (l.set i x):=by
 refine⟨by simp,?_⟩
 rcases h.2 with⟨h1,_⟩|⟨g',cap,cur,h1,hg,hb,hnc,hcm,hcs,htk⟩
 ·cases h1
 ·cases h1;refine .inr ⟨g,c,_,by rw[Qa0],hg,heap_set hb,by rw[Qa0];exact hnc,hcm,by rw[Array.size_setIfInBounds];exact hcs,?_⟩
  rw[Qa0,Array.toList_setIfInBounds,List.take_set,htk,List.map_set]
theorem ZU{w:World}{B q:Nat}{fv v:Value}{l:List Int}(h:QAt w B q fv v l):v.ownBlock≠some q:=by
 intro e
 rcases h.own.2 with⟨h1,_⟩|⟨g',cap,cur,h1,hg,hb,_⟩
 ·rw[h1]at e;cases e
 ·rw[h1]at e;cases e;rw[h.blk]at hb;cases hb
set_option maxHeartbeats 2000000 in
theorem OS(w:World)(B q:Nat)(fv v:Value)(l:List Int)(h:QAt w B q fv v l)(i j:Nat)(hi:i<l.length)(hj:j<l.length):
  Calls prog 377 #[.pointer (some ⟨q,0,none⟩),.int .i64 i,.int .i64 j] w fun e w'=>e=.returned (.tuple #[])∧QAt w' B q fv v ((l.set i (l.getD j 0)).set j (l.getD i 0))∧QF q v w w':=by
 obtain⟨g,cap,rfl,hg,hlt,k1,f1⟩:=JO h.own hi;obtain⟨g',cap',he,_,_,k2,f2⟩:=JO h.own hj;cases he;have c0:=h.c0
 have hgq:g≠q:=fun e=>ZU h (by rw[e];rfl)
 have hfin:QAt ((w.drew.setCell ⟨g,i,none⟩ (.int .i64 (l.getD j 0))).setCell ⟨g,j,none⟩ (.int .i64 (l.getD i 0))) B q fv (.slice (some ⟨g,0,none⟩) l.length cap) ((l.set i (l.getD j 0)).set j (l.getD i 0)):=by
  have o1:=WJ (w:=w.drew) (x:=l.getD j 0) h.own hi;have o2:=WJ (x:=l.getD i 0) (show Ew (w.drew.setCell ⟨g,i,none⟩ (.int .i64 (l.getD j 0))) B (.slice (some ⟨g,0,none⟩) (l.set i (l.getD j 0)).length cap) (l.set i (l.getD j 0))by rw[Qa0];exact o1) (i:=j) (by rw[Qa0];exact hj)
  rw[Qa0]at o2;exact⟨(Below.heap_setCell _ _ _ _ hgq.symm).trans ((Below.heap_setCell _ _ _ _ hgq.symm).trans h.blk),o2⟩
 have hqf:QF q (.slice (some ⟨g,0,none⟩) l.length cap) w ((w.drew.setCell ⟨g,i,none⟩ (.int .i64 (l.getD j 0))).setCell ⟨g,j,none⟩ (.int .i64 (l.getD i 0))):=
  ⟨rfl,rfl,rfl,by simp,fun b _ _ hb=>by
   have hbg:b≠g:=fun e=>hb (by rw[e];rfl)
   exact(Below.heap_setCell _ _ _ _ hbg).trans (Below.heap_setCell _ _ _ _ hbg)⟩
 have k3:∃z,(w.setCell ⟨g,i,none⟩ (.int .i64 (l.getD j 0))).drew.cell? ⟨g,j,none⟩=some z∧(w.setCell ⟨g,i,none⟩ (.int .i64 (l.getD j 0))).drew.frozen? ⟨g,j,none⟩=false:=by
  have o1:=WJ (x:=l.getD j 0) h.own hi;obtain⟨g2,cap2,he,_,_,q1,q2⟩:=JO (show Ew (w.setCell ⟨g,i,none⟩ (.int .i64 (l.getD j 0))) B (.slice (some ⟨g,0,none⟩) (l.set i (l.getD j 0)).length cap) (l.set i (l.getD j 0))by rw[Qa0];exact o1) (k:=j) (by rw[Qa0];exact hj)
  cases he;exact⟨_,q1,q2⟩
 obtain⟨z,k3,f3⟩:=k3;generalize l.getD i 0=x at k1 hfin hqf;generalize l.getD j 0=y at k2 hfin hqf k3 f3;clear h
 go_enter func377,ntmps377
 go_wp2_with fail
 go_region
 all_goals go_wp2
 go_end0
 exact⟨rfl,hfin,hqf⟩
theorem VE(x:Int)(w:World):(Instr.typeAssert (.iface 3 (.int .i64 x)) 20 3 false).run prog w=.ok (.int .i64 x) w:=by kernel_rfl
def Nxt(w:World)(v v':Value):Prop:=v'.ownBlock=v.ownBlock∨∀b,v'.ownBlock=some b→w.heap.size≤b
theorem Ir{w w':World}{B:Nat}{v:Value}{l:List Int}(h:Ew w B v l)(hs:∀b,v.ownBlock=some b→w'.heap[b]?=w.heap[b]?):Ew w' B v l:=by
 refine⟨h.1,?_⟩
 rcases h.2 with h|⟨g,cap,cur,h1,h2,h3,h4⟩
 ·exact .inl h
 ·exact .inr ⟨g,cap,cur,h1,h2,(hs g (by rw[h1];rfl)).trans h3,h4⟩
theorem AiD{w w5:World}{B q gg cap:Nat}{fv v:Value}{l:List Int}{x:Int}{o:Obj}(hqs:q<w.heap.size)(hbq:w5.heap[q]?=some (.cells #[v,fv] 161 (0,0)))
  (hown5:w5.ownsRow B 3 1 (.slice (some ⟨gg,0,none⟩) (l.length+1) cap) (l.length+1) (l.map (Value.int .i64)++[.int .i64 x])) (hgrow:(w.alloc o).drew.grownBy w5 v.ownBlock) (hat:v.ownBlock=some gg∨gg=w.heap.size+1):
  ∃v',QAt (w5.setCell ⟨q,0,none⟩ (.slice (some ⟨gg,0,none⟩) (l.length+1) cap)) B q fv v' (l++[x])∧QF q v w (w5.setCell ⟨q,0,none⟩ (.slice (some ⟨gg,0,none⟩) (l.length+1) cap))∧Nxt w v v':=by
 have hown:Ew w5 B (.slice (some ⟨gg,0,none⟩) (l.length+1) cap) (l++[x]):=by
  unfold Ew;rw[List.length_append,List.map_append];exact hown5
 have hne:gg≠q:=by
  rcases hown.2 with⟨h1,_⟩|⟨g',cap',cur,h1,hg,hb,_⟩
  ·cases h1
  ·simp only[Value.slice.injEq,Qa1,Addr.mk.injEq]at h1;obtain⟨⟨rfl,_⟩,_⟩:=h1;rintro rfl;rw[hbq]at hb;cases hb
 refine⟨_,⟨?_,Ir hown fun b hb=>?_⟩,⟨hgrow.os,hgrow.tape,hgrow.output,?_,fun b hb hbq2 hbv=>?_⟩,?_⟩
 ·rw[heap_set hbq];rfl
 ·cases hb;exact Below.heap_setCell _ _ _ _ hne
 ·have:=hgrow.size;simp at this⊢;omega
 ·exact(Below.heap_setCell _ _ _ _ hbq2).trans ((hgrow.block b (by simp;omega) (fun e=>hbv e.symm)).trans (Below.heap_alloc w o b hb))
 ·rcases hat with hat|hat
  ·exact .inl hat.symm
  ·exact .inr fun b hb=>by
    have:gg=b:=Qa2 hb;omega
set_option maxHeartbeats 2000000 in
theorem AbZ(w:World)(B q:Nat)(fv v:Value)(l:List Int)(x:Int)(h:QAt w B q fv v l)(hl:l.length≤1000000)(hB:B≤w.heap.size):
  Calls prog 376 #[.pointer (some ⟨q,0,none⟩),.iface 3 (.int .i64 x)] w fun e w'=>e=.returned (.tuple #[])∧∃v',QAt w' B q fv v' (l++[x])∧QF q v w w'∧Nxt w v v':=by
 obtain⟨i0,hi,hz0,hz1,hz2⟩:=info_parts (P:=prog) (e:=3) (z:=.int .i64 0) (size:=1) (bytes:=8) (by kernel_rfl);obtain⟨a,c,rfl⟩:=Nr h.own;have c0:=h.c0;have hqs:q<w.heap.size:=(Array.getElem?_eq_some_iff.1 h.blk).1;have hnq:=ZU h;have hown:=h.own;have hblk:w.drew.heap[q]?=_:=h.blk;clear h
 have hta:=fun W=>VE x W
 go_enter func376,ntmps376
 go_wp2_with fail
 go_region_law (refine step_append_lies _ (by rfl) _ _ _ (by rfl) B 3 i0 (.int .i64 0) 1 8 underlying22 hi hz0 hz1 hz2 rfl (by omega) (.slice a l.length c) l.length (l.map (Value.int .i64)) (by rfl) (World.ownsRow.alloc (w:=w.drew) hown _) ⟨w.heap.size,0,none⟩ 1 1 [.int .i64 x] (by rfl) (by rfl) (World.news_of_block (cs:=#[.int .i64 x]) (t:=3) (fr:=(0,0)) (heap_alloc_new w.drew _)) (by simp[Value.oneCell']) (by omega) (by unfold maxLen;omega) (by omega) (by simp;omega) (w.heap.size+1) (by simp) ?_;intro gg cap w5 hown5 hgrow hat hlt;have hbq:=(hgrow.block q (by simp;omega) (fun e1=>hnq e1.symm)).trans ((Below.heap_alloc w.drew _ q (by simpa using hqs)).trans hblk);have c5:=Am hbq 0;have f5:w5.frozen? ⟨q,0,none⟩=false:=by simp[World.frozen?,hbq])
 all_goals go_wp2
 all_goals go_end0
 all_goals exact⟨rfl,AiD hqs hbq hown5 hgrow hat⟩
set_option maxHeartbeats 2000000 in
theorem Ad3(w:World)(B q:Nat)(fv v:Value)(l:List Int)(x:Int)(h:QAt w B q fv v (l++[x]))(hl:l.length≤1000000):
  Calls prog 375 #[.pointer (some ⟨q,0,none⟩)] w fun e w'=>e=.returned (.iface 3 (.int .i64 x))∧∃v',QAt w' B q fv v' l∧QF q v w w'∧v'.ownBlock=v.ownBlock:=by
 obtain⟨g,cap,rfl,hg,hlt,k1,f1⟩:=JO h.own (k:=l.length) (by simp)
 have hlx:(l++[x]).getD l.length 0=x:=by simp
 rw[hlx]at k1;have c0:=h.c0;have f0:=h.f0 0;have hnq:=ZU h;have hown:=h.own;have hblk:=h.blk;clear h;rw[List.length_append,List.length_singleton]at c0
 obtain⟨hcap,hc63⟩:l.length+1≤cap∧cap≤maxLen:=by
  rcases hown.2 with⟨h1,_⟩|⟨g',cap',cur,h1,hg,hb,hnc,hcm,_⟩
  ·cases h1
  ·simp only[Value.slice.injEq,Qa1,Addr.mk.injEq]at h1;obtain⟨_,_,rfl⟩:=h1;exact⟨by simpa using hnc,hcm⟩
 have hown':Ew w B (.slice (some ⟨g,0,none⟩) l.length cap) l:=by
  rcases hown.2 with⟨h1,_⟩|⟨g',cap',cur,h1,hg,hb,hnc,hcm,hcs,htk⟩
  ·cases h1
  ·simp only[Value.slice.injEq,Qa1,Addr.mk.injEq]at h1;obtain⟨⟨rfl,_⟩,_,rfl⟩:=h1;refine⟨by simp,.inr ⟨g,cap,cur,rfl,hg,hb,by omega,hcm,hcs,?_⟩⟩
   have h2:(cur.toList.take ((l++[x]).length*1)).take (l.length*1)=((l++[x]).map (Value.int .i64)).take (l.length*1):=by rw[htk]
   rw[List.take_take,List.map_append,Nat.mul_one,List.take_left' (by simp)]at h2;rw[←h2];simp
 have hgq:g≠q:=fun e=>hnq (by rw[e];rfl)
 go_enter func375,ntmps375
 go_wp2
 go_ret
 refine⟨rfl,.slice (some ⟨g,0,none⟩) l.length cap,⟨?_,Ir hown' fun b hb=>?_⟩,⟨rfl,rfl,rfl,by simp,fun b _ hbq _=>Below.heap_setCell _ _ _ _ hbq⟩,rfl⟩
 ·rw[heap_set hblk];rfl
 ·have:g=b:=Qa2 hb;subst this;exact Below.heap_setCell _ _ _ _ hgq
end Go.Proofs.Tryz
