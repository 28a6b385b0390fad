/- intern.number, walked. -/
import Derived.Test.YtopngokkgogolaaGreatDoorKKNX
import Derived.Deep.RegionLaw
set_option linter.unusedVariables false
set_option linter.unusedSimpArgs false
open Nat renaming le_refl → Qa0
open List renaming replicate → Qa1, getElem?_eq_getElem → Qa2, getD_eq_getElem?_getD → Qa3, getElem?_replicate → Qa4, length_replicate → Qa5
namespace Go.Proofs.Tryz
open Go.Shelf Go.RowKit Go.VS Go Go.Sort Go.Maps
attribute [local go_sem ↓] Go.wp_at_zero Go.wp_at_succ
theorem Aiy{w:World}{B Bo n:Nat}(h:w.ownsRow B 22 1 (.slice (some ⟨Bo,0,none⟩) n n) n (Qa1 n (.slice none 0 0))):Fv w B Bo (Qa1 n (.slice none 0 0)) (Qa1 n []):=by
 have hv:∀j,j<n→(Qa1 n (Value.slice none 0 0)).getD j undef=.slice none 0 0:=fun j hj=>by rw[Qa3,Qa4,if_pos hj];rfl
 have hr:∀j,(Qa1 n ([]:List Int)).getD j []=[]:=fun j=>by rw[Qa3,Qa4];split<;>rfl
 rcases h.2 with⟨h1,_⟩|⟨g,cap,cur,h1,hg,hb,hnc,hcm,hcs,htk⟩
 ·cases h1
 ·have hg2:g=Bo∧cap=n:=by cases h1;exact⟨rfl,rfl⟩
  obtain⟨rfl,rfl⟩:=hg2
  have hcur:cur=(Qa1 cap (Value.slice none 0 0)).toArray:=by
   rw[List.take_of_length_le (by rw[Array.length_toList,hcs];exact Qa0 _)]at htk
   rw[←htk,Array.toArray_toList]
  rw[hcur]at hb;refine⟨hb,by simp,fun j hj=>?_,fun i j hi hj hij b hbk=>?_,hg⟩
  ·rw[Qa5]at hj;rw[hv j hj,hr j];exact Sa _ _
  ·rw[Qa5]at hi;rw[hv i hi]at hbk;cases hbk
theorem Fv.cell{w:World}{B Bo i:Nat}{vs:List Value}{rows:List (List Int)}(h:Fv w B Bo vs rows)(hi:i<vs.length):w.cell? ⟨Bo,i,none⟩=some (vs.getD i undef)∧w.frozen? ⟨Bo,i,none⟩=false:=by
 refine⟨?_,by simp[World.frozen?,h.blk]⟩;have h1:=Am h.blk i;refine h1.trans ?_;rw[List.getElem?_toArray,getD_eq hi,Qa2 hi]
theorem Akr{w w':World}{B Bo i:Nat}{vs:List Value}{rows:List (List Int)}{u z:Value}{r:List Int}{o:Obj}(h:Fv w B Bo vs rows)(hr:Ew w B u r)(hc:w.cell? ⟨Bo,i,none⟩=some z)(hg:(w.alloc o).grownBy w' u.ownBlock):w'.cell? ⟨Bo,i,none⟩=some z∧w'.frozen? ⟨Bo,i,none⟩=false:=by
 have hlt:=(Array.getElem?_eq_some_iff.1 h.blk).1;have hb:w'.heap[Bo]?=w.heap[Bo]?:=(hg.block Bo (by simp;omega) (fun e1=>GW hr h.blk (by decide) e1.symm)).trans (Below.heap_alloc w o Bo hlt)
 refine⟨?_,by simp[World.frozen?,hb,h.blk]⟩;rw[←hc];unfold World.cell?;rw[hb]
def cellOf(w:World)(a:Addr):Value:=(w.cell? a).getD undef
theorem AaI{w:World}{a:Addr}{z:Value}(h:w.cell? a=some z):w.cell? a=some (cellOf w a):=by
 unfold cellOf;rw[h];rfl
theorem Am8{w:World}{a:Addr}{z:Value}(h:w.cell? a=some z):cellOf w a=z:=by
 unfold cellOf;rw[h];rfl
theorem Anv{w:World}{a:Addr}{z v:Value}(h:w.cell? a=some z):(w.setCell a v).cell? a=some (cellOf (w.setCell a v) a):=AaI (World.cell?_setCell_same _ _ _ h)
theorem Fv.drew{w:World}{B Bo:Nat}{vs:List Value}{rows:List (List Int)}(h:Fv w B Bo vs rows):Fv w.drew B Bo vs rows:=⟨h.blk,h.len,fun j hj=>Vl (h.row j hj) fun _ _=>rfl,h.dis,h.bo⟩
set_option maxHeartbeats 4000000 in
set_option maxRecDepth 1000000 in
theorem ZQ(x:List (List Bs))(pa:Option Addr)(ca:Nat)(w:World)(hx:x.length≤4096)(hl:∀l∈x,l.length≤4096∧∀s∈l,s.length≤1048576)(hv:Ahp w pa x):
  Calls prog 120 #[.slice pa x.length ca] w fun e w'=>∃(Bo Bt Bm:Nat) (g:Bs→Option Int) (ns:List Bs) (v:Value) (vs:List Value) (rows:List (List Int)),e=.returned (.tuple #[.slice (some ⟨Bo,0,none⟩) x.length x.length,v])∧vs.length=x.length∧Fv w' w.heap.size Bo vs rows∧GF w' w.heap.size Bt Bm g ns v∧NuI x g rows x.length 0∧ns.length≤WN x x.length∧Below w.heap.size w w':=by
 obtain⟨i0,hi,hz0,hz1,hz2⟩:=info_parts (P:=prog) (e:=22) (z:=.slice none 0 0) (size:=1) (bytes:=24) (by kernel_rfl);have hmk:(Instr.makeMap 301 none).run prog w=.ok (.map (some w.heap.size)) (w.alloc (.map #[] 0)):=rfl;have hM0:MJ (w.alloc (.map #[] 0)) w.heap.size 0 (fun _=>none):=CJ.made (Elt.int underlying3) w
 have hB0:Below w.heap.size w (w.alloc (.map #[] 0)):=(Below.refl _ w).alloc (Qa0 _) _
 have hT0:GF ((w.alloc (.map #[] 0)).alloc (.cells #[.map (some w.heap.size),.slice none 0 0] 303)) w.heap.size (w.heap.size+1) w.heap.size (fun _=>none) [] (.slice none 0 0):=by
  refine⟨?_,CJ.alloc hM0 _,World.ownsRow_nil _ _ _ _,(fun s i h=>nomatch h),by omega,Qa0 _⟩;have:=heap_alloc_new (w.alloc (.map #[] 0)) (.cells #[.map (some w.heap.size),.slice none 0 0] 303);rw[show(w.alloc (.map #[] 0)).heap.size=w.heap.size+1 by simp]at this;exact this
 have hB1:=hB0.alloc (by simp) (.cells #[.map (some w.heap.size),.slice none 0 0] 303)
 go_enter func120,ntmps120
 go_wp2_with (at_make;refine wpList_make_full _ rfl _ _ 85 rfl w.heap.size 22 i0 (.slice none 0 0) 1 underlying85 hi hz0 hz1 _ _ _ _ x.length rfl rfl rfl rfl ?m1 ?m2 ?m3 ?_)
 case m1=>rw[hz2];omega
 case m2=>unfold maxLen;omega
 case m3=>simp;omega
 intro w3 hown3 hg3;rw[toList_madeCells_one]at hown3;have hO3:=Aiy hown3
 have hsz1:((w.alloc (.map #[] 0)).alloc (.cells #[.map (some w.heap.size),.slice none 0 0] 303)).heap.size=w.heap.size+1+1:=by simp
 have hT3:GF w3 w.heap.size (w.heap.size+1) w.heap.size (fun _=>none) [] (.slice none 0 0):=hT0.below (below_grow (Below.refl _ _) hg3 (fun i h=>nomatch h) (Qa0 _));have hB3:Below w.heap.size w w3:=below_grow hB1 hg3 (fun i h=>nomatch h) (Qa0 _)
 have hN3:=NuI.start x fun _=>none
 have hWb:=WN.le fun l h=>(hl l h).1
 clear hown3 hg3 hT0 hB1 hsz1 hM0 hB0 hmk hi hz0 hz1 hz2
 have hvl:(Qa1 x.length (Value.slice none 0 0)).length=x.length:=by simp
 obtain⟨ij,hj,hj0,hj1,hj2⟩:=info_parts (P:=prog) (e:=3) (z:=.int .i64 0) (size:=1) (bytes:=8) (by kernel_rfl)
 go_wp2
 generalize hBo:w.heap.size+1+1=Bo at*;generalize hBt:w.heap.size+1=Bt at*
 go_loopw [18] (fun i wr=>∃k:Nat,k≤x.length∧i=.int .i64 k∧∃(g:Bs→Option Int) (ns:List Bs) (v:Value) (vs:List Value) (rows:List (List Int)),vs.length=x.length∧Fv wr w.heap.size Bo vs rows∧GF wr w.heap.size Bt w.heap.size g ns v∧NuI x g rows k 0∧ns.length≤WN x k∧Below w.heap.size w wr) (fun i _=>x.length -(Lib.intOf i).toNat)
 case atStart=>exact⟨0,Nat.zero_le _,rfl,_,_,_,_,_,hvl,hO3,hT3,hN3,Nat.zero_le _,hB3⟩
 case round=>
  clear hO3 hT3 hN3 hB3 hvl;obtain⟨i,hix,hi,g,ns,v,vs,rows,hvl,hO,hT,hN,hns,hB⟩:=hrel;subst hi
  by_cases his:i<x.length
  ·have hlx:=Qa2 his;obtain⟨bl,off,a1,c1,rfl,hbl,q0,hst⟩:=hv.at_ i x[i] hlx;have c0:=(hB.cell (p:=⟨bl,off+i,none⟩) hbl).trans q0;obtain⟨hl1,hl2⟩:=hl _ (List.getElem_mem his);have hW1:=WN.next hlx;have hW2:=hWb i (by omega);generalize x[i]=l at c0 hst hl1 hl2 hlx hW1;clear q0
   go_wp2
   go_loopw [25] (fun kk wq=>∃k:Nat,k≤l.length∧kk=.int .i64 k∧∃(g:Bs→Option Int) (ns:List Bs) (v:Value) (vs:List Value) (rows:List (List Int)),vs.length=x.length∧Fv wq w.heap.size Bo vs rows∧GF wq w.heap.size Bt w.heap.size g ns v∧NuI x g rows i k∧ns.length≤WN x i+k∧Below w.heap.size w wq) (fun kk _=>l.length -(Lib.intOf kk).toNat)
   case atStart=>exact⟨0,Nat.zero_le _,rfl,g,ns,v,vs,rows,hvl,hO,hT,hN,hns,hB⟩
   case round=>
    clear hvl hO hT hN hns hB c0;obtain⟨k,hk,hi,g,ns,v,vs,rows,hvl,hO,hT,hN,hns,hB⟩:=hrel;subst hi
    by_cases hks:k<l.length
    ·obtain⟨bs,os,rfl,hbs,q1⟩:=hst.at_ k l[k] (Qa2 hks);have c1:=(hB.cell (p:=⟨bs,os+k,none⟩) hbs).trans q1;have hsl:=hl2 _ (List.getElem_mem hks)
     have hnx:=fun g' n=>NuI.next (g':=g') (n:=n) hN hlx (Qa2 hks)
     generalize hsk:l[k]=s at c1 hsl hnx;clear hsk
     have hrl:(rows.getD i []).length≤4096:=by
      rw[((hN.2 i l hlx).2.1 rfl).2,List.length_map,List.length_take];omega
     clear q1 hN
     have hiv:i<vs.length:=by omega
     obtain⟨hcell,_⟩:=hO.drew.cell hiv;have hid:=Aij wr.drew w.heap.size Bt w.heap.size g ns v hT.drew s hsl (by omega)
     have hri:=fun(W:World) (h:Fv W w.heap.size Bo vs rows)=>h.row i hiv
     have hci:=fun(W:World) (h:Fv W w.heap.size Bo vs rows)=>(h.cell hiv).1
     have hdone:=fun(W W':World) (v':Value) (q:List Int) (h:Fv W w.heap.size Bo vs rows)=>Fv.app (w':=W') (v':=v') (r:=q) h hiv
     have hri0:=hri _ hO.drew;generalize rows.getD i []=r at hri hri0 hnx hrl;generalize vs.getD i undef=u at hcell hri hri0 hci hdone
     obtain⟨ai,ci,hvi⟩:∃a c,u=.slice a r.length c:=by
      rcases hri0.2 with⟨h1,hn0⟩|⟨g',cap,cur,h1,_⟩
      ·exact⟨none,0,by rw[h1,hn0]⟩
      ·exact⟨_,_,h1⟩
     subst hvi
     have l0:(0:Int)≤(i:Int):=by omega
     have l1:(i:Int)<(x.length:Int):=by omega
     go_wp2_with fail
     go_region_law (first|(go_simp;go_at_call 187;refine hid.mono ?_;rintro e w4 ⟨n,g2,ns2,v2,rfl,hT4,hg2,hext,hns2,hB4,hKT⟩;have hO4:=hO.drew.kept hKT;have hr4:=hri _ hO4;have hc4:=hci _ hO4;have hc5:=hci _ (hO4.below ((Below.refl _ _).alloc (Qa0 _) (.cells #[.int .i64 n] 3))))|((refine step_append_lies _ (by rfl) _ _ _ (by rfl) w.heap.size 3 ij (.int .i64 0) 1 8 underlying22 hj hj0 hj1 hj2 rfl (by omega) (.slice ai r.length ci) r.length (r.map (Value.int .i64)) (by rfl) (World.ownsRow.alloc hr4 _) ⟨w4.heap.size,0,none⟩ 1 1 [.int .i64 n] (by rfl) (by rfl) (World.news_of_block (cs:=#[.int .i64 n]) (t:=3) (fr:=(0,0)) (heap_alloc_new w4 _)) (by simp[Value.oneCell']) (by omega) (by unfold maxLen;omega) (by omega) (by have:=hB4.size;have:=hB.size;simp;simp at*;omega) (w4.heap.size+1) (by simp) ?_;intro gg cap w5 hown5 hgrow hat hlt;obtain⟨hkc,hkf⟩:=Akr hO4 hr4 (hci _ hO4) hgrow)))
     all_goals
      have hO5:=hO4.below ((Below.refl _ w4).alloc (Qa0 _) (.cells #[.int .i64 n] 3));have hr5:=hri _ hO5
      have hown6:Ew w5 w.heap.size (.slice (some ⟨gg,0,none⟩) (r.length+1) cap) (r++[n]):=by
       unfold Ew;rw[List.length_append,List.map_append];exact hown5
      have hbb:=(hgrow.block Bo (Array.getElem?_eq_some_iff.1 hO5.blk).1 (fun e1=>GW hr5 hO5.blk (by decide) e1.symm)).trans hO5.blk
      have hO6:=hdone _ _ _ _ hO5 hgrow hown6 (by
       rcases hat with q|q
       ·exact .inl q.symm
       ·refine .inr ?_;show some gg=_;rw[q]
        simp)
      have hT6:=((hT4.below ((Below.refl _ w4).alloc (Qa0 _) (.cells #[.int .i64 n] 3))).grown hr5 hgrow).set (i:=i) (u:=.slice (some ⟨gg,0,none⟩) (r.length+1) cap) hbb
      have hBs:w.heap.size≤w4.heap.size:=by have:=hB.drew.size;have:=hB4.size;omega
      have hB6:Below w.heap.size w (w5.setCell ⟨Bo,i,none⟩ (.slice (some ⟨gg,0,none⟩) (r.length+1) cap)):=(below_grow ((hB.drew.trans hB4).alloc hBs _) hgrow (fun j e1=>(World.ownsRow.lt hr5 j e1).1) (Qa0 _)).setCell (p:=⟨Bo,i,none⟩) hO.bo _;have hN6:=hnx g2 n hg2 hext
      go_wp2
      go_roundw
      case rel=>exact⟨k+1,by omega,by simp,g2,ns2,v2,_,_,by rw[List.length_set];exact hvl,hO6,hT6,hN6,by omega,hB6⟩
      case measure=>simp only[Lib.intOf];omega
    ·have hke:k=l.length:=by omega
     subst hke;have hN6:=hN.row hlx;clear hN
     go_wp2
     go_roundw
     case rel=>exact⟨i+1,by omega,by simp,g,ns,v,vs,rows,hvl,hO,hT,hN6,by omega,hB⟩
     case measure=>simp only[Lib.intOf];omega
  ·have hie:i=x.length:=by omega
   subst hie;have ct:wr.drew.cell? ⟨Bt,1,none⟩=some v:=Am hT.drew.tb 1
   go_wp2_with fail
   go_region
   go_wp2
   go_ret2
   exact⟨Bo,Bt,w.heap.size,g,ns,v,vs,rows,rfl,hvl,hO.drew,hT.drew,hN,hns,hB.drew⟩
end Go.Proofs.Tryz
