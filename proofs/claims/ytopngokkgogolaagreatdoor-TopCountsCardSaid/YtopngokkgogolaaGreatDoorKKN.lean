/- tree.ordered, walked: a map of the files, and the directories looked up in it. -/
import Derived.Test.YtopngokkgogolaaGreatDoorKKShelf
import Derived.Test.YtopngokkgogolaaGreatDoorKKM
import Derived.Test.YtopngokkgogolaaGreatDoorKS0
import Derived.WalkSmall
import Derived.Deep.QuietTactic
import Derived.BigQuiet
import Derived.Laws.Cover1
import Derived.Lib.Split
set_option linter.unusedVariables false
set_option linter.unusedSimpArgs false
open List renaming getElem?_eq_getElem → Qa0, getD_eq_getElem?_getD → Qa1
namespace Go.Proofs.Tryz
open Go.Shelf Go.RowKit Go.VS Go Go.Maps
def MG(w:World)(b n:Nat)(g:Bs→Option Bs):Prop:=CJ prog 9 (Elt.str underlying9) w b n g
theorem AjF(w:World):(zeroValue 9).run prog w=.ok ((Elt.str (P:=prog) underlying9).val ([]:Bs)) w:=Tryz.zeroValue9 w
def Ac9(l:List Av)(k:Nat):Bs→Option Bs:=(l.take k).foldl (fun g f=>gput g f.1 f.2) fun _=>none
theorem AfV{l:List Av}{k:Nat}{x:Av}(h:l[k]?=some x):Ac9 l (k+1)=gput (Ac9 l k) x.1 x.2:=by
 unfold Ac9;rw[List.take_add_one,h,List.foldl_append];rfl
theorem Ys:∀(l:List Av) (g:Bs→Option Bs) (p:Bs),(l.foldl (fun g f=>gput g f.1 f.2) g) p=match BM l p with|some v=>some v|none=>g p
 |[],g,p=>rfl
 |f::r,g,p=>by
  rw[List.foldl_cons,Ys r _ p,BM]
  cases BM r p with
  |some v=>rfl
  |none=>
   unfold gput;dsimp only
   split<;>rfl
theorem AfU(l:List Av)(p:Bs):Ac9 l l.length p=BM l p:=by
 unfold Ac9;rw[List.take_length,Ys]
 cases BM l p<;>rfl
set_option maxHeartbeats 2000000 in
set_option maxRecDepth 1000000 in
theorem Ot(l:List Av)(hn:l.length≤1000000)(hl:∀f∈l,f.1.length≤140737488351232∧f.2.length≤140737488351232)(a:Option Addr)(c:Nat)(w:World)(hv:Aan w a l):
  Calls prog 211 #[.slice a l.length c] w fun e w'=>e=.returned (.map (some w.heap.size))∧MG w' w.heap.size l.length (BM l)∧Below w.heap.size w w':=by
 go_enter func211,ntmps211
 have hmk:(Instr.makeMap 331 none).run prog w=.ok (.map (some w.heap.size)) (w.alloc (.map #[] 0)):=rfl
 go_wp2
 have hM0:MG (w.alloc (.map #[] 0)) w.heap.size 0 (Ac9 l 0):=CJ.made (Elt.str underlying9) w;have hB0:Below w.heap.size w (w.alloc (.map #[] 0)):=(Below.refl _ w).alloc (Nat.le_refl _) _;generalize w.alloc (.map #[] 0)=w1 at hM0 hB0⊢
 go_loopw [9] (fun i wr=>∃k:Nat,k≤l.length∧i=.int .i64 k∧MG wr w.heap.size k (Ac9 l k)∧Below w.heap.size w wr) (fun i _=>l.length -(Lib.intOf i).toNat)
 case atStart=>exact⟨0,Nat.zero_le _,rfl,hM0,hB0⟩
 case round=>
  obtain⟨k,hk,hi,hM,hB⟩:=hrel;subst hi
  by_cases hks:k<l.length
  ·obtain⟨b,off,rfl,hb,q0,q1⟩:=hv.at_ k l[k] (Qa0 hks);have c0:=(hB.cell (p:=⟨b,off+k*2,none⟩) hb).trans q0;have c1:=(hB.cell (p:=⟨b,off+k*2+1,none⟩) hb).trans q1;have hnx:=AfV (l:=l) (Qa0 hks);obtain⟨hl1,hl2⟩:=hl _ (List.getElem_mem hks);generalize hx:l[k]=x at c0 c1 hnx hl1 hl2;obtain⟨p,bl⟩:=x
   dsimp only at c0 c1 hnx hl1 hl2;have hM2:=CJ.alloc hM (.cells #[.string ⟨p.toArray⟩,.string ⟨bl.toArray⟩] 71);obtain⟨w3,hrun,hM3,hg3⟩:=CJ.put hM2 underlying9 (t:=331) underlying331 (by unfold maxLen;omega) (k:=p) (by unfold maxLen;omega) (v:=bl) (by show bl.length≤maxLen;unfold maxLen;omega)
   have hrun:(Instr.mapUpdate 331 (.map (some w.heap.size)) (.string ⟨p.toArray⟩) (.string ⟨bl.toArray⟩)).run prog (wr.alloc (.cells #[.string ⟨p.toArray⟩,.string ⟨bl.toArray⟩] 71))=.ok () w3:=hrun;have hB3:Below w.heap.size w w3:=VJ (hB.alloc hB.size _) hg3 (Nat.le_refl _) (Nat.le_refl _);rw[←hnx]at hM3;clear hM hM2 hg3 q0 q1
   go_wp2
   go_roundw
   case rel=>exact⟨k+1,by omega,by simp,hM3,hB3⟩
   case measure=>
    simp only[Lib.intOf];omega
  ·have hke:k=l.length:=by omega
   subst hke
   go_wp2
   go_ret
   exact⟨rfl,CJ.congr hM fun p=>(AfU l p).symm,hB⟩
theorem Aag(p:Bs)(k:Nat):(⟨(p.take k).toArray⟩:ByteArray)=ByteArray.extract ⟨p.toArray⟩ 0 k:=by
 apply ByteArray.ext;apply Array.toList_inj.1;rw[Lib.extract_from_zero]
def Ais(g:Bs→Option Bs)(p:Bs)(i:Nat):Bool:=(g (p.take i)).isSome&&(p.getD i 0==47)
def MK(g:Bs→Option Bs)(p:Bs):Bool:=(List.range p.length).any (Ais g p)
set_option maxHeartbeats 2000000 in
set_option maxRecDepth 1000000 in
theorem ZP(p:Bs)(hp:p.length≤140737488351232)(b n:Nat)(g:Bs→Option Bs)(w:World)(hM:MG w b n g):
  Calls prog 274 #[.string ⟨p.toArray⟩,.map (some b)] w fun e w'=>e=.returned (.bool (MK g p))∧w'=w:=by
 go_enter func274,ntmps274
 have hsz:ByteArray.size ⟨p.toArray⟩=p.length:=by simp[ByteArray.size]
 go_wp2
 go_loop [10] (fun i=>∃k:Nat,k≤p.length∧i=.int .i64 k∧∀j,j<k→Ais g p j=false) (fun i=>p.length -(Lib.intOf i).toNat)
 case atStart=>exact⟨0,Nat.zero_le _,rfl,fun j hj=>absurd hj (by omega)⟩
 case round=>
  obtain⟨k,hk,hi,hno⟩:=hrel;subst hi
  by_cases hks:k<p.length
  ·have c1:(0:Int)≤(k:Int):=by omega
   have c2:(k:Int)≤(p.length:Int):=by omega
   have hlk:=CJ.look hM underlying9 (t:=331) underlying331 (AjF w) (by show([]:Bs).length≤maxLen;unfold maxLen;simp) (k:=p.take k) (by rw[List.length_take];unfold maxLen;omega)
   rw[Aag]at hlk;have hnk:Ais g p k=((g (p.take k)).isSome&&(p.getD k 0==47)):=rfl;generalize(g (p.take k)).isSome=ok at hlk hnk;generalize(Elt.str (P:=prog) underlying9).val ((g (p.take k)).getD [])=vv at hlk
   have hget:p.toArray[k]?=some (p.getD k 0):=by
    rw[List.getElem?_toArray,Qa1,Qa0 hks];rfl
   cases ok with
   |false=>
    go_wp2
    refine⟨⟨k+1,by omega,by simp,fun j hj=>?_⟩,by simp only[Lib.intOf];omega⟩
    by_cases hjk:j=k
    ·subst hjk;rw[hnk];rfl
    ·exact hno j (by omega)
   |true=>
    have hidx:∀h,((⟨p.toArray⟩:ByteArray)[k]'h)=p.getD k 0:=fun h=>by
     rw[Qa1,Qa0 hks];rfl
    go_wp2
    ·rename_i hb _
     go_ret
     refine⟨?_,rfl⟩
     have hb:p.getD k 0=47:=by
      have h1:=eq_of_beq hb;rw[Qa1,Qa0 hks];exact UInt8.toNat_inj.1 (by rw[show(47:UInt8).toNat=47 from rfl];simp only[Option.getD_some];omega)
     show Ending.returned (Value.bool true)=_;rw[show MK g p=true from List.any_eq_true.2 ⟨k,List.mem_range.2 hks,by rw[hnk,hb];rfl⟩]
    ·rename_i hb;refine⟨⟨k+1,by omega,by simp,fun j hj=>?_⟩,by simp only[Lib.intOf];omega⟩
     by_cases hjk:j=k
     ·subst hjk;rw[hnk]
      have hb:p.getD j 0≠47:=fun e=>by
       rw[Qa1,Qa0 hks,Option.getD_some]at e;rw[e]at hb;exact absurd hb (by decide)
      rw[show(p.getD j 0==47)=false from beq_eq_false_iff_ne.2 hb];rfl
     ·exact hno j (by omega)
  ·have hke:k=p.length:=by omega
   subst hke
   go_wp2
   go_ret
   refine⟨?_,rfl⟩;show Ending.returned (Value.bool false)=_
   rw[show MK g p=false from by
    unfold MK;rw[List.any_eq_false];intro j hj
    rw[hno j (List.mem_range.1 hj)];simp]
theorem Alw{g g':Bs→Option Bs}(h:∀p,g p=g' p)(p:Bs):MK g p=MK g' p:=by rw[show g=g' from funext h]
def AdP(l:List Av)(i:Nat):Bool:=(i==0||Op.bytesLess (l.getD (i -1) ([],[])).1 (l.getD i ([],[])).1)&&!Afk l (l.getD i ([],[])).1
set_option maxHeartbeats 4000000 in
set_option maxRecDepth 1000000 in
theorem X1(l:List Av)(hn:l.length≤1000000)(hl:∀f∈l,f.1.length≤140737488351232∧f.2.length≤140737488351232)(a:Option Addr)(c:Nat)(w:World)(hv:Aan w a l):
  Calls prog 208 #[.slice a l.length c] w fun e w'=>e=.returned (.bool (WI l))∧Below w.heap.size w w':=by
 generalize hRF:WI l=RF
 go_enter func208,ntmps208
 go_wp2_with (go_at_call 211;refine(Ot l hn hl a c w hv).mono ?_)
 rintro e w1 ⟨rfl,hM0,hB0⟩
 go_wp2
 go_loopw [10] (fun i wr=>∃k:Nat,k≤l.length∧i=.int .i64 k∧(∀j,j<k→AdP l j=true)∧MG wr w.heap.size l.length (BM l)∧Below w.heap.size w wr) (fun i _=>l.length -(Lib.intOf i).toNat)
 case atStart=>exact⟨0,Nat.zero_le _,rfl,fun j hj=>absurd hj (by omega),hM0,hB0⟩
 case round=>
  obtain⟨k,hk,hi,hno,hM,hB⟩:=hrel;subst hi
  by_cases hks:k<l.length
  ·obtain⟨b,off,rfl,hb,q0,q1⟩:=hv.at_ k l[k] (Qa0 hks);have c0:=(hB.cell (p:=⟨b,off+k*2,none⟩) hb).trans q0;have c1:=(hB.cell (p:=⟨b,off+k*2+1,none⟩) hb).trans q1;obtain⟨hl1,hl2⟩:=hl _ (List.getElem_mem hks)
   have hgk:l.getD k ([],[])=l[k]:=by rw[Qa1,Qa0 hks];rfl
   have hok:AdP l k=((k==0||Op.bytesLess (l.getD (k -1) ([],[])).1 l[k].1)&&!MK (BM l) l[k].1):=by
    unfold AdP;rw[hgk];rfl
   have hnst:=ZP l[k].1 hl1 w.heap.size l.length (BM l);generalize hx:l[k]=x at c0 c1 hl1 hl2 hok hnst;obtain⟨p,bl⟩:=x;dsimp only at c0 c1 hl1 hl2 hok hnst;have hM2:=CJ.alloc hM (.cells #[.string ⟨p.toArray⟩,.string ⟨bl.toArray⟩] 71);have hB2:=hB.alloc hB.size (.cells #[.string ⟨p.toArray⟩,.string ⟨bl.toArray⟩] 71)
   have hbne:b≠wr.heap.size:=by have:=hB.size;omega
   have hfin:∀W:World,MG W w.heap.size l.length (BM l)→∀n,MG (W.drewN n) w.heap.size l.length (BM l):=fun W h n=>CJ.of_block h rfl
   rcases Nat.eq_zero_or_pos k with hk0|hkp
   ·have hok:AdP l k=!MK (BM l) p:=by rw[hok,hk0];rfl
    have hd0:decide (0<k)=false:=decide_eq_false (by omega)
    have hkz:¬((k:Int)>0):=by omega
    clear hk0
    have hnst:∀n,Calls prog 274 #[.string ⟨p.toArray⟩,.map (some w.heap.size)] ((wr.alloc (.cells #[.string ⟨p.toArray⟩,.string ⟨bl.toArray⟩] 71)).drewN n) fun e w'=>e=.returned (.bool (MK (BM l) p))∧w'=(wr.alloc (.cells #[.string ⟨p.toArray⟩,.string ⟨bl.toArray⟩] 71)).drewN n:=fun n=>hnst _ (hfin _ hM2 n)
    generalize hw2:wr.alloc (.cells #[.string ⟨p.toArray⟩,.string ⟨bl.toArray⟩] 71)=W2 at hM2 hB2 hnst
    have e0:W2.cell? ⟨wr.heap.size,0,none⟩=some (.string ⟨p.toArray⟩):=by rw[←hw2];simp
    have hbn:∀n,Below w.heap.size w (W2.drewN n):=fun n=>⟨hB2.os,hB2.tape,hB2.output,hB2.size,hB2.block⟩
    go_wp2
    clear hw2 hkz;generalize hnb:MK (BM l) p=nb at hok hnst
    have hfin2:∀b',nb=b'→(b'=true→RF=false):=fun b' hb hbt=>by
     rw[←hRF];refine List.all_eq_false.2 ⟨k,List.mem_range.2 hks,?_⟩;show¬(AdP l k=true);rw[hok,hb,hbt];simp
    cases nb with
    |true=>
     obtain rfl:RF=false:=hfin2 true rfl rfl
     go_quiet ((go_at_call 274;exact Calls.quiet_of_same (hnst _)))
     go_wp2
     go_ret
     exact⟨rfl,hbn _⟩
    |false=>
     go_quiet ((go_at_call 274;exact Calls.quiet_of_same (hnst _)))
     go_wp2
     go_roundw
     case rel=>
      exact⟨k+1,by omega,by simp,fun j hj=>by
       by_cases hjk:j=k
       ·subst hjk;rw[hok];rfl
       ·exact hno j (by omega),hfin _ hM2 _,hbn _⟩
     case measure=>
      simp only[Lib.intOf];omega
   ·obtain⟨j,rfl⟩:∃j,k=j+1:=⟨k -1,by omega⟩
    obtain⟨b',off',he,hb',r0,r1⟩:=hv.at_ j l[j] (Qa0 (by omega));cases he;have d0:=(hB.cell (p:=⟨b,off+j*2,none⟩) hb).trans r0
    have hgj:l.getD (j+1 -1) ([],[])=l[j]:=by rw[Nat.add_sub_cancel,Qa1,Qa0 (by omega)];rfl
    have hok:AdP l (j+1)=(Op.bytesLess l[j].1 p&&!MK (BM l) p):=by rw[hok,hgj];rfl
    clear r0 r1;generalize l[j].1=q at d0 hok;have hd0:decide (0<j+1)=true:=decide_eq_true (by omega)
    have hkz:(((j+1:Nat):Int)>0):=by omega
    have hw1:IntKind.i64.wrap (j:Int)=(j:Int):=w64 (by omega) (by omega)
    have hlj:j<l.length:=by omega
    have hnst:∀n,Calls prog 274 #[.string ⟨p.toArray⟩,.map (some w.heap.size)] ((wr.alloc (.cells #[.string ⟨p.toArray⟩,.string ⟨bl.toArray⟩] 71)).drewN n) fun e w'=>e=.returned (.bool (MK (BM l) p))∧w'=(wr.alloc (.cells #[.string ⟨p.toArray⟩,.string ⟨bl.toArray⟩] 71)).drewN n:=fun n=>hnst _ (hfin _ hM2 n)
    have d1:(wr.alloc (.cells #[.string ⟨p.toArray⟩,.string ⟨bl.toArray⟩] 71)).cell? ⟨b,off+j*2,none⟩=some (.string ⟨q.toArray⟩):=by
     rw[←d0];unfold World.cell?;rw[Below.heap_alloc wr _ b (Nat.lt_of_lt_of_le hb hB.size)]
    generalize hw2:wr.alloc (.cells #[.string ⟨p.toArray⟩,.string ⟨bl.toArray⟩] 71)=W2 at hM2 hB2 hnst d1
    have hbn:∀n,Below w.heap.size w (W2.drewN n):=fun n=>⟨hB2.os,hB2.tape,hB2.output,hB2.size,hB2.block⟩
    have e0:W2.cell? ⟨wr.heap.size,0,none⟩=some (.string ⟨p.toArray⟩):=by rw[←hw2];simp
    have hlt3:Op.bytesLess (ByteArray.toList ⟨q.toArray⟩) (ByteArray.toList ⟨p.toArray⟩)=Op.bytesLess q p:=by rw[Lib.toList_data,Lib.toList_data]
    generalize hlt:Op.bytesLess q p=lt at hok hlt3
    go_wp2
    clear hw2 hkz;generalize hnb:MK (BM l) p=nb at hok hnst
    have hfin2:(lt&&!nb)=false→RF=false:=fun hb=>by
     rw[←hRF];refine List.all_eq_false.2 ⟨j+1,List.mem_range.2 hks,?_⟩;show¬(AdP l (j+1)=true);rw[hok,hb];simp
    cases lt with
    |false=>
     obtain rfl:RF=false:=hfin2 rfl
     go_quiet ((go_at_call 274;exact Calls.quiet_of_same (hnst _)))
     go_wp2
     go_ret
     exact⟨rfl,hbn _⟩
    |true=>
     cases nb with
     |true=>
      obtain rfl:RF=false:=hfin2 rfl
      go_quiet ((go_at_call 274;exact Calls.quiet_of_same (hnst _)))
      go_wp2
      go_ret
      exact⟨rfl,hbn _⟩
     |false=>
      go_quiet ((go_at_call 274;exact Calls.quiet_of_same (hnst _)))
      go_wp2
      go_roundw
      case rel=>
       exact⟨j+2,by omega,congrArg (Value.int .i64) (by omega),fun i hi=>by
        by_cases hjk:i=j+1
        ·subst hjk;rw[hok];rfl
        ·exact hno i (by omega),hfin _ hM2 _,hbn _⟩
      case measure=>
       simp only[Lib.intOf];omega
  ·have hke:k=l.length:=by omega
   subst hke
   have hz:RF=true:=by
    rw[←hRF]
    exact List.all_eq_true.2 fun j hj=>hno j (List.mem_range.1 hj)
   subst hz
   go_wp2
   go_ret
   exact⟨rfl,hB⟩
theorem Ah4:∀(l:List Av) {k:Nat} {s:Av},l[k]?=some s→∀{j:Nat},j<2→(l.map ((BT.pair .str .str).enc .leaf)).flatten[k*2+j]?=[AV.lit (.string ⟨s.1.toArray⟩),AV.lit (.string ⟨s.2.toArray⟩)][j]?
 |[],_,_,h,_,_=>nomatch h
 |t::l,0,s,h,j,hj=>by
  obtain rfl:t=s:=by simpa using h
  show([AV.lit (.string ⟨t.1.toArray⟩),AV.lit (.string ⟨t.2.toArray⟩)]++(l.map ((BT.pair .str .str).enc .leaf)).flatten)[0*2+j]?=_;rw[List.getElem?_append_left (by simp;omega)]
  simp
 |t::l,k+1,s,h,j,hj=>by
  show([AV.lit (.string ⟨t.1.toArray⟩),AV.lit (.string ⟨t.2.toArray⟩)]++(l.map ((BT.pair .str .str).enc .leaf)).flatten)[(k+1)*2+j]?=_;rw[List.getElem?_append_right (by simp;omega)]
  have:=Ah4 l (k:=k) (s:=s) (by simpa using h) hj;rw[←this]
  congr 1
  simp only[List.length_cons,List.length_nil];omega
theorem Al6(l:List Av):∀x∈l.map ((BT.pair .str .str).enc .leaf),∀a∈x,∃u,a=AV.lit u:=by
 intro x hx a ha;obtain⟨s,_,rfl⟩:=List.mem_map.1 hx;have ha:a∈[AV.lit (.string ⟨s.1.toArray⟩),AV.lit (.string ⟨s.2.toArray⟩)]:=ha;simp only[List.mem_cons,List.not_mem_nil,or_false]at ha
 rcases ha with rfl|rfl<;>exact⟨_,rfl⟩
theorem V7{C:Ctx}{w:World}{l:List Av}{v:Value}{f:List Nat}(h:RV C w (.sl .brw 2 (l.map ((BT.pair .str .str).enc .leaf))) v f):∃a c,v=.slice a l.length c∧Aan w a l:=by
 obtain⟨hrd,_⟩:=Z3 h (Al6 l)
 rcases hrd with⟨hnil,a,c,hv⟩|⟨b,off,c,hv,hb,hc⟩
 ·have hnil:l=[]:=by simpa using hnil
  subst hnil;exact⟨a,c,hv,⟨fun k s hk=>by simp at hk⟩⟩
 ·refine⟨some ⟨b,off,none⟩,c,by simpa using hv,⟨fun k s hk=>⟨b,off,rfl,hb,?_,?_⟩⟩⟩
  ·have:=hc (k*2+0) _ ((Ah4 l hk (by decide)).trans rfl);simpa using this
  ·have:=hc (k*2+1) _ ((Ah4 l hk (by decide)).trans rfl);simpa[Nat.add_assoc]using this
theorem AdQ:Ql (Pg.of prog):=by
 intro l hn hl
 refine Fn.YJ (S:=Hy) rfl rfl l (WI l) () rfl fun f fn hf hfn=>?_
 have hfi:f=208:=E3 (by kernel_rfl) hf hfn;subst hfi;have hfe:=Option.some.inj (hf.symm.trans func208);subst hfe;refine⟨by kernel_rfl,by kernel_rfl,fun μ sv w vs hsv hw hargs=>?_⟩;obtain⟨hsize,hat⟩:=hargs;have hsv:svs μ dv dl [.one (.sl .brw .leaf (.pair .str .str) l)] sv:=hsv
 match sv,hsv with
 |[s0],⟨⟨a0,e0,r0⟩,_⟩=>
  have r0:a0=.sl .brw 2 (l.map ((BT.pair .str .str).enc .leaf)):=r0;subst e0 r0;obtain⟨C0,f0,_,h0⟩:=hat 0 _ rfl;obtain⟨a,c,hv0,hst⟩:=V7 (show RV C0 w (.sl .brw 2 (l.map ((BT.pair .str .str).enc .leaf))) (vs.getD 0 undef) f0 from h0)
  have hvs:vs=#[.slice a l.length c]:=by
   apply Array.ext
   ·simpa using hsize
   ·intro i hi1 hi2
    have hi:i=0:=by simp at hi2;omega
    subst hi
    have:vs.getD 0 undef=vs[0]:=by simp[hi1]
    rw[←this,hv0];rfl
  subst hvs;exact X1 l hn hl a c w hst
end Go.Proofs.Tryz
