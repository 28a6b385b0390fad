/- tree.CheckPath, walked: a range over the library's iterator of pieces. -/
import Derived.Test.YtopngokkgogolaaGreatDoorKKShelf
import Derived.Test.YtopngokkgogolaaGreatDoorKKW
import Derived.Test.YtopngokkgogolaaGreatDoorKS0
import Derived.WalkSmall
import Derived.Lib.IndexBytes
set_option linter.unusedVariables false
set_option linter.unusedSimpArgs false
open Nat renaming le_refl → Qa0
open List renaming nil_append → Qa1, cons_append → Qa2, length_cons → Qa3, mem_cons_of_mem → Qa4
open Array renaming replicate_succ → Qa5, replicate_zero → Qa6
namespace Go.Proofs.Tryz
open Go.Shelf Go.RowKit Go.VS Go
attribute [local go_sem] Oper.semAt_some
theorem index_hit(l r:Bs)(c:UInt8)(h:∀b∈l,b≠c):Lib.indexByte (l++c::r) c=(l.length:Int):=by
 induction l with
 |nil=>simp[Lib.indexByte]
 |cons b l ih=>
  rw[Qa2,Lib.indexByte,if_neg (by simpa using h b (List.mem_cons_self ..)),ih fun d hd=>h d (Qa4 _ hd)];rw[if_neg (by simp)];simp
theorem AdJ(l:Bs)(c:UInt8)(h:∀b∈l,b≠c):Lib.indexByte l c=-1:=by
 induction l with
 |nil=>rfl
 |cons b l ih=>
  rw[Lib.indexByte,if_neg (by simpa using h b (List.mem_cons_self ..)),ih fun d hd=>h d (Qa4 _ hd)];rfl
theorem YC:∀(l:Bs) (c:UInt8),decide (0≤Lib.indexByte l c)=decide (c∈l)
 |[],c=>by simp[Lib.indexByte]
 |b::l,c=>by
  have h:=YC l c;have hg:=Lib.indexByte_ge l c
  by_cases hb:b=c
  ·subst hb;simp[Lib.indexByte]
  ·have e:(c∈b::l)↔c∈l:=by simp[Ne.symm hb]
   rw[decide_eq_decide]at h⊢;rw[e,←h,Lib.indexByte,if_neg (by simpa using hb)];split
   ·rename_i h1
    have h1:Lib.indexByte l c=-1:=by simpa using h1
    rw[h1]
   ·rename_i h1
    have h1:¬Lib.indexByte l c=-1:=by simpa using h1
    omega
structure Ani(n0:World)(B:Nat)(W:World):Prop where
 sep:W.cell? ⟨B+1,0,none⟩=some (.string ⟨#[47]⟩)
 str:∃r:ByteArray,W.cell? ⟨B,0,none⟩=some (.string r)
 frs:W.frozen? ⟨B,0,none⟩=false
 sv:W.cell? ⟨B+2,0,none⟩=some (.int .i64 0)
 bel:Below n0.heap.size n0 W
set_option maxRecDepth 100000 in
set_option maxHeartbeats 2000000 in
theorem Acp(n l B:Nat)(hn:1≤n)(s:ByteArray)(J Jx:List Bs→World→Prop)(W:World)(w0:World)(m:Nat)(hB:B+2<m)(hJi:∀pre W,J pre W→Ani w0 B W)
  (hJs:∀pre W v,J pre W→J pre (W.setCell ⟨B,0,none⟩ (.string v)))
  (hY:∀pre (x:Bs) W1,J pre W1→YieldAt Fence.wide (n -1) prog l #[.string ⟨x.toArray⟩] W1 fun e W'=>(e=.returned (.bool true)∧J (pre++[x]) W'∧Below m W1 W')∨(e=.returned (.bool false)∧Jx (pre++[x]) W'))
  (h0:J [] W) (hc:W.cell? ⟨B,0,none⟩=some (.string s)) (hs:s.size≤1000):
  CallsIn Fence.wide n prog 324 #[.func (.yield l) #[] #[],.pointer (some ⟨B+1,0,none⟩),.pointer (some ⟨B,0,none⟩),.pointer (some ⟨B+2,0,none⟩)] W fun e W'=>(∃v,e=.returned v)∧((∃xs,xs=spN [] s.data.toList∧J xs W')∨(∃pre,pre<+:spN [] s.data.toList∧Jx pre W')):=by
 refine callsIn_of_wp func324 rfl trivial ?_ rfl;simp only[ntmps324,List.size_toArray,Qa3,List.length_nil,Nat.reduceAdd,Nat.reduceSub,Qa5,Qa6,List.push_toArray,List.append_toArray,Qa1,Qa2];have hi:=hJi _ _ h0;have x1:=hi.sep;have hfi:Fence.wide.fn 222:=trivial
 gi_wp2
 gi_loopw [7] (fun _ wr=>∃(pre:List Bs) (r:ByteArray),spN [] s.data.toList=pre++spN [] r.data.toList∧wr.cell? ⟨B,0,none⟩=some (.string r)∧r.size≤1000∧J pre wr) (fun _ wr=>match wr.cell? ⟨B,0,none⟩with|some (.string r)=>r.size|_=>0)
 case atStart=>exact⟨[],s,rfl,hc,hs,h0⟩
 case round=>
  obtain⟨pre,r,hsp,hcr,hrs,hJ⟩:=hrel;have hi:=hJi _ _ hJ;have x1:=hi.sep;have x2:=hi.sv;have x3:=hi.frs;have hidx:=Tryz.strings_Index_one r 47 wr
  rcases Alo r.data.toList with hno|⟨a,b,hab,hna⟩
  ·rw[AdJ _ _ hno]at hidx;rw[AiZ _ _ hno,Qa1]at hsp;obtain⟨fn,tmps,assign,body,hy,hR⟩:=hY pre r.data.toList wr hJ;rw[show(⟨r.data.toList.toArray⟩:ByteArray)=r by cases r;simp]at hy
   gi_wp2_with (gi_at_call 222;refine(callsIn_wide.2 hidx).mono ?_;rintro e w' ⟨rfl,rfl⟩)
   refine hR.mono ?_;rintro e W3 (⟨rfl,hJ3,_⟩|⟨rfl,hJx3⟩)
   ·gi_wp2
    go_end0
    exact⟨⟨_,rfl⟩,.inl ⟨_,hsp.symm▸rfl,hsp▸hJ3⟩⟩
   ·gi_wp2
    go_end0
    exact⟨⟨_,rfl⟩,.inr ⟨_,hsp▸List.prefix_refl _,hJx3⟩⟩
  ·rw[hab,index_hit _ _ _ hna]at hidx
   have hsz:r.size=a.length+1+b.length:=by
    have:=congrArg List.length hab;simp only[List.length_append,Qa3,Array.length_toList]at this;show r.data.size=_;omega
   have c0:¬((a.length:Int)<0):=by omega
   have c1:(0:Int)≤(a.length:Int):=by omega
   have c2:(a.length:Int)≤(r.size:Int):=by omega
   have c3:(0:Int)≤(a.length:Int)+1:=by omega
   have c4:(a.length:Int)+1≤(r.size:Int):=by omega
   have w1:IntKind.i64.wrap ((a.length:Int)+0)=(a.length:Int):=by rw[IntKind.wrap_i64];omega
   have w2:IntKind.i64.wrap ((a.length:Int)+1)=(a.length:Int)+1:=by rw[IntKind.wrap_i64];omega
   rw[hab,Acm _ _ _ hna,Qa1]at hsp;obtain⟨fn,tmps,assign,body,hy,hR⟩:=hY pre a wr hJ
   have ea:(⟨a.toArray⟩:ByteArray)=r.extract 0 a.length:=by
    apply ByteArray.ext;apply Array.toList_inj.1;rw[Lib.extract_from_zero,hab];simp
   rw[ea]at hy
   gi_wp2_with (gi_at_call 222;refine(callsIn_wide.2 hidx).mono ?_;rintro e w' ⟨rfl,rfl⟩)
   refine hR.mono ?_;rintro e W3 (⟨rfl,hJ3,hb3⟩|⟨rfl,hJx3⟩)
   ·have hi3:=hJi _ _ hJ3;have y1:=hi3.sep;have y2:=hi3.frs;have y3:W3.cell? ⟨B,0,none⟩=some (.string r):=(hb3.cell (p:=⟨B,0,none⟩) (show B<m by omega)).trans hcr
    gi_wp2
    go_roundw
    case rel=>
     refine⟨pre++[a],r.extract (a.length+1) (a.length+1+b.length),?_,?_,?_,hJs _ _ _ hJ3⟩
     ·rw[hsp,←hsz,Lib.extract_to_end,hab,show a++47::b=(a++[47])++b by simp,show a.length+1=(a++[(47:UInt8)]).length by simp,List.drop_left];simp
     ·exact World.cell?_setCell_same' _ _ _ (by rw[y3];rfl)
     ·rw[ByteArray.size_extract];omega
    case measure=>
     rw[World.cell?_setCell_same' _ _ _ (by rw[y3];rfl),hcr]
     simp only[ByteArray.size_extract];omega
   ·gi_wp2
    refine bodyPost_ret (results_none rfl _ _ _) rfl ?_;exact⟨⟨_,rfl⟩,.inr ⟨_,⟨spN [] b,by rw[hsp];simp⟩,hJx3⟩⟩
theorem Xg(s p:ByteArray)(w:World):Calls prog 296 #[.string s,.string p,.int .i64 0] w fun e w'=>e=.returned (.func (.func 324) #[] #[.pointer (some ⟨w.heap.size+1,0,none⟩),.pointer (some ⟨w.heap.size,0,none⟩),.pointer (some ⟨w.heap.size+2,0,none⟩)])∧w'=((w.alloc (.cells #[.string s] 9)).alloc (.cells #[.string p] 9)).alloc (.cells #[.int .i64 0] 3):=by
 go_enter func296,ntmps296
 go_wp2
 go_ret
 exact⟨rfl,rfl⟩
theorem U4(s p:ByteArray)(w:World):Calls prog 273 #[.string s,.string p] w fun e w'=>e=.returned (.func (.func 324) #[] #[.pointer (some ⟨w.heap.size+1,0,none⟩),.pointer (some ⟨w.heap.size,0,none⟩),.pointer (some ⟨w.heap.size+2,0,none⟩)])∧w'=((w.alloc (.cells #[.string s] 9)).alloc (.cells #[.string p] 9)).alloc (.cells #[.int .i64 0] 3):=by
 go_enter func273,ntmps273
 go_wp2_with (go_at_call 296;refine(Xg _ _ _).mono ?_;rintro e w' ⟨rfl,rfl⟩)
 go_ret
 exact⟨rfl,rfl⟩
theorem Mw(W:World)(v:Value)(t:TypeId):(W.alloc (.cells #[v] t)).cell? ⟨W.heap.size,0,none⟩=some v∧(W.alloc (.cells #[v] t)).frozen? ⟨W.heap.size,0,none⟩=false:=by
 have h:=World.alloc_heap_new W (.cells #[v] t (0,0))
 constructor<;>simp only[World.cell?,World.frozen?,h]<;>rfl
theorem GH{W:World}{b:Nat}{v:Value}(o:Obj)(h:W.cell? ⟨b,0,none⟩=some v)(hb:b<W.heap.size):(W.alloc o).cell? ⟨b,0,none⟩=some v:=
 (World.cell?_of_block (Below.heap_alloc W o b hb)).trans h
theorem Km{W:World}{b:Nat}{x:Bool}(o:Obj)(h:W.frozen? ⟨b,0,none⟩=x)(hb:b<W.heap.size):(W.alloc o).frozen? ⟨b,0,none⟩=x:=
 (World.frozen?_of_block (Below.heap_alloc W o b hb)).trans h
set_option maxRecDepth 100000 in
set_option maxHeartbeats 4000000 in
theorem Zk(n:Nat)(hn:8≤n)(s:Bs)(hs:s.length≤140737488351232)(w:World):
  CallsIn Fence.wide n prog 207 #[.string ⟨s.toArray⟩] w fun e w'=>e=.returned (.int .i64 (Gm s))∧Below w.heap.size w w':=by
 have h1:1≤n:=by omega
 refine callsIn_of_wp_marks func207 rfl trivial ?_ rfl;simp only[ntmps207,List.size_toArray,Qa3,List.length_nil,Nat.reduceAdd,Nat.reduceSub,Qa5,Qa6,List.push_toArray,List.append_toArray,Qa1,Qa2];have hf1:Fence.wide.fn 235:=trivial;have hf2:Fence.wide.fn 273:=trivial;generalize hRF:Gm s=RF
 have hsz:ByteArray.size ⟨s.toArray⟩=s.length:=by simp[ByteArray.size]
 have n0:=Mw w (.int .i64 0) 29
 by_cases hlen:(s.length:Int)>200
 ·have hz:RF=210:=by rw[←hRF];unfold Gm;rw[if_pos (.inl (by omega))]
  subst hz
  gi_wp2
  refine⟨.int .i64 210,?_,rfl,(Below.refl _ w).alloc (Qa0 _) _⟩;have hcl:=(Mw w (.int .i64 210) 29).1;simp[results,f207,go_sem,hcl]
 ·have hc:=Tryz.strings_Contains_one ⟨s.toArray⟩ 0 (w.alloc (.cells #[.int .i64 0] 29));rw[YC]at hc;rw[show(⟨s.toArray⟩:ByteArray).data.toList=s from rfl]at hc
  by_cases hz0:(0:UInt8)∈s
  ·rw[decide_eq_true hz0]at hc
   have hz:RF=210:=by rw[←hRF];unfold Gm;rw[if_pos (.inr hz0)]
   subst hz
   gi_wp2_with (gi_at_call 235;refine(callsIn_wide.2 hc).mono ?_;rintro e w' ⟨rfl,rfl⟩)
   refine⟨.int .i64 210,?_,rfl,(Below.refl _ w).alloc (Qa0 _) _⟩;have hcl:=(Mw w (.int .i64 210) 29).1;simp[results,f207,go_sem,hcl]
  ·rw[decide_eq_false hz0]at hc;have hq:=U4 ⟨s.toArray⟩ ⟨#[47]⟩ (w.alloc (.cells #[.int .i64 0] 29))
   gi_wp2_with (first|(gi_at_call 235;refine(callsIn_wide.2 hc).mono ?_;rintro e w' ⟨rfl,rfl⟩)|(gi_at_call 273;refine(callsIn_wide.2 hq).mono ?_;rintro e w' ⟨rfl,rfl⟩))
   have hb4:Below w.heap.size w ((((w.alloc (.cells #[.int .i64 0] 29)).alloc (.cells #[.string ⟨s.toArray⟩] 9)).alloc (.cells #[.string ⟨#[47]⟩] 9)).alloc (.cells #[.int .i64 0] 3)):=((((Below.refl _ w).alloc (Qa0 _) _).alloc (by simp) _).alloc (by simp;omega) _).alloc (by simp;omega) _
   have s1:(w.alloc (.cells #[.int .i64 0] 29)).heap.size=w.heap.size+1:=by simp
   have s2:((w.alloc (.cells #[.int .i64 0] 29)).alloc (.cells #[.string ⟨s.toArray⟩] 9)).heap.size=w.heap.size+1+1:=by simp
   have s3:(((w.alloc (.cells #[.int .i64 0] 29)).alloc (.cells #[.string ⟨s.toArray⟩] 9)).alloc (.cells #[.string ⟨#[47]⟩] 9)).heap.size=w.heap.size+1+2:=by simp
   have n1:=Mw (w.alloc (.cells #[.int .i64 0] 29)) (.string ⟨s.toArray⟩) 9;have n2:=Mw ((w.alloc (.cells #[.int .i64 0] 29)).alloc (.cells #[.string ⟨s.toArray⟩] 9)) (.string ⟨#[47]⟩) 9;have n3:=Mw (((w.alloc (.cells #[.int .i64 0] 29)).alloc (.cells #[.string ⟨s.toArray⟩] 9)).alloc (.cells #[.string ⟨#[47]⟩] 9)) (.int .i64 0) 3;rw[s1]at n1;rw[s2]at n2;rw[s3]at n3
   have m0:=GH (.cells #[.int .i64 0] 3) (GH (.cells #[.string ⟨#[47]⟩] 9) (GH (.cells #[.string ⟨s.toArray⟩] 9) n0.1 (by rw[s1];omega)) (by rw[s2];omega)) (by rw[s3];omega)
   have f0:=Km (.cells #[.int .i64 0] 3) (Km (.cells #[.string ⟨#[47]⟩] 9) (Km (.cells #[.string ⟨s.toArray⟩] 9) n0.2 (by rw[s1];omega)) (by rw[s2];omega)) (by rw[s3];omega)
   have m1:=GH (.cells #[.int .i64 0] 3) (GH (.cells #[.string ⟨#[47]⟩] 9) n1.1 (by rw[s2];omega)) (by rw[s3];omega)
   have f1:=Km (.cells #[.int .i64 0] 3) (Km (.cells #[.string ⟨#[47]⟩] 9) n1.2 (by rw[s2];omega)) (by rw[s3];omega)
   have m2:=GH (.cells #[.int .i64 0] 3) n2.1 (by rw[s3];omega)
   have s4:((((w.alloc (.cells #[.int .i64 0] 29)).alloc (.cells #[.string ⟨s.toArray⟩] 9)).alloc (.cells #[.string ⟨#[47]⟩] 9)).alloc (.cells #[.int .i64 0] 3)).heap.size=w.heap.size+4:=by simp
   have hn3:=n3.1;clear n0 n1 n2 n3 s1 s2 s3;generalize((((w.alloc (.cells #[.int .i64 0] 29)).alloc (.cells #[.string ⟨s.toArray⟩] 9)).alloc (.cells #[.string ⟨#[47]⟩] 9)).alloc (.cells #[.int .i64 0] 3))=W4 at*;generalize hM:w.heap.size=M at*
   refine Ak8 rfl h1 (gf:=324) (lb:=#[.pointer (some ⟨M+1+1,0,none⟩),.pointer (some ⟨M+1,0,none⟩),.pointer (some ⟨M+1+2,0,none⟩)]) rfl trivial (enters_of func324 (by kernel_rfl) rfl) (fun x:Bs=>Value.string ⟨x.toArray⟩) rfl
    (fun pre W=>Ani w (M+1) W∧(W.cell? ⟨M,0,none⟩=some (.int .i64 0)∧W.frozen? ⟨M,0,none⟩=false)∧∀y∈pre,Uq y=true)
    (fun pre W=>W.cell? ⟨M,0,none⟩=some (.int .i64 210)∧Below M w W∧∃y∈pre,Uq y=false)
    ?_ ?_ ?_ ?_ (fun x=>{tmps:=#[.string ⟨s.toArray⟩,undef,.pointer (some ⟨M,0,none⟩),.string ⟨x.toArray⟩,.string ⟨s.toArray⟩,.int .i64 (s.length:Int),.bool false,.bool false,.string ⟨s.toArray⟩,.bool false,.bool false,.string ⟨s.toArray⟩,.func (.func 324) #[] #[.pointer (some ⟨M+1+1,0,none⟩),.pointer (some ⟨M+1,0,none⟩),.pointer (some ⟨M+1+2,0,none⟩)],.string ⟨x.toArray⟩,undef,undef,undef,undef,undef,undef,undef,undef,undef,undef],defers:=[]})
    ?_ ?_ (fun xs=>xs=spN [] s) (fun pre=>pre<+:spN [] s) ?_ ?_ ?_
   ·rintro pre W o ⟨hR,hC,hG⟩;have b0:=World.block_lt_of_cell? _ _ hC.1;obtain⟨r,hr⟩:=hR.str;exact⟨⟨GH _ hR.sep (World.block_lt_of_cell? _ _ hR.sep),⟨r,GH _ hr (World.block_lt_of_cell? _ _ hr)⟩,Km _ hR.frs (World.block_lt_of_cell? _ _ hr),GH _ hR.sv (World.block_lt_of_cell? _ _ hR.sv),hR.bel.alloc hR.bel.size _⟩,⟨GH _ hC.1 b0,Km _ hC.2 b0⟩,hG⟩
   ·rintro pre W l o ⟨hR,hC,hG⟩ hl;obtain⟨r,hr⟩:=hR.str
    exact⟨⟨(World.cell?_of_block (World.putObj_heap_other (k:=M+1+1) (by omega))).trans hR.sep,⟨r,(World.cell?_of_block (World.putObj_heap_other (k:=M+1) (by omega))).trans hr⟩,(World.frozen?_of_block (World.putObj_heap_other (k:=M+1) (by omega))).trans hR.frs,(World.cell?_of_block (World.putObj_heap_other (k:=M+1+2) (by omega))).trans hR.sv,F6 hR.bel (by omega)⟩,⟨(World.cell?_of_block (World.putObj_heap_other (k:=M) (by omega))).trans hC.1,(World.frozen?_of_block (World.putObj_heap_other (k:=M) (by omega))).trans hC.2⟩,hG⟩
   ·rintro pre W l o ⟨hC,hB,hG⟩ hl;exact⟨(World.cell?_of_block (World.putObj_heap_other (k:=M) (by omega))).trans hC,F6 hB (by omega),hG⟩
   ·exact⟨⟨m2,⟨_,m1⟩,f1,hn3,by rw[hM];exact hb4⟩,⟨m0,f0⟩,fun y hy=>nomatch hy⟩
   ·intro l x W K hK
    gi_wp2
    exact hK
   ·rintro l pre x W ⟨hR,⟨hC,hF⟩,hG⟩
    gi_wp2
    ·rename_i h1
     have hgx:Uq x=false:=by rw[h1];rfl
     exact⟨KeepsOthers.setCell _ _ _,World.cell?_setCell_same' _ _ _ (by rw[hC];rfl),(hM▸hR.bel).setCell (p:=⟨M,0,none⟩) (Qa0 _) _,x,by simp,hgx⟩
    ·rename_i h1 h2
     have hgx:Uq x=false:=by rw[h2];rfl
     exact⟨KeepsOthers.setCell _ _ _,World.cell?_setCell_same' _ _ _ (by rw[hC];rfl),(hM▸hR.bel).setCell (p:=⟨M,0,none⟩) (Qa0 _) _,x,by simp,hgx⟩
    ·rename_i h1 h2 h3
     have hgx:Uq x=false:=by
      rcases h3 with(h3|h3)|h3
      ·exact absurd (List.isEmpty_iff.1 h3) h1
      ·exact absurd (eq_of_beq h3) h2
      ·rw[eq_of_beq h3];rfl
     exact⟨KeepsOthers.setCell _ _ _,World.cell?_setCell_same' _ _ _ (by rw[hC];rfl),(hM▸hR.bel).setCell (p:=⟨M,0,none⟩) (Qa0 _) _,x,by simp,hgx⟩
    ·rename_i h1 h2 h3
     have hgx:Uq x=true:=by
      unfold Uq;rw[h3.1.2,h3.2,show(x==([]:Bs))=false from beq_eq_false_iff_ne.2 h1];rfl
     exact⟨rfl,hR,⟨hC,hF⟩,fun y hy=>(List.mem_append.1 hy).elim (hG y) fun h=>by rw[List.mem_singleton.1 h];exact hgx⟩
   ·intro l J Jx W hl hJI hJs hY h0 hbw;rw[show(#[.func (.yield l) #[] #[]]++#[.pointer (some ⟨M+1+1,0,none⟩),.pointer (some ⟨M+1,0,none⟩),.pointer (some ⟨M+1+2,0,none⟩)]:Array Value)=#[.func (.yield l) #[] #[],.pointer (some ⟨M+1+1,0,none⟩),.pointer (some ⟨M+1,0,none⟩),.pointer (some ⟨M+1+2,0,none⟩)]by simp]
    refine Acp (n -1) l (M+1) (by omega) ⟨s.toArray⟩ J Jx W w (M+4) (by omega) (fun pre W h=>(hJI pre W h).1) ?_ ?_ h0 ((hbw.cell (p:=⟨M+1,0,none⟩) (show M+1<W4.heap.size by omega)).trans m1) (by rw[hsz];omega)
    ·intro pre V v hJ;obtain⟨hR,hC,hG⟩:=hJI _ _ hJ;obtain⟨r,hr⟩:=hR.str
     refine hJs _ _ _ _ hJ (by omega) ⟨⟨(World.cell?_of_block (Below.heap_setCell _ _ _ _ (show M+1+1≠M+1 by omega))).trans hR.sep,⟨v,World.cell?_setCell_same' _ _ _ (by rw[hr];rfl)⟩,by rw[World.frozen?_setCell];exact hR.frs,(World.cell?_of_block (Below.heap_setCell _ _ _ _ (show M+1+2≠M+1 by omega))).trans hR.sv,hR.bel.setCell (p:=⟨M+1,0,none⟩) (by rw[hM];exact Nat.le_succ _) _⟩,⟨(World.cell?_of_block (Below.heap_setCell _ _ _ _ (show M≠M+1 by omega))).trans hC.1,by rw[World.frozen?_setCell];exact hC.2⟩,hG⟩
    ·rw[s4]at hY;exact hY
   ·rintro D xs W hD rfl ⟨hR,⟨hC,hF⟩,hG⟩ hK
    have hz:RF=0:=by
     rw[←hRF];unfold Gm;rw[if_neg (by rintro(h|h);omega;exact hz0 h),if_pos (List.all_eq_true.2 hG)]
    subst hz
    gi_wp2
    have hK':=(KeepsOthers.setCell W ⟨M,0,none⟩ (.int .i64 0)).same D _ hK rfl;refine⟨by simp,.inl ⟨_,_,rfl,run_takeDeferred hK',?_⟩⟩;have hc5:((W.setCell ⟨M,0,none⟩ (.int .i64 0)).putObj D (.deferred none)).cell? ⟨M,0,none⟩=some (.int .i64 0):=(World.cell?_of_block (World.putObj_heap_other (k:=M) (by omega))).trans (World.cell?_setCell_same' _ _ _ (by rw[hC];rfl))
    refine⟨.int .i64 0,?_,rfl,F6 (hR.bel.setCell (p:=⟨M,0,none⟩) (by rw[hM];exact Qa0 _) _) (by omega)⟩
    simp[results,f207,go_sem,hc5]
   ·rintro D pre W hD hpre ⟨hC,hB,y,hy,hgy⟩ hK
    have hz:RF=210:=by
     rw[←hRF];unfold Gm;rw[if_neg (by rintro(h|h);omega;exact hz0 h),if_neg (fun h=>by rw[List.all_eq_true.1 h y (hpre.subset hy)]at hgy;cases hgy)]
    subst hz
    gi_wp2
    refine⟨by simp,.inl ⟨_,_,rfl,run_takeDeferred hK,?_⟩⟩;have hc5:(W.putObj D (.deferred none)).cell? ⟨M,0,none⟩=some (.int .i64 210):=(World.cell?_of_block (World.putObj_heap_other (k:=M) (by omega))).trans hC;refine⟨.int .i64 210,?_,rfl,F6 (by rw[hM];exact hB) (by omega)⟩
    simp[results,f207,go_sem,hc5]
theorem Zj(kp:Value→Prop):Hz ⟨prog,kp⟩:=by
 intro s hs
 refine Fn.MM (S:=EC) rfl rfl s (Gm s) () rfl fun f fn hf hn=>?_
 have hfi:f=207:=E3 (P:=⟨prog,kp⟩) (by kernel_rfl) hf hn;subst hfi;have hfe:=Option.some.inj (hf.symm.trans func207);subst hfe;exact⟨by kernel_rfl,by kernel_rfl,fun w hw=>callsIn_wide.1 (Zk 8 (Qa0 _) s hs w)⟩
end Go.Proofs.Tryz
