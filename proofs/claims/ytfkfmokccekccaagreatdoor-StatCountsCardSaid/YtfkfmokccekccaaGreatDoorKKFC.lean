/- stat.Format at the chapter's example, walked. -/
import Derived.Test.YtfkfmokccekccaaGreatDoorKKShelf
import Derived.Test.YtfkfmokccekccaaGreatDoorKKY
import Derived.Test.YtfkfmokccekccaaGreatDoorKS0
import Derived.Test.YtfkfmokccekccaaGreatDoorFwD
import Derived.Lib.Builder
import Derived.Shelf.RegionOpenPlain
import Derived.Lib.AppendStr
import Derived.Lib.UnsafeStr
import Derived.WalkKit
import Derived.Laws.Externs
import Derived.Laws.IdiomCopy
import Derived.Test.YtfkfmokccekccaaGreatDoorChecked
import Derived.Deep.RegionHeld3
import Derived.WalkSmall
set_option linter.unusedVariables false
set_option linter.unusedSimpArgs false
open Nat renaming lt_of_lt_of_le → Qa0, le_of_lt → Qa1, le_refl → Qa3, le_trans → Qa4
open Array renaming getElem?_eq_none → Qa2
namespace Go.Proofs.Tryz
open Go.Shelf Go.RowKit Go.VS
theorem UD(args:Array Value)(w:World):(callFunc 129 args).run prog w=.ok (.enter 129 args) w:=enters_of func129 (by kernel_rfl) rfl args w
structure AfC(b:Nat)(w w':World):Prop where
 fr:∀k,k≠b→w'.heap[k]?=w.heap[k]?
 snd:w'.cell? ⟨b,1,none⟩=w.cell? ⟨b,1,none⟩
set_option maxHeartbeats 1000000 in
set_option maxRecDepth 100000 in
theorem Adg{B b:Nat}{bs:List Value}{w:World}(h:Lib.IsBuilder 131 5 B b bs w):
  Calls prog 129 #[.pointer (some ⟨b,0,none⟩)] w fun e w'=>e=.returned (.tuple #[])∧Lib.BuilderAt 131 5 B b (.pointer (some ⟨b,0,none⟩)) bs w'∧Below B w w'∧AfC b w w':=by
 obtain⟨j,hj,hs⟩:=Option.map_eq_some_iff.1 (show(prog.info? 131).map (·.size)=some 2 by kernel_rfl);have u1:=run_underlying underlying129;have u2:=run_underlying underlying200
 rcases h with h|h
 ·have h0:=h.cell0;have h2:=h.frozen0
  go_enter func129,ntmps129
  go_wp2
  rw[Lib.run_to_unsafe w ⟨b,0,none⟩ underlying129 underlying200 hj (by rw[hs];decide) h.shape (Nat.zero_lt_succ 1)]
  simp only[Result.andThen];rw[Oper.upon_value]
  go_wp2
  rw[run_callFunc_extern func168 (by kernel_rfl) (by kernel_rfl) (by kernel_rfl) (e:=Extern.AbiNoEscape.same) (by kernel_rfl),Lib.run_noEscape];simp only[Result.andThen];rw[Oper.upon_value]
  go_wp2
  rw[Lib.run_from_unsafe w ⟨b,0,none⟩ underlying200 underlying129 hj h.shape (by kernel_rfl)];simp only[Result.andThen];rw[Oper.upon_value]
  go_wp2
  go_end0
  exact⟨rfl,h.used _,(Below.refl B w).setCell (p:=⟨b,0,none⟩) h.1 _,⟨fun k hk=>Below.heap_setCell _ _ _ _ hk,World.cell?_setCell_other _ _ _ _ (by intro hh;have:=congrArg Addr.off hh;simp at this)⟩⟩
 ·have h0:=h.cell0
  go_enter func129,ntmps129
  go_wp2
  rw[Lib.run_neq_ptr_same w _ underlying129 hj]
  go_wp2
  go_end0
  exact⟨rfl,h,Below.refl B w,⟨fun _ _=>rfl,rfl⟩⟩
set_option maxHeartbeats 2000000 in
set_option maxRecDepth 100000 in
theorem AdW{B b:Nat}{bs:List Value}{s:ByteArray}{w:World}(h:Lib.IsBuilder 131 5 B b bs w)(hl:bs.length+s.size≤140737488355328)(hB:B≤w.heap.size):
  Calls prog 91 #[.pointer (some ⟨b,0,none⟩),.string s] w fun e w'=>e=.returned (.tuple #[.int .i64 s.size,.nilIface])∧Lib.BuilderAt 131 5 B b (.pointer (some ⟨b,0,none⟩)) (bs++Lib.strCells s) w'∧Below B w w'∧∀k,k<w.heap.size→k≠b→(∀v,w.cell? ⟨b,1,none⟩=some v→v.ownBlock≠some k)→w'.heap[k]?=w.heap[k]?:=by
 obtain⟨i0,hi,hz0,hz1,hz2⟩:=info_parts (P:=prog) (e:=5) (z:=.int .u8 0) (size:=1) (bytes:=1) (by kernel_rfl);have e1:=UD;have u1:=run_underlying underlying57;have u2:=run_underlying underlying9
 go_enter func91,ntmps91
 go_wp2_with (go_at_fn 129;refine(Adg h).mono ?_)
 rintro e w1 ⟨rfl,⟨hBb,v,hv,own,ne⟩,hb1,hot⟩;have sz:=hb1.size
 have lt:b<w1.heap.size:=by
  rcases Nat.lt_or_ge b w1.heap.size with h'|h'
  ·exact h'
  ·rw[Qa2 h']at hv;cases hv
 have c0:w1.cell? ⟨b,0,none⟩=some (.pointer (some ⟨b,0,none⟩)):=by rw[Lib.cell_of_heap hv];rfl
 have c1:w1.cell? ⟨b,1,none⟩=some v:=by rw[Lib.cell_of_heap hv];rfl
 go_wp2_with (at_builtin;refine Lib.wpList_append_own_string _ rfl _ _ 57 9 rfl B 5 i0 underlying57 underlying9 hi hz0 hz1 hz2 _ _ _ rfl own s rfl ?a3 ?a4 ?a5 ?_)
 case a3=>unfold maxLen;omega
 case a4=>omega
 case a5=>omega
 intro v2 w2 own2 gr _
 have hv2:w2.heap[b]?=some (.cells #[.pointer (some ⟨b,0,none⟩),v] 131 (0,0)):=by
  rw[gr.block b lt (fun e=>ne e.symm)];exact hv
 have d0:w2.cell? ⟨b,0,none⟩=some (.pointer (some ⟨b,0,none⟩)):=by rw[Lib.cell_of_heap hv2];rfl
 have d1:w2.cell? ⟨b,1,none⟩=some v:=by rw[Lib.cell_of_heap hv2];rfl
 have f1:w2.frozen? ⟨b,1,none⟩=false:=Lib.frozen_of_heap hv2 1
 obtain⟨ao,n',cap,rfl⟩:∃ao n' cap,v2=.slice ao n' cap:=by
  rcases own2.2 with⟨hv,_⟩|⟨g,cap,cur,hv,_⟩
  ·exact⟨none,0,0,hv⟩
  ·exact⟨_,_,_,hv⟩
 go_wp2
 go_ret2
 refine⟨rfl,Lib.BuilderAt.put (T:=131) (e:=5) hBb hv2 (bs':=bs++Lib.strCells s) (by simpa[Lib.strCells_length]using own2) (by decide),?_⟩;refine⟨(hb1.grown gr (by omega) (fun k hk=>(own.lt k hk).1)).setCell (p:=⟨b,1,none⟩) hBb _,fun k hk hkb hown=>?_⟩
 have hk1:k<w1.heap.size:=by omega
 exact(Below.heap_setCell _ _ _ _ hkb).trans ((gr.block k hk1 (fun e=>hown v (hot.snd.symm.trans c1) e.symm)).trans (hot.fr k hkb))
theorem Dc{T e:TypeId}{B b:Nat}{p:Value}{bs:List Value}{w w':World}(h:Lib.BuilderAt T e B b p bs w)(hb:Below w.heap.size w w'):Lib.BuilderAt T e B b p bs w':=by
 have hlt:=h.lt;obtain⟨hB,v,hbk,hown,hne⟩:=h;exact⟨hB,v,(hb.block b hlt).trans hbk,hown.kept (row:=none) ⟨hb.os,hb.tape,hb.output,hb.size,fun k hk _=>hb.block k hk⟩ (by cases v.ownBlock<;>simp),hne⟩
theorem Ob(hF:Lj (Pg.of prog))(n:Int)(w:World)(hw:Late (Pg.of prog) w):
  Calls prog 93 #[.int .i64 n] w fun e w'=>e=.returned ((Value.string ⟨((Jb n):Bs).toArray⟩))∧Below w.heap.size w w':=by
 refine(Fn.AhT (fun _ h=>h) (S:=Hy) rfl rfl (hF n) func93 (by kernel_rfl) hw).mono ?_;rintro e w' ⟨r,d,hr,he,hb⟩;cases hr;exact⟨he,hb⟩
theorem E4(x y z:Bs)(hz:z=x++y)(hx:x.length≤100000)(hy:y.length≤100000):∀w:World,(Op.stringOp .add ⟨x.toArray⟩ ⟨y.toArray⟩).run prog w=.ok (.string ⟨z.toArray⟩) w:=fun w=>by
 rw[hz];exact run_string_add_lists w x y (by omega) (by omega)
def AsR(x y z:Bs):Prop:=∀w:World,(Op.stringOp .add ⟨x.toArray⟩ ⟨y.toArray⟩).run prog w=.ok (.string ⟨z.toArray⟩) w
theorem AkN{T e:TypeId}{B b:Nat}{bs:List Value}{wr w:World}(h:Lib.IsBuilder T e B b bs wr)(hk:Below wr.heap.size wr w){k:Nat}(hk2:wr.heap.size≤k):∀v,w.cell? ⟨b,1,none⟩=some v→v.ownBlock≠some k:=by
 intro v hv hb
 have hlt:∀{p:Value},Lib.BuilderAt T e B b p bs wr→False:=fun{p} ⟨hB,v',hbk,hown,hne⟩=>by
  have hbl:b<wr.heap.size:=by
   rcases Nat.lt_or_ge b wr.heap.size with h|h
   ·exact h
   ·rw[Qa2 h]at hbk;cases hbk
  have hc:w.cell? ⟨b,1,none⟩=some v':=by
   have:=(hk.block b hbl).trans hbk;simp[World.cell?,this]
  rw[hc]at hv;cases hv;have:=(hown.lt k hb).2;omega
 rcases h with h|h
 ·exact hlt h
 ·exact hlt h
theorem AlZ{wr W2:World}{s:Bs}{x y:Int}(b2:Below (wr.alloc (Obj.cells #[.string ⟨s.toArray⟩,.int .i64 x,.int .i64 y] 98)).heap.size (wr.alloc (Obj.cells #[.string ⟨s.toArray⟩,.int .i64 x,.int .i64 y] 98)) W2):
  wr.heap.size<W2.heap.size∧Below wr.heap.size wr W2∧W2.cell? ⟨wr.heap.size,0,none⟩=some (.string ⟨s.toArray⟩)∧W2.cell? ⟨wr.heap.size,1,none⟩=some (.int .i64 x)∧W2.cell? ⟨wr.heap.size,2,none⟩=some (.int .i64 y):=by
 have hs:(wr.alloc (Obj.cells #[.string ⟨s.toArray⟩,.int .i64 x,.int .i64 y] 98)).heap.size=wr.heap.size+1:=by simp only[World.alloc,Array.size_push]
 have hb:(wr.alloc (Obj.cells #[.string ⟨s.toArray⟩,.int .i64 x,.int .i64 y] 98)).heap[wr.heap.size]?=some (Obj.cells #[.string ⟨s.toArray⟩,.int .i64 x,.int .i64 y] 98 (0,0)):=by
  simp only[World.alloc];rw[Array.getElem?_push,if_pos rfl]
 have h2:=(b2.block wr.heap.size (by omega)).trans hb;have hsz:=b2.size
 refine⟨by omega,((Below.refl _ wr).alloc (Qa3 _) _).trans (b2.mono (by omega)),?_,?_,?_⟩<;>simp[World.cell?,h2]
set_option maxHeartbeats 1000000 in
set_option maxRecDepth 100000 in
theorem Atl(w:World):Calls prog 130 #[.int .u8 120] w fun e w'=>e=.returned (.bool true)∧w'=w:=by
 go_enter func130,ntmps130
 go_wp2
 all_goals go_ret
 all_goals exact⟨rfl,rfl⟩
set_option maxHeartbeats 4000000 in
set_option maxRecDepth 1000000 in
theorem Atm(s:ByteArray)(hs:s=⟨#[120]⟩)(w:World):Calls prog 92 #[.string s] w fun e w'=>e=.returned (.string s)∧w'=w:=by
 have h1:s.size=1:=by rw[hs];rfl
 have hne:(!s.toList.isEmpty)=true:=by rw[hs,ByteArray.toList_eq];rfl
 have hc:∀k (h:k<s.size),Value.int .u8 ((s[k].toNat:Nat):Int)=.int .u8 120:=fun k h=>by
  subst hs
  have:k=0:=by rw[h1]at h;omega
  subst this;rfl
 clear hs
 go_enter func92,ntmps92
 go_wp2
 go_loop [3,11] (fun t i=>∃k:Nat,k≤s.size∧i=.int .i64 k∧t=.bool true) (fun _ i=>s.size -(Lib.intOf i).toNat)
 case atStart=>exact⟨0,by omega,rfl,by rw[←hne]⟩
 case round=>
  obtain⟨k,hk,hi,ht⟩:=hrel;subst hi;subst ht
  by_cases hks:k<s.size
  ·have hc:=hc k hks
   go_wp2_with (go_at_call 130;refine(Atl _).mono ?_)
   refine⟨⟨k+1,by omega,by simp,rfl⟩,?_⟩;simp only[Lib.intOf];omega
  ·go_wp2
   go_ret
   exact⟨rfl,rfl⟩
def Atq(f:FuncId)(a:Array Value)(v:Value):Prop:=∀w,Calls prog f a w fun e w'=>e=.returned v∧Below w.heap.size w w'
def Atp(f:FuncId)(a:Array Value)(v:Value):Prop:=∀w,Late (Pg.of prog) w→Calls prog f a w fun e w'=>e=.returned v∧Below w.heap.size w w'
def Ato(l:List Go.VS.Stat)(x:Go.VS.Stat)(bk:Nat→Bs)(S:Bs):Prop:=l.length=1∧l[0]?=some x∧bk 0=[]∧bk 1=S
set_option maxHeartbeats 1000000 in
set_option maxRecDepth 1000000 in
theorem Atb(l:List Go.VS.Stat)(bk:Nat→Bs)(p:Bs)(sa sr A R M wd br1 br2:Int)(hw2:¬wd<2)(hw3:¬wd>1000)(hwrap:IntKind.i64.wrap (sa+sr)=sa+sr)(a:Option Addr)(c:Nat)(w:World)(hw:Late (Pg.of prog) w)
  (hv:∀k s,l[k]?=some s→∃b off,a=some ⟨b,off,none⟩∧b<w.heap.size∧w.cell? ⟨b,off+k*3,none⟩=some (.string ⟨(s.1:Bs).toArray⟩)∧w.cell? ⟨b,off+k*3+1,none⟩=some (.int .i64 s.2.1)∧w.cell? ⟨b,off+k*3+2,none⟩=some (.int .i64 s.2.2))
  (Q F R1 R2 F1 F2 F3 S1 S2 S3 S4 S5 S6 S7 T1 T2 T3 T4 T5 T6:Bs)
  (h0:Calls prog 90 #[.slice a l.length c] w fun e w'=>e=.returned (.tuple #[.int .i64 A,.int .i64 R,.int .i64 M,.bool true])∧Below w.heap.size w w')
  (hbar:Atp 89 #[.int .i64 sa,.int .i64 sr,.int .i64 M,.int .i64 wd] (.tuple #[.int .i64 br1,.int .i64 br2]))
  (hquo:Atq 92 #[.string ⟨p.toArray⟩] (.string ⟨Q.toArray⟩))
  (hfmt:Atp 93 #[.int .i64 (sa+sr)] (.string ⟨F.toArray⟩))
  (hr1:Atq 94 #[.string ⟨([43]:Bs).toArray⟩,.int .i64 br1] (.string ⟨R1.toArray⟩))
  (hr2:Atq 94 #[.string ⟨([45]:Bs).toArray⟩,.int .i64 br2] (.string ⟨R2.toArray⟩))
  (g1:Atp 93 #[.int .i64 l.length] (.string ⟨F1.toArray⟩))
  (g2:Atp 93 #[.int .i64 A] (.string ⟨F2.toArray⟩))
  (g3:Atp 93 #[.int .i64 R] (.string ⟨F3.toArray⟩))
  (e1:AsR [32] Q S1) (e2:AsR S1 [32,124,32] S2) (e3:AsR S2 F S3) (e4:AsR S3 [32] S4) (e5:AsR S4 R1 S5) (e6:AsR S5 R2 S6) (e7:AsR S6 [10] S7)
  (f1:AsR [32] F1 T1) (f2:AsR T1 [32,102,105,108,101,115,44,32] T2) (f3:AsR T2 F2 T3) (f4:AsR T3 [32,97,100,100,101,100,44,32] T4) (f5:AsR T4 F3 T5) (f6:AsR T5 [32,114,101,109,111,118,101,100,10] T6)
  (h1l:Ato l (p,(sa,sr)) bk S7) (l7:S7.length≤100) (l6:T6.length≤100):
  Calls prog 61 #[.slice a l.length c,.int .i64 wd] w fun e w'=>e=.returned (.tuple #[.string ⟨(S7++T6).toArray⟩,.int .i64 0])∧Below w.heap.size w w':=by
 go_enter func61,ntmps61
 go_wp2_with (go_at_call 90;refine h0.mono ?_;rintro e w1 ⟨rfl,b1⟩)
 go_loopw [34] (fun i wr=>∃k:Nat,k≤l.length∧i=.int .i64 k∧Lib.IsBuilder 131 5 w1.heap.size w1.heap.size (Lib.byteCells (bk k)) wr∧Below w1.heap.size w1 wr) (fun i _=>l.length -(Lib.intOf i).toNat)
 case atStart=>
  obtain⟨hl,hat,hb0,hb1⟩:=h1l;refine⟨0,by omega,rfl,?_,(Below.refl _ w1).alloc (Qa3 _) _⟩;rw[hb0];exact Lib.fresh_isBuilder 131 5 w1
 case round=>
  obtain⟨k,hk,hi,hI,hbw⟩:=hrel;subst hi;have hsz:w1.heap.size≤wr.heap.size:=hbw.size;have hwsz:w.heap.size≤w1.heap.size:=b1.size;have hbwr:Below w.heap.size w wr:=b1.trans (hbw.mono hwsz);have hlate:Late (Pg.of prog) wr:=hw.of hbwr
  by_cases hks:k<l.length
  ·obtain⟨hl,hat,hb0,hb1⟩:=h1l
   have hk0:k=0:=by omega
   obtain⟨b,off,rfl,hb,q0,q1,q2⟩:=hv k (p,(sa,sr)) (by rw[hk0];exact hat)
   have c0:=(hbwr.cell (p:=⟨b,off+k*3,none⟩) hb).trans q0;have c1:=(hbwr.cell (p:=⟨b,off+k*3+1,none⟩) hb).trans q1;have c2:=(hbwr.cell (p:=⟨b,off+k*3+2,none⟩) hb).trans q2;dsimp only at c0 c1 c2
   have hk8:(k:Int)+1≤9:=by omega
   have hlw:(Lib.byteCells (bk k)).length+ByteArray.size ⟨S7.toArray⟩≤140737488355328:=by
    rw[Lib.byteCells_length,hk0,hb0];have h2:ByteArray.size ⟨S7.toArray⟩=S7.length:=rfl;rw[h2,List.length_nil];omega
   have hnext:Lib.byteCells (bk k)++Lib.strCells ⟨S7.toArray⟩=Lib.byteCells (bk (k+1)):=by
    rw[hk0,hb0,hb1];rfl
   have hbl:((Lib.byteCells (bk (k+1))).length:Int)≤16777216:=by
    rw[Lib.byteCells_length,hk0,hb1];omega
   clear hk0 hb0 hb1 hv hat hl h0 q0 q1 q2 g1 g2 g3 f1 f2 f3 f4 f5 f6 l6 l7
   go_wp2_with (go_at_call 89;refine(hbar _ (hlate.of ?lt)).mono ?_)
   case lt=>exact(((Below.refl _ wr).alloc (Qa3 _) _))
   rintro e W2 ⟨rfl,b2⟩;obtain⟨hB2,bb,d0,d1,d2⟩:=AlZ b2;have hI2:Lib.IsBuilder 131 5 w1.heap.size w1.heap.size (Lib.byteCells (bk k)) W2:=hI.imp (fun h=>Dc h bb) (fun h=>Dc h bb);have hI0:=hI
   have hnb:wr.heap.size≠w1.heap.size:=by
    rcases hI with h|h
    ·have:=h.lt;omega
    ·have:=h.lt;omega
   clear c0 c1 c2 b2 hI hbar;have bb:Below wr.heap.size wr W2.drew:=bb.drew;have hI2:=hI2.imp (fun h=>Dc h (Below.refl _ W2).drew) (fun h=>Dc h (Below.refl _ W2).drew);have hB2:wr.heap.size<W2.drew.heap.size:=hB2;unfold AsR at e1 e2 e3 e4 e5 e6 e7
   go_wp2_with fail
   go_region_held3 (fun w'=>w'.cell? ⟨wr.heap.size,0,none⟩=some (.string ⟨p.toArray⟩)∧w'.cell? ⟨wr.heap.size,1,none⟩=some (.int .i64 sa)∧w'.cell? ⟨wr.heap.size,2,none⟩=some (.int .i64 sr))
    ((go_split_ands;refine⟨?_,?_,?_⟩<;>first|assumption|(rw[b3.cell hBo];assumption)|(rw[World.cell?_of_block fr4];assumption)|fail))
    (first
     |(go_at_call 92;refine(hquo _).mono ?_;rintro e W3 ⟨rfl,b3⟩;have hBo:=hB2;have hB2:=Qa0 hBo b3.size;have bb:=bb.trans (b3.mono (Qa1 hBo));have hI2:=hI2.imp (fun h=>Dc h b3) (fun h=>Dc h b3))
     |(go_at_call 93;refine(hfmt _ (hlate.of bb)).mono ?_;rintro e W3 ⟨rfl,b3⟩;have hBo:=hB2;have hB2:=Qa0 hBo b3.size;have bb:=bb.trans (b3.mono (Qa1 hBo));have hI2:=hI2.imp (fun h=>Dc h b3) (fun h=>Dc h b3))
     |(go_at_call 94;refine(hr1 _).mono ?_;clear hr1;rintro e W3 ⟨rfl,b3⟩;have hBo:=hB2;have hB2:=Qa0 hBo b3.size;have bb:=bb.trans (b3.mono (Qa1 hBo));have hI2:=hI2.imp (fun h=>Dc h b3) (fun h=>Dc h b3))
     |(go_at_call 94;refine(hr2 _).mono ?_;rintro e W3 ⟨rfl,b3⟩;have hBo:=hB2;have hB2:=Qa0 hBo b3.size;have bb:=bb.trans (b3.mono (Qa1 hBo));have hI2:=hI2.imp (fun h=>Dc h b3) (fun h=>Dc h b3))
     |(go_at_call 91;refine(AdW hI2 hlw (Qa4 hsz bb.size)).mono ?_;rintro e W4 ⟨rfl,h4,b4,fr4⟩;have fr4:=fr4 _ hB2 hnb (AkN hI0 bb (Qa3 _))))
   rw[hnext]at h4;generalize hBS:Lib.byteCells (bk (k+1))=BS at h4 hbl
   go_wp2_with (go_at_call 95;refine(Tryz.Builder_Len _ _ _ _ (Or.inr h4)).mono ?_;rintro e w' ⟨rfl,rfl⟩)
   go_roundw
   case rel=>
    refine⟨k+1,by omega,by simp,Or.inr ?_,(hbw.trans (bb.mono hsz)).trans b4⟩;rw[hBS];exact h4
   case measure=>
    simp only[Lib.intOf];omega
  ·obtain⟨hl,hat,hb0,hb1⟩:=h1l
   have hke:k=l.length:=by omega
   subst hke
   have hlw:(Lib.byteCells (bk l.length)).length+ByteArray.size ⟨T6.toArray⟩≤140737488355328:=by
    rw[Lib.byteCells_length,hl,hb1];have h2:ByteArray.size ⟨T6.toArray⟩=T6.length:=rfl;omega
   have hnext:Lib.byteCells (bk l.length)++Lib.strCells ⟨T6.toArray⟩=Lib.byteCells (S7++T6):=by
    rw[hl,hb1,Lib.byteCells_append];rfl
   have hbl:((Lib.byteCells (S7++T6)).length:Int)≤16777216:=by
    rw[Lib.byteCells_length,List.length_append];omega
   clear hb0 hb1 hv hat hl h0 e1 e2 e3 e4 e5 e6 e7 hfmt hr1 hr2 hquo hbar l6 l7;unfold AsR at f1 f2 f3 f4 f5 f6
   go_wp2_with (go_at_call 93;refine(g1 _ hlate).mono ?_)
   rintro e W1 ⟨rfl,b3⟩;have bb:Below wr.heap.size wr W1:=b3
   go_wp2_with (go_at_call 93;refine(g2 _ (hlate.of bb)).mono ?_)
   rintro e W2 ⟨rfl,b4⟩;have bb:=bb.trans (b4.mono b3.size)
   go_wp2_with (go_at_call 93;refine(g3 _ (hlate.of bb)).mono ?_)
   rintro e W3 ⟨rfl,b5⟩;have bb:Below wr.heap.size wr W3:=bb.trans (b5.mono (Qa4 b3.size b4.size));have hI3:=hI.imp (fun h=>Dc h bb) (fun h=>Dc h bb);have hsz3:w1.heap.size≤W3.heap.size:=Qa4 hsz bb.size
   go_wp2_with (go_at_call 91;refine(AdW hI3 hlw hsz3).mono ?_)
   rintro e W4 ⟨rfl,h4,b6,_⟩;rw[hnext]at h4;have bw4:Below w1.heap.size w1 W4:=(hbw.trans (bb.mono hsz)).trans b6;have h5:=h4;generalize hBS:Lib.byteCells (S7++T6)=BS at h4 hbl
   go_wp2_with (go_at_call 95;refine(Tryz.Builder_Len _ _ _ _ (Or.inr h4)).mono ?_;rintro e w' ⟨rfl,rfl⟩)
   go_wp2_with (go_at_call 96;refine(Tryz.Builder_String_any w1.heap.size w1.heap.size _ _ (Or.inr h5) bw4.size).mono ?_)
   rintro e W5 ⟨rfl,b7⟩
   go_wp2
   go_ret2
   exact⟨rfl,b1.trans ((bw4.trans b7).mono hwsz)⟩
theorem AsT{x y z:Bs}(h:z=x++y)(hx:x.length≤100)(hy:y.length≤100):AsR x y z:=E4 x y z h (by omega) (by omega)
theorem Atn(c:UInt8)(k:Nat)(R:Bs)(h:Lib.repeatL [c] k=R)(hk:k≤100)(w:World):Calls prog 94 #[.string ⟨([c]:Bs).toArray⟩,.int .i64 k] w fun e w'=>e=.returned (.string ⟨R.toArray⟩)∧Below w.heap.size w w':=by
 refine(Tryz.strings_Repeat ⟨#[c]⟩ k w (by omega) (by show 1*k≤_;omega)).mono ?_
 rintro e w' ⟨rfl,hb⟩;exact⟨by rw[←h],hb⟩
theorem As7(hF:Lj (Pg.of prog))(n:Int){S:Bs}(h:Jb n=S)(w:World)(hw:Late (Pg.of prog) w):Calls prog 93 #[.int .i64 n] w fun e w'=>e=.returned (.string ⟨S.toArray⟩)∧Below w.heap.size w w':=by
 rw[←h];exact Ob hF n w hw
theorem Atc(hB:AsW (Pg.of prog))(hF:Lj (Pg.of prog))(hT:AsZ (Pg.of prog)):AsU (Pg.of prog):=by
 refine Fn.R9 (S:=Hz) rfl rfl (As2,(10:Int)) (Atf++Atk,(0:Int)) () rfl fun f fn hf hn=>?_
 have hfi:f=61:=FK (by kernel_rfl) hf hn;subst hfi;have hfe:=Option.some.inj (hf.symm.trans func61);subst hfe;refine⟨by kernel_rfl,by kernel_rfl,fun μ sv w vs hsv hw hargs=>?_⟩;obtain⟨hsize,hat⟩:=hargs;have hsv:svs μ dv dl [.one (.sl .brw .leaf Dy As2),.one (.int .i64 10)] sv:=hsv
 match sv,hsv with
 |[s0,s1],⟨⟨a0,e0,r0⟩,⟨a1,e1,r1⟩,_⟩=>
  have r0:a0=.sl .brw 3 (As2.map (Dy.enc .leaf)):=r0;have r1:a1=.lit (.int .i64 10):=r1;subst e0 e1 r0 r1;obtain⟨C0,f0,_,h0⟩:=hat 0 _ rfl;obtain⟨C1,f1,_,h1⟩:=hat 1 _ rfl;have h0:RV C0 w (.sl .brw 3 (As2.map (Dy.enc .leaf))) (vs.getD 0 undef) f0:=h0;obtain⟨_,hany⟩:=TU h0 (Am7 (t:=Dy) rfl As2)
  have hv1:vs.getD 1 undef=.int .i64 10:=RV.DI (show RV C1 w (.lit (.int .i64 10)) (vs.getD 1 undef) f1 from h1);obtain⟨a,c,hv0,hst⟩:=SK (t:=Dy) rfl h0
  have hvs:vs=#[.slice a As2.length c,.int .i64 10]:=by
   apply Array.ext
   ·simpa using hsize
   ·intro i hi1 hi2
    have hi:i=0∨i=1:=by simp at hi2;omega
    rcases hi with rfl|rfl
    ·have:vs.getD 0 undef=vs[0]:=by simp[hi1]
     rw[←this,hv0];rfl
    ·have:vs.getD 1 undef=vs[1]:=by simp[hi1]
     rw[←this,hv1];rfl
  subst hvs
  refine Atb As2 (fun k=>if k=0 then[]else Atf) [120] 1 2 1 2 3 10 1 2 (by decide) (by decide) (by kernel_rfl) a c w hw (fun k s hk=>?_) [120] [51] [43] [45,45] [49] [49] [50] [32,120] [32,120,32,124,32] [32,120,32,124,32,51] [32,120,32,124,32,51,32] [32,120,32,124,32,51,32,43] [32,120,32,124,32,51,32,43,45,45] Atf
   [32,49] [32,49,32,102,105,108,101,115,44,32] [32,49,32,102,105,108,101,115,44,32,49] [32,49,32,102,105,108,101,115,44,32,49,32,97,100,100,101,100,44,32] [32,49,32,102,105,108,101,115,44,32,49,32,97,100,100,101,100,44,32,50] Atk ?_ (fun w hw=>?_) (fun w=>?_) (As7 hF _ An1) (Atn 43 1 _ rfl (by decide)) (Atn 45 2 _ rfl (by decide)) (As7 hF _ AnZ) (As7 hF _ AnZ) (As7 hF _ An0)
   (AsT rfl (by decide) (by decide)) (AsT rfl (by decide) (by decide)) (AsT rfl (by decide) (by decide)) (AsT rfl (by decide) (by decide)) (AsT rfl (by decide) (by decide)) (AsT rfl (by decide) (by decide)) (AsT rfl (by decide) (by decide)) (AsT rfl (by decide) (by decide)) (AsT rfl (by decide) (by decide)) (AsT rfl (by decide) (by decide)) (AsT rfl (by decide) (by decide)) (AsT rfl (by decide) (by decide)) (AsT rfl (by decide) (by decide)) ⟨rfl,rfl,rfl,rfl⟩ (by decide) (by decide)
  ·obtain⟨b,off,h1,h2,h3⟩:=hst k s hk;exact⟨b,off,h1,h2,h3 0 _ rfl,h3 1 _ rfl,h3 2 _ rfl⟩
  ·refine(Fn.Al1 (fun _ h=>h) (t:=Dy) (τ:=.brw) (rs:=HA.rs) rfl hT func90 (by kernel_rfl) hw rfl fun C hC=>hany (C':=C) (w':=w) (fun _ _=>rfl) fun b hb=>(hC b hb).1).mono ?_;rintro e w'' ⟨r,d,hr,he,hb⟩;have hr:r=((1:Int),((2:Int),((3:Int),true))):=hr;subst hr;exact⟨he,hb⟩
  ·refine(Fn.AhT (fun _ h=>h) (S:=GS) rfl rfl hB func89 (by kernel_rfl) hw).mono ?_;rintro e w' ⟨r,d,hr,he,hb⟩;have hr:r=((1:Int),(2:Int)):=hr;subst hr;exact⟨he,hb⟩
  ·refine(Atm _ rfl w).mono ?_;rintro e w' ⟨rfl,rfl⟩;exact⟨rfl,Below.refl _ _⟩
end Go.Proofs.Tryz
