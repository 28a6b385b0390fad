/- Contracts of the functions. -/
import Derived.Test.YtopngokkgogolaaGreatDoorKKShelf
import Derived.Test.YtopngokkgogolaaGreatDoorKM0
import Derived.Test.YtopngokkgogolaaGreatDoorKS0
import Derived.Test.YtopngokkgogolaaGreatDoorFwD
import Derived.Lib.Builder
import Derived.Shelf.RegionOpenPlain
import Derived.Lib.AppendStr
import Derived.Lib.UnsafeStr
import Derived.WalkKit
import Derived.Laws.Externs
import Derived.Laws.IdiomCopy
import Derived.Test.YtopngokkgogolaaGreatDoorChecked
import Derived.Deep.RegionHeld3
import Derived.WalkSmall
import Derived.ArgAppend
import Derived.Maps.AppendAt
import Derived.StillTailTactics
import Derived.Deep.DrawnRows
import Derived.Test.YtopngokkgogolaaGreatDoorKM1
import Derived.StillTactics
import Derived.Deep.QuietTactic
import Derived.BigQuiet
set_option linter.unusedVariables false
set_option linter.unusedSimpArgs false
set_option maxHeartbeats 4000000
set_option maxRecDepth 1000000
open Int renaming eq_ofNat_of_zero_le → Qa0, le_refl → Qa9
open List renaming getElem?_eq_getElem → Qa1, mem_of_getElem? → Qa3, length_append → Qa5, flatten_cons → Qa6, length_map → Qa7, length_set → Qa8, map_cons → Qb0, append_nil → Qb3, take_of_length_le → Qb4
open Nat renaming le_refl → Qa2, le_trans → Qb2
open Option.some renaming inj → Qa4
open Option renaming map → Qb1
namespace Go.Proofs.Tryz
open Go.Shelf Go.RowKit Go.VS
theorem AkD(args:Array Value)(w:World):(callFunc 108 args).run prog w=.ok (.enter 108 args) w:=enters_of func108 zk rfl args w
structure AhW(b:Nat)(w w':World):Prop where
 fr:∀k,k≠b→w'.heap[k]?=w.heap[k]?
 snd:w'.cell? ⟨b,1,none⟩=w.cell? ⟨b,1,none⟩
theorem Ae9{B b:Nat}{bs:List Value}{w:World}(h:Lib.IsBuilder 103 5 B b bs w):
  Calls prog 108 #[.pointer (some ⟨b,0,none⟩)] w fun e w'=>e=.returned (.tuple #[])∧Lib.BuilderAt 103 5 B b (.pointer (some ⟨b,0,none⟩)) bs w'∧Below B w w'∧AhW b w w':=by
 obtain⟨j,hj,hs⟩:=Option.map_eq_some_iff.1 (show(prog.info? 103).map (·.size)=some 2 by kernel_rfl);have u1:=run_underlying underlying100;have u2:=run_underlying underlying284
 rcases h with h|h
 ·have h0:=h.cell0;have h2:=h.frozen0
  go_enter func108,ntmps108
  go_wp2
  rw[Lib.run_to_unsafe w ⟨b,0,none⟩ underlying100 underlying284 hj (by rw[hs];decide) h.shape (Nat.zero_lt_succ 1)]
  simp only[Result.andThen];rw[Oper.upon_value]
  go_wp2
  rw[run_callFunc_extern func168 zk zk zk (e:=Extern.AbiNoEscape.same) zk,Lib.run_noEscape];simp only[Result.andThen];rw[Oper.upon_value]
  go_wp2
  rw[Lib.run_from_unsafe w ⟨b,0,none⟩ underlying284 underlying100 hj h.shape zk];simp only[Result.andThen];rw[Oper.upon_value]
  go_wp2
  go_end0
  exact⟨rfl,h.used _,(Below.refl B w).setCell (p:=⟨b,0,none⟩) h.1 _,⟨fun k hk=>Below.heap_setCell _ _ _ _ hk,World.cell?_setCell_other _ _ _ _ (by intro hh;have:=congrArg Addr.off hh;simp at this)⟩⟩
 ·have h0:=h.cell0
  go_enter func108,ntmps108
  go_wp2
  rw[Lib.run_neq_ptr_same w _ underlying100 hj]
  go_wp2
  go_end0
  exact⟨rfl,h,Below.refl B w,⟨fun _ _=>rfl,rfl⟩⟩
theorem AfV{B b:Nat}{bs:List Value}{s:ByteArray}{w:World}(h:Lib.IsBuilder 103 5 B b bs w)(hl:bs.length+s.size≤140737488355328)(hB:B≤w.heap.size):
  Calls prog 42 #[.pointer (some ⟨b,0,none⟩),.string s] w fun e w'=>e=.returned (.tuple #[.int .i64 s.size,.nilIface])∧Lib.BuilderAt 103 5 B b (.pointer (some ⟨b,0,none⟩)) (bs++Lib.strCells s) w'∧Below B w w'∧∀k,k<w.heap.size→k≠b→(∀v,w.cell? ⟨b,1,none⟩=some v→v.ownBlock≠some k)→w'.heap[k]?=w.heap[k]?:=by
 obtain⟨i0,hi,hz0,hz1,hz2⟩:=info_parts (P:=prog) (e:=5) (z:=.int .u8 0) (size:=1) (bytes:=1) zk;have e1:=AkD;have u1:=run_underlying underlying101;have u2:=run_underlying underlying9
 go_enter func42,ntmps42
 go_wp2_with (go_at_fn 108;refine(Ae9 h).mono ?_)
 rintro e w1 ⟨rfl,⟨hBb,v,hv,own,ne⟩,hb1,hot⟩;have sz:=hb1.size
 have lt:b<w1.heap.size:=by
  rcases Nat.lt_or_ge b w1.heap.size with h'|h'
  ·exact h'
  ·rw[Array.getElem?_eq_none h']at hv;cases hv
 have c0:w1.cell? ⟨b,0,none⟩=some (.pointer (some ⟨b,0,none⟩)):=by rw[Lib.cell_of_heap hv];rfl
 have c1:w1.cell? ⟨b,1,none⟩=some v:=by rw[Lib.cell_of_heap hv];rfl
 go_wp2_with (at_builtin;refine Lib.wpList_append_own_string _ rfl _ _ 101 9 rfl B 5 i0 underlying101 underlying9 hi hz0 hz1 hz2 _ _ _ rfl own s rfl ?a3 ?a4 ?a5 ?_)
 case a3=>unfold maxLen;omega
 case a4=>omega
 case a5=>omega
 intro v2 w2 own2 gr _
 have hv2:w2.heap[b]?=some (.cells #[.pointer (some ⟨b,0,none⟩),v] 103 (0,0)):=by
  rw[gr.block b lt (fun e=>ne e.symm)];exact hv
 have d0:w2.cell? ⟨b,0,none⟩=some (.pointer (some ⟨b,0,none⟩)):=by rw[Lib.cell_of_heap hv2];rfl
 have d1:w2.cell? ⟨b,1,none⟩=some v:=by rw[Lib.cell_of_heap hv2];rfl
 have f1:w2.frozen? ⟨b,1,none⟩=false:=Lib.frozen_of_heap hv2 1
 obtain⟨ao,n',cap,rfl⟩:∃ao n' cap,v2=.slice ao n' cap:=by
  rcases own2.2 with⟨hv,_⟩|⟨g,cap,cur,hv,_⟩
  ·exact⟨none,0,0,hv⟩
  ·exact⟨_,_,_,hv⟩
 go_wp2
 go_ret2
 refine⟨rfl,Lib.BuilderAt.put (T:=103) (e:=5) hBb hv2 (bs':=bs++Lib.strCells s) (by simpa[Lib.strCells_length]using own2) zdz,?_⟩;refine⟨(hb1.grown gr zm (fun k hk=>(own.lt k hk).1)).setCell (p:=⟨b,1,none⟩) hBb _,fun k hk hkb hown=>?_⟩
 have hk1:k<w1.heap.size:=zm
 exact(Below.heap_setCell _ _ _ _ hkb).trans ((gr.block k hk1 (fun e=>hown v (hot.snd.symm.trans c1) e.symm)).trans (hot.fr k hkb))
theorem Ac1{T e:TypeId}{B b:Nat}{p:Value}{bs:List Value}{w w':World}(h:Lib.BuilderAt T e B b p bs w)(hb:Below w.heap.size w w'):Lib.BuilderAt T e B b p bs w':=by
 have hlt:=h.lt;obtain⟨hB,v,hbk,hown,hne⟩:=h;exact⟨hB,v,(hb.block b hlt).trans hbk,hown.kept (row:=none) ⟨hb.os,hb.tape,hb.output,hb.size,fun k hk _=>hb.block k hk⟩ (by cases v.ownBlock<;>simp),hne⟩
theorem VT(x y z:Bs)(hz:z=x++y)(hx:x.length≤100000)(hy:y.length≤100000):∀w:World,(Op.stringOp .add ⟨x.toArray⟩ ⟨y.toArray⟩).run prog w=.ok (.string ⟨z.toArray⟩) w:=fun w=>by
 rw[hz];exact run_string_add_lists w x y zm zm
def AjK(x y z:Bs):Prop:=∀w:World,(Op.stringOp .add ⟨x.toArray⟩ ⟨y.toArray⟩).run prog w=.ok (.string ⟨z.toArray⟩) w
theorem ApN(v:Int)(hv:v=110∨v=111)(w:World):Calls prog 169 #[.int .u8 v] w fun e w'=>e=.returned (.bool true)∧w'=w:=by
 rcases hv with rfl|rfl
 ·go_enter func169,ntmps169
  go_wp2
  all_goals go_ret
  all_goals exact⟨rfl,rfl⟩
 ·go_enter func169,ntmps169
  go_wp2
  all_goals go_ret
  all_goals exact⟨rfl,rfl⟩
theorem Alr(v:Int)(hv:v=110∨v=111)(s:ByteArray)(h1:s.size=1)(hne:(!s.toList.isEmpty)=true)(hc:∀k (h:k<s.size),Value.int .u8 ((s[k].toNat:Nat):Int)=.int .u8 v)(w:World):Calls prog 109 #[.string s] w fun e w'=>e=.returned (.string s)∧w'=w:=by
 go_enter func109,ntmps109
 go_wp2
 go_loop [3,11] (fun t i=>∃k:Nat,k≤s.size∧i=.int .i64 k∧t=.bool true) (fun _ i=>s.size -(Lib.intOf i).toNat)
 case atStart=>exact⟨0,zm,rfl,by rw[←hne]⟩
 case round=>
  obtain⟨k,hk,hi,ht⟩:=hrel;subst hi;subst ht
  by_cases hks:k<s.size
  ·have hc:=hc k hks;have hp:=ApN v hv;clear hv
   go_wp2_with (go_at_call 169;refine(hp _).mono ?_)
   refine⟨⟨k+1,zm,zsz,rfl⟩,?_⟩;simp only[Lib.intOf];omega
  ·go_wp2
   go_ret
   exact⟨rfl,rfl⟩
theorem ArH{vs:Array Value}{a:Value}(h:vs.size=1)(h0:vs.getD 0 undef=a):vs=#[a]:=by
 subst h0;apply Array.ext
 ·simpa using h
 ·intro i hi1 hi2
  have hi:i=0:=by simp at hi2;omega
  subst hi;simp[hi1]
theorem Anq{T e:TypeId}{B b k:Nat}{bs:List Value}{W:World}(h:Lib.IsBuilder T e B b bs W)(hk:k<B):∀v,W.cell? ⟨b,1,none⟩=some v→v.ownBlock≠some k:=by
 intro v hv hb
 have key:∀{p:Value},Lib.BuilderAt T e B b p bs W→False:=fun{p} ⟨hB,v',hbk,hown,hne⟩=>by
  have hc:W.cell? ⟨b,1,none⟩=some v':=by simp[World.cell?,hbk]
  rw[hc]at hv;cases hv;have:=(hown.lt k hb).1;omega
 rcases h with h|h<;>exact key h
theorem Zs(o n:ByteArray)(ao:Option Addr)(co:Nat)(w:World)(S1 S2 S3 S4:Bs)
  (ho:∀W,Calls prog 109 #[.string o] W fun e w'=>e=.returned (.string o)∧w'=W)
  (hn:∀W,Calls prog 109 #[.string n] W fun e w'=>e=.returned (.string n)∧w'=W)
  (e1:∀w:World,(Op.stringOp .add ⟨#[45,45,45,32]⟩ o).run prog w=.ok (.string ⟨S1.toArray⟩) w)
  (e2:AjK S1 [10,43,43,43,32] S2)
  (e3:∀w:World,(Op.stringOp .add ⟨S2.toArray⟩ n).run prog w=.ok (.string ⟨S3.toArray⟩) w)
  (e4:AjK S3 [10] S4) (hl:S4.length≤100):
  Calls prog 159 #[.agg #[.string o,.string n,.slice ao 0 co]] w fun e w'=>e=.returned (.string ⟨S4.toArray⟩)∧Below w.heap.size w w':=by
 have hfr:=Lib.fresh_isBuilder 103 5 (w.alloc (.cells #[.string o,.string n,.slice ao 0 co] 80))
 obtain⟨W0,hW0⟩:∃W0,W0=(w.alloc (.cells #[.string o,.string n,.slice ao 0 co] 80)).alloc (.cells #[.pointer none,.slice none 0 0] 103):=⟨_,rfl⟩
 have hI2:Lib.IsBuilder 103 5 (w.heap.size+1) (w.heap.size+1) [] W0.drew:=by
  have hs:(w.alloc (.cells #[.string o,.string n,.slice ao 0 co] 80)).heap.size=w.heap.size+1:=zsz
  rw[hs]at hfr;rw[hW0];exact hfr.imp (fun h=>Ac1 h (Below.refl _ _).drew) (fun h=>Ac1 h (Below.refl _ _).drew)
 have hB0:Below w.heap.size w W0.drew:=by
  rw[hW0];exact(((Below.refl _ w).alloc (Qa2 _) _).alloc zsz _).drew
 have hsz:W0.drew.heap.size=w.heap.size+2:=by rw[hW0];simp
 have hbx:W0.drew.heap[w.heap.size]?=some (.cells #[.string o,.string n,.slice ao 0 co] 80 (0,0)):=by
  rw[hW0];exact(Below.heap_alloc _ _ _ zsz).trans (heap_alloc_new w _)
 have hbd:=Anq hI2 (Nat.lt_succ_self w.heap.size);have c0:W0.drew.cell? ⟨w.heap.size,0,none⟩=some (.string o):=Af hbx 0;have c1:W0.drew.cell? ⟨w.heap.size,1,none⟩=some (.string n):=Af hbx 1
 have hlw:([]:List Value).length+ByteArray.size ⟨S4.toArray⟩≤140737488355328:=by
  have:ByteArray.size ⟨S4.toArray⟩=S4.length:=rfl;simp only[List.length_nil];omega
 have hw0:w.heap.size+1≤W0.drew.heap.size:=zm
 have hw1:w.heap.size<W0.drew.heap.size:=zm
 have hne:w.heap.size≠w.heap.size+1:=zm
 have honce:True:=trivial;unfold AjK at e2 e4;clear hfr
 go_enter func159,ntmps159
 go_wp2_with fail
 rw[←hW0];clear hW0 hsz
 go_region_held3 (fun w'=>w'.cell? ⟨w.heap.size,0,none⟩=some (.string o)∧w'.cell? ⟨w.heap.size,1,none⟩=some (.string n))
  ((go_split_ands;refine⟨?_,?_⟩<;>first|assumption|(rw[World.cell?_of_block fr4];assumption)|fail))
  (first
   |(have hx:=honce;clear hx honce;go_at_call 109;refine(ho _).mono ?_;rintro e W3 ⟨rfl,rfl⟩)
   |(go_at_call 109;refine(hn _).mono ?_;rintro e W3 ⟨rfl,rfl⟩)
   |(go_at_call 42;refine(AfV hI2 hlw hw0).mono ?_;rintro e W4 ⟨rfl,h4,b4,fr4⟩;have fr4:=fr4 _ hw1 hne hbd))
 have c2:W4.cell? ⟨w.heap.size,2,none⟩=some (.slice ao 0 co):=Af (fr4.trans hbx) 2;have hb4:Below (w.heap.size+1) W0.drew W4:=b4;have hsz4:=Qb2 hw0 hb4.size;have h5:Lib.IsBuilder 103 5 (w.heap.size+1) (w.heap.size+1) (Lib.byteCells S4) W4:=Or.inr h4;clear h4 fr4 hbx c0 c1 hI2 hbd ho hn e1 e2 e3 e4 hlw
 go_wp2
 refine wp_loop_rounds 1 ?_;rw[rounds_succ]
 go_wp2_with (go_at_call 46;refine(Tryz.Builder_String_any (w.heap.size+1) (w.heap.size+1) _ _ h5 hsz4).mono ?_;rintro e W5 ⟨rfl,b7⟩)
 go_ret
 exact⟨rfl,hB0.trans ((hb4.trans b7).mono (Nat.le_succ _))⟩
theorem Aex:Ou (Pg.of prog):=by
 refine Fn.Um (S:=Fy) rfl rfl (([111]:Bs),(([110]:Bs),[])) ([45,45,45,32,111,10,43,43,43,32,110,10]:Bs) () (show(_:Nat)≤100 by decide) fun f fn hf hn=>?_
 have hfi:f=159:=Ec zk hf hn;subst hfi;have hfe:=Qa4 (hf.symm.trans func159);subst hfe;refine⟨zk,zk,fun μ sv w vs hsv hw hargs=>?_⟩;obtain⟨hsize,hat⟩:=hargs
 have hsv:svs μ dv dl [.agg [.str [111],.str [110],.sl .brw (.pair .leaf (.pair .leaf (.node .brw .leaf))) (.pair (.int .i64) (.pair (.int .i64) (.sl (.pair (.int .u8) .str)))) []]] sv:=hsv
 match sv,hsv with
 |[s0],⟨⟨m0,e0,r0⟩,_⟩=>
  match m0,r0 with
  |[a0,a1,a2],⟨r0,r1,r2,_⟩=>
   have r0:a0=.lit (.string ⟨#[111]⟩):=r0;have r1:a1=.lit (.string ⟨#[110]⟩):=r1;have r2:a2=.sl .brw 3 []:=r2;subst e0 r0 r1 r2;obtain⟨C0,f0,_,h0⟩:=hat 0 _ rfl;obtain⟨cs,hc0,hc1⟩:=h0;obtain⟨v1,m1,f1,g1,e1,-,h1,hrv⟩:=RVs.cons_inv hc1;obtain⟨v2,m2,f2,g2,rfl,-,h2,hrv⟩:=hrv.cons_inv;obtain⟨v3,rfl,h3⟩:=hrv.BU;have q1:=h1.Cs
   have q2:=h2.Cs;subst q1 q2
   obtain⟨a,c,rfl⟩:∃a c,v3=.slice a 0 c:=by
    rcases PQ h3 with⟨_,a,c,rfl⟩|⟨b,off,c,rfl,_,_⟩
    ·exact⟨a,c,rfl⟩
    ·exact⟨_,c,rfl⟩
   have hcs:cs=#[.string ⟨#[111]⟩,.string ⟨#[110]⟩,.slice a 0 c]:=by
    have:=congrArg List.toArray e1;simpa using this
   subst hcs;have hvs:=ArH hsize hc0;subst hvs
   exact Zs ⟨#[111]⟩ ⟨#[110]⟩ a c w [45,45,45,32,111] [45,45,45,32,111,10,43,43,43,32] [45,45,45,32,111,10,43,43,43,32,110] _ (fun W=>Alr 111 (.inr rfl) _ rfl (by rw[ByteArray.toList_eq];rfl) (fun k h=>by
     have:k=0:=by have:k<1:=h;omega
     subst this;rfl) W) (fun W=>Alr 110 (.inl rfl) _ rfl (by rw[ByteArray.toList_eq];rfl) (fun k h=>by
     have:k=0:=by have:k<1:=h;omega
     subst this;rfl) W) (VT [45,45,45,32] [111] _ rfl zdz zdz) (VT _ _ _ rfl zdz zdz) (VT _ [110] _ rfl zdz zdz) (VT _ _ _ rfl zdz zdz) zdz
end Go.Proofs.Tryz
namespace Go.Proofs.Tryz
open Go.Shelf Go.RowKit Go.VS Go Go.Sort
def AkA(x:PLn):List Value:=[.int .u8 x.1,.string ⟨x.2.toArray⟩]
theorem Ail(o:List PLn)(x:PLn):(o.map AkA).flatten++[.int .u8 x.1,.string ⟨x.2.toArray⟩]=((o++[x]).map AkA).flatten:=by
 rw[List.map_append,List.flatten_append];rfl
def L0(w:World)(B:Nat)(v:Value)(l:List PLn):Prop:=w.ownsRow B 199 2 v l.length (l.map AkA).flatten
theorem Arw(B:Nat){ops:Array Oper}{rest:List Oper}{o:Oper}{a:Act}{Q:Exit→Act→World→Prop}{s x:Operand}{w1:World}{v:Value}{l:List PLn}{g:Nat}{c:PLn}
  (hgd:o.guard=none) (ho:o.op=.call {callee:=.builtin .append,args:=#[s,x],argTypes:=#[193,193]}) (hs:a.eval s=v) (hown:L0 w1 B v l)
  (hx:a.eval x=.slice (some ⟨g,0,none⟩) 1 1) (hc0:w1.cell? ⟨g,0,none⟩=some (.int .u8 c.1)) (hc1:w1.cell? ⟨g,1,none⟩=some (.string ⟨c.2.toArray⟩)) (hn:l.length≤100000000) (hB:B≤w1.heap.size)
  (hk:∀v' w',L0 w' B v' (l++[c])→w1.grownBy w' v.ownBlock→wpList prog ops Q rest (a.put o.dst v') w'):wpList prog ops Q (o::rest) a w1:=by
 obtain⟨i0,hi,hz0,hz1,hz2⟩:=info_parts (P:=prog) (e:=199) (z:=.agg #[.int .u8 0,.string ⟨#[]⟩]) (size:=2) (bytes:=24) zk;refine wpList_append_own w1 hgd s x 193 ho B 199 i0 (.agg #[.int .u8 0,.string ⟨#[]⟩]) 2 24 underlying193 hi hz0 hz1 hz2 rfl zdz v l.length _ hs hown ⟨g,0,none⟩ 1 1 [.int .u8 c.1,.string ⟨c.2.toArray⟩] hx rfl ?_ ?_ ?_ ?_ hB ?_
 ·intro j u hj
  match j,hj with
  |0,hj=>
   have:Value.int .u8 c.1=u:=by simpa using hj
   subst this;exact hc0
  |1,hj=>
   have:Value.string ⟨c.2.toArray⟩=u:=by simpa using hj
   subst this;exact hc1
  |j+2,hj=>simp at hj
 ·intro u hu;simp only[List.mem_cons,List.not_mem_nil,or_false]at hu
  rcases hu with rfl|rfl<;>rfl
 ·unfold maxLen;omega
 ·omega
 ·intro v' w' h1 h2 _;rw[Ail l c]at h1;exact hk v' w' (by unfold L0;rw[Qa5];exact h1) h2
def Ls(w w':World):Prop:=∀(k:Nat) (cur:Array Value) (e:TypeId) (fz:Nat×Nat),w.heap[k]?=some (.cells cur e fz)→e≠199→w'.heap[k]?=some (.cells cur e fz)
theorem Ls.trans{a b c:World}(h:Ls a b)(k:Ls b c):Ls a c:=fun i cur e fz h1 h2=>k i cur e fz (h i cur e fz h1 h2) h2
theorem Ls.below{w w':World}(h:Below w.heap.size w w'):Ls w w':=fun k cur e fz h1 _=>(h.block k (Array.getElem?_eq_some_iff.1 h1).1).trans h1
theorem Ano{w:World}{B:Nat}{v:Value}{l:List PLn}{g:Nat}{cur:Array Value}{e2:TypeId}{fz:Nat×Nat}(h:L0 w B v l)(hb:w.heap[g]?=some (.cells cur e2 fz))(hne:e2≠199):v.ownBlock≠some g:=by
 rcases h.2 with⟨rfl,_⟩|⟨g',cap,cur',rfl,_,hc,_⟩
 ·exact fun h=>nomatch h
 ·intro e1
  have:g'=g:=by simpa[Value.ownBlock]using e1
  subst this;rw[hb]at hc;cases hc;exact hne rfl
theorem Ls.grown{w w':World}{B:Nat}{v:Value}{l:List PLn}(h:L0 w B v l)(hg:w.grownBy w' v.ownBlock):Ls w w':=fun k cur e fz h1 h2=>
 (hg.block k (Array.getElem?_eq_some_iff.1 h1).1 (fun e1=>Ano h h1 h2 e1.symm)).trans h1
theorem XY{w:World}{B:Nat}{v:Value}{l:List PLn}(h:L0 w B v l)(o:Obj):L0 (w.alloc o) B v l:=World.ownsRow.alloc h o
def StB(B:Nat)(w:World)(a:Option Addr)(l:List Bs):Prop:=∀(k:Nat) (s:Bs),l[k]?=some s→∃b off,a=some ⟨b,off,none⟩∧b<B∧w.cell? ⟨b,off+k,none⟩=some (.string ⟨s.toArray⟩)
theorem StB.below{B:Nat}{w w':World}{a:Option Addr}{l:List Bs}(h:StB B w a l)(hb:Below B w w'):StB B w' a l:=fun k s hs=>by
 obtain⟨b,off,h1,h2,h3⟩:=h k s hs;exact⟨b,off,h1,h2,(hb.cell (p:=⟨b,off+k,none⟩) h2).trans h3⟩
def Jb(k:Int)(l:List Bs):List PLn:=l.map fun s=>(k,s)
theorem AiG{k:Int}{l:List Bs}{i:Nat}(h:i<l.length):Jb k (l.take (i+1))=Jb k (l.take i)++[(k,l[i])]:=by
 unfold Jb;rw[List.take_succ_eq_append_getElem h,List.map_append];rfl
theorem Ade(B:Nat)(v:Value)(o:List PLn)(k:Int)(l:List Bs)(pa:Option Addr)(ca:Nat)(w:World)(hown:L0 w B v o)(hB:B≤w.heap.size)(hst:StB B w pa l)(hn:o.length≤50000000)(hl:l.length≤4096):
  Calls prog 158 #[v,.int .u8 k,.slice pa l.length ca] w fun e w'=>∃v',e=.returned v'∧L0 w' B v' (o++Jb k l)∧Below B w w'∧Ls w w':=by
 have hC0:L0 w B v (o++Jb k (l.take 0)):=by rw[List.take_zero];show L0 w B v (o++[]);rw[Qb3];exact hown
 clear hown
 go_enter func158,ntmps158
 go_wp2
 go_loopw [0,11] (fun u i wr=>∃j:Nat,j≤l.length∧i=.int .i64 j∧L0 wr B u (o++Jb k (l.take j))∧Below B w wr∧Ls w wr) (fun _ i _=>l.length -(Lib.intOf i).toNat)
 case atStart=>exact⟨0,Nat.zero_le _,rfl,hC0,Below.refl _ w,fun _ _ _ _ h _=>h⟩
 case round=>
  clear hC0;obtain⟨j,hj,hi,hC,hBw,hK⟩:=hrel;subst hi
  by_cases hjs:j<l.length
  ·obtain⟨b,off,rfl,hb,hc⟩:=(hst.below hBw) j l[j] (Qa1 hjs);have hnx:=AiG (k:=k) hjs
   have hol:(o++Jb k (l.take j)).length≤60000000:=by
    unfold Jb;rw[Qa5,Qa7,List.length_take];omega
   have hsz:=hBw.size;generalize l[j]=s at hc hnx
   have hnx:o++Jb k (l.take (j+1))=o++Jb k (l.take j)++[(k,s)]:=by rw[hnx,List.append_assoc]
   generalize o++Jb k (l.take j)=q at hC hol hnx;clear hst hn
   go_wp2_with (at_builtin;refine Arw B (c:=(k,s)) rfl rfl rfl (XY hC _) rfl ?b0 ?b1 ?b2 ?b3 ?b4)
   case b2=>omega
   case b3=>simp;omega
   intro v2 w2 hown2 hg2;have hB2:Below B w w2:=below_grow (hBw.alloc (Qb2 hB hsz) _) hg2 (fun i h=>(World.ownsRow.lt hC i h).1) hB;have hK2:Ls w w2:=(hK.trans (Ls.below ((Below.refl _ wr).alloc (Qa2 _) _))).trans (Ls.grown (XY hC _) hg2);clear hg2 hC hK
   go_wp2
   go_roundw
   case rel=>exact⟨j+1,zm,zsz,by rw[hnx];exact hown2,hB2,hK2⟩
   case measure=>simp only[Lib.intOf];omega
  ·have hje:j=l.length:=by omega
   subst hje;rw[Qb4 (Qa2 _)]at hC
   go_wp2
   go_ret
   exact⟨_,rfl,hC,hBw,hK⟩
end Go.Proofs.Tryz
namespace Go.Proofs.Tryz
open Go.Shelf Go.RowKit Go.VS Go Go.Sort
attribute [local go_sem ↓] Go.wp_at_zero Go.wp_at_succ
def ChB(B:Nat)(w:World)(a:Option Addr)(l:List AR):Prop:=∀(k:Nat) (c:AR),l[k]?=some c→∃b off,a=some ⟨b,off,none⟩∧b<B∧w.cell? ⟨b,off+k*4,none⟩=some (.int .i64 c.1)∧w.cell? ⟨b,off+k*4+1,none⟩=some (.int .i64 c.2.1)∧w.cell? ⟨b,off+k*4+2,none⟩=some (.int .i64 c.2.2.1)∧w.cell? ⟨b,off+k*4+3,none⟩=some (.int .i64 c.2.2.2)
def slK(p:Option Addr)(c k z:Nat):Option Addr:=if c=k then p else p.map fun x=>x.add (k*z)
def slS(p:Option Addr)(c k:Nat):Option Addr:=if c=k then p else p.map fun x=>x.add k
theorem StB.sub{B:Nat}{w:World}{p:Option Addr}{l:List Bs}{c lo hi:Nat}(h:StB B w p l)(hc:l.length≤c):StB B w (slS p c lo) (Ei l lo hi):=fun k s hs=>by
 unfold Ei at hs;rw[List.getElem?_drop,List.getElem?_take]at hs;split at hs
 ·rename_i hk;have hl:=(List.getElem?_eq_some_iff.1 hs).1;obtain⟨b,off,h1,h2,h3⟩:=h _ s hs
  refine⟨b,off+lo,?_,h2,?_⟩<;>grind [slS,Addr.add_lit]
 grind
theorem ChB.sub{B:Nat}{w:World}{p:Option Addr}{l:List AR}{c lo hi:Nat}(h:ChB B w p l)(hc:l.length≤c):ChB B w (slK p c lo 4) (Ei l lo hi):=fun k s hs=>by
 unfold Ei at hs;rw[List.getElem?_drop,List.getElem?_take]at hs;split at hs
 ·rename_i hk;have hl:=(List.getElem?_eq_some_iff.1 hs).1;obtain⟨b,off,h1,h2,h3⟩:=h _ s hs
  refine⟨b,off+lo*4,?_,h2,?_⟩<;>grind [slK,Addr.add_lit]
 grind
theorem ChB.below{B:Nat}{w w':World}{a:Option Addr}{l:List AR}(h:ChB B w a l)(hb:Below B w w'):ChB B w' a l:=fun k c hs=>by
 obtain⟨b,off,h1,h2,h3,h4,h5,h6⟩:=h k c hs;exact⟨b,off,h1,h2,(hb.cell (p:=⟨b,off+k*4,none⟩) h2).trans h3,(hb.cell (p:=⟨b,off+k*4+1,none⟩) h2).trans h4,(hb.cell (p:=⟨b,off+k*4+2,none⟩) h2).trans h5,(hb.cell (p:=⟨b,off+k*4+3,none⟩) h2).trans h6⟩
theorem StB.up{B C:Nat}{w:World}{a:Option Addr}{l:List Bs}(h:StB B w a l)(hb:B≤C):StB C w a l:=fun k s hs=>by
 obtain⟨b,off,h1,h2,h3⟩:=h k s hs<;>grind
theorem PU{α:Type}{l:List α}{i j:Nat}(h1:i≤j)(h2:j≤l.length):(Ei l i j).length=j -i:=by
 grind [K3]
theorem wrN{n:Nat}(h:n≤10000):wrap64 (n:Int)=(n:Int):=by unfold wrap64;omega
theorem wrI{n:Nat}(h:n≤10000):IntKind.i64.wrap (n:Int)=(n:Int):=by grind [IntKind.wrap,IntKind.signed,IntKind.bits]
theorem Aft{w:World}{b:Nat}{cs:Array Value}{T:TypeId}(h:w.heap[b]?=some (.cells cs T (0,0)))(k:Nat):w.frozen? ⟨b,k,none⟩=false:=by simp[World.frozen?,h]
theorem L0.set{W:World}{B b k:Nat}{u v:Value}{P:List PLn}(h:L0 W B v P)(hb:b<B):L0 (W.setCell ⟨b,k,none⟩ u) B v P:=by
 refine⟨h.1,?_⟩
 rcases h.2 with h|⟨g,cap,cur,h1,h2,h3,h4⟩
 ·grind
 ·exact .inr ⟨g,cap,cur,h1,h2,(heap_setCell_other _ _ _ _ zg).trans h3,h4⟩
theorem L0.down{W:World}{B C:Nat}{v:Value}{P:List PLn}(h:L0 W B v P)(hb:C≤B):L0 W C v P:=by
 refine⟨h.1,?_⟩
 rcases h.2 with h|⟨g,cap,cur,h1,h2,h3,h4⟩
 ·grind
 ·exact .inr ⟨g,cap,cur,h1,Qb2 hb h2,h3,h4⟩
def BuI(a b:List Bs)(q:List AR)(p1:Nat)(M:List PLn)(k:Nat)(P:List PLn)(pt:Nat):Prop:=P++Mw a b (q.drop k) pt p1=M∧bdB a.length b.length (q.drop k) pt p1∧P.length≤k*12288
structure N3(B:Nat)(w W:World)(p0 p1 s t:Nat)(nF nT:Int)(v:Value)(P:List PLn):Prop where
 bel:Below B w W
 hk:W.heap[B]?=some (.cells #[.int .i64 s,.int .i64 t,.int .i64 p0,.int .i64 p1,.int .i64 nF,.int .i64 nT] 192 (0,0))
 ot:W.heap[B+1]?=some (.cells #[.int .i64 0,.int .i64 0,.slice none 0 0] 195 (0,0))
 bx:W.heap[B+1+1]?=some (.cells #[.int .i64 p0,.int .i64 nF,v] 195 (0,0))
 own:L0 W (B+3) v P
theorem N3.mono{B:Nat}{w W W':World}{p0 p1 s t:Nat}{nF nT:Int}{v:Value}{P:List PLn}(h:N3 B w W p0 p1 s t nF nT v P)(hb:Below W.heap.size W W'):N3 B w W' p0 p1 s t nF nT v P:=by
 have hl:B+1+1<W.heap.size:=(Array.getElem?_eq_some_iff.1 h.bx).1;refine⟨h.bel.trans (hb.mono zm),(hb.block _ zm).trans h.hk,(hb.block _ zm).trans h.ot,(hb.block _ hl).trans h.bx,h.own.1,?_⟩
 rcases h.own.2 with h|⟨g,cap,cur,h1,h2,h3,h4⟩
 ·grind
 ·exact .inr ⟨g,cap,cur,h1,h2,(hb.block g (Array.getElem?_eq_some_iff.1 h3).1).trans h3,h4⟩
theorem N3.put{B:Nat}{w W W':World}{p0 p1 s t:Nat}{nF nT:Int}{v v':Value}{P Q:List PLn}(h:N3 B w W p0 p1 s t nF nT v P)(hw:Below (B+3) W W')(hk:Ls W W')(hown:L0 W' (B+3) v' Q):N3 B w (W'.setCell ⟨B+1+1,2,none⟩ v') p0 p1 s t nF nT v' Q:=by
 have b1:=hk _ _ _ _ h.hk zdz;have b2:=hk _ _ _ _ h.ot zdz;have b3:=hk _ _ _ _ h.bx zdz;refine⟨(h.bel.trans (hw.mono zm)).setCell (p:=⟨B+1+1,2,none⟩) zg _,(heap_setCell_other _ _ _ _ zg).trans b1,(heap_setCell_other _ _ _ _ zg).trans b2,by grind [World.setCell],hown.1,?_⟩
 rcases hown.2 with h|⟨g,cap,cur,h1,h2,h3,h4⟩
 ·grind
 ·exact .inr ⟨g,cap,cur,h1,h2,(heap_setCell_other _ _ _ _ zg).trans h3,h4⟩
theorem N3.size{B:Nat}{w W:World}{p0 p1 s t:Nat}{nF nT:Int}{v:Value}{P:List PLn}(h:N3 B w W p0 p1 s t nF nT v P):B+3≤W.heap.size:=(Array.getElem?_eq_some_iff.1 h.bx).1
theorem N3.cell{B:Nat}{w W:World}{p0 p1 s t:Nat}{nF nT:Int}{v:Value}{P:List PLn}(h:N3 B w W p0 p1 s t nF nT v P):W.cell? ⟨B+1+1,2,none⟩=some v∧W.frozen? ⟨B+1+1,2,none⟩=false:=⟨Af h.bx 2,by simp[World.frozen?,h.bx]⟩
def AmC(B:Nat)(w W:World)(p0 p1 s t:Nat)(nF nT:Int)(Bc:Nat)(oc:Obj)(Q:List PLn)(e:Ending)(w':World):Prop:=∃v':Value,e=.returned v'∧(∃ao n c,v'=.slice ao n c)∧N3 B w (w'.setCell ⟨B+1+1,2,none⟩ v') p0 p1 s t nF nT v' Q∧(w'.setCell ⟨B+1+1,2,none⟩ v').heap[Bc]?=some oc∧w'.heap[Bc]?=some oc∧(∃u,w'.cell? ⟨B+1+1,2,none⟩=some u)∧w'.frozen? ⟨B+1+1,2,none⟩=false
theorem Sv{B:Nat}{w W:World}{p0 p1 s t:Nat}{nF nT:Int}{v:Value}{P:List PLn}(h:N3 B w W p0 p1 s t nF nT v P)(k:Int)(l:List Bs)(pa:Option Addr)(ca:Nat)(hst:StB B w pa l)(hn:P.length≤50000000)(hl:l.length≤4096){Bc:Nat}{cur:Array Value}{T:TypeId}(hT:T≠199)(hc:W.heap[Bc]?=some (.cells cur T (0,0)))(hne:Bc≠B+1+1):
  Calls prog 158 #[v,.int .u8 k,.slice pa l.length ca] W (AmC B w W p0 p1 s t nF nT Bc (.cells cur T (0,0)) (P++Jb k l)):=by
 refine(Ade (B+3) v P k l pa ca W h.own h.size ((hst.below h.bel).up zm) hn hl).mono ?_;rintro e w' ⟨v',rfl,h1,h2,h3⟩;have hb:=h3 _ _ _ _ h.bx zdz
 have hs:∃ao n c,v'=Value.slice ao n c:=by
  rcases h1.2 with⟨rfl,_⟩|⟨g,cap,cur,rfl,_⟩<;>grind
 exact⟨v',rfl,hs,h.put h2 h3 h1,(heap_setCell_other _ _ _ _ hne).trans (h3 _ _ _ _ hc hT),h3 _ _ _ _ hc hT,⟨_,Af hb 2⟩,by simp[World.frozen?,hb]⟩
theorem Acd(s t p0 p1:Nat)(nF nT:Int)(l:List AR)(a b:List Bs)(pl pa pb:Option Addr)(cl ca cb:Nat)(w:World)(hs:s≤t)(ht:t≤l.length)(hll:l.length≤2000)(hla:a.length≤4096)(hlb:b.length≤4096)(hcl:l.length≤cl)(hca:a.length≤ca)(hcb:b.length≤cb)
  (hC:ChB w.heap.size w pl l) (hA:StB w.heap.size w pa a) (hB:StB w.heap.size w pb b) (hbd:bdB a.length b.length (Ei l s t) p0 p1):
  Calls prog 93 #[.agg #[.int .i64 s,.int .i64 t,.int .i64 p0,.int .i64 p1,.int .i64 nF,.int .i64 nT],.slice pl l.length cl,.slice pa a.length ca,.slice pb b.length cb] w fun e w'=>∃v,e=.returned (.agg #[.int .i64 p0,.int .i64 nF,v])∧L0 w' w.heap.size v (Mw a b (Ei l s t) p0 p1)∧Below w.heap.size w w':=by
 have el:(if cl=s then pl else Qb1 (fun x=>x.add (s*4)) pl)=slK pl cl s 4:=rfl;have hQ:=hC.sub (lo:=s) (hi:=t) hcl
 have hql:(Ei l (s:Int) (t:Int)).length=t -s:=by
  have:=K3 (l:=l) (i:=(s:Int)) (j:=(t:Int)) zm zm zm;omega
 have hM0:BuI a b (Ei l s t) p1 (Mw a b (Ei l s t) p0 p1) 0 [] p0:=⟨rfl,hbd,zsz⟩
 generalize Mw a b (Ei l s t) p0 p1=M at hM0⊢;generalize Ei l (s:Int) (t:Int)=q at hQ hql hM0;generalize slK pl cl s 4=pq at el hQ
 obtain⟨W1,hW1⟩:∃W1,W1=((w.alloc (.cells #[.int .i64 s,.int .i64 t,.int .i64 p0,.int .i64 p1,.int .i64 nF,.int .i64 nT] 192)).alloc (.cells #[.int .i64 0,.int .i64 0,.slice none 0 0] 195)).alloc (.cells #[.int .i64 p0,.int .i64 nF,.slice none 0 0] 195):=⟨_,rfl⟩
 have hA1:N3 w.heap.size w W1 p0 p1 s t nF nT (.slice none 0 0) []:=by
  rw[hW1]
  have z1:(w.alloc (.cells #[.int .i64 s,.int .i64 t,.int .i64 p0,.int .i64 p1,.int .i64 nF,.int .i64 nT] 192)).heap.size=w.heap.size+1:=zsz
  have z2:((w.alloc (.cells #[.int .i64 s,.int .i64 t,.int .i64 p0,.int .i64 p1,.int .i64 nF,.int .i64 nT] 192)).alloc (.cells #[.int .i64 0,.int .i64 0,.slice none 0 0] 195)).heap.size=w.heap.size+1+1:=zsz
  have n1:=heap_alloc_new w (.cells #[.int .i64 s,.int .i64 t,.int .i64 p0,.int .i64 p1,.int .i64 nF,.int .i64 nT] 192);have n2:=heap_alloc_new (w.alloc (.cells #[.int .i64 s,.int .i64 t,.int .i64 p0,.int .i64 p1,.int .i64 nF,.int .i64 nT] 192)) (.cells #[.int .i64 0,.int .i64 0,.slice none 0 0] 195)
  have n3:=heap_alloc_new ((w.alloc (.cells #[.int .i64 s,.int .i64 t,.int .i64 p0,.int .i64 p1,.int .i64 nF,.int .i64 nT] 192)).alloc (.cells #[.int .i64 0,.int .i64 0,.slice none 0 0] 195)) (.cells #[.int .i64 p0,.int .i64 nF,.slice none 0 0] 195);rw[z1]at n2;rw[z2]at n3
  exact⟨(((Below.refl _ w).alloc (Qa2 _) _).alloc zsz _).alloc (by rw[z2];omega) _,(Below.heap_alloc _ _ _ (by rw[z2];omega)).trans ((Below.heap_alloc _ _ _ (by rw[z1];omega)).trans n1),(Below.heap_alloc _ _ _ (by rw[z2];omega)).trans n2,n3,World.ownsRow_nil _ _ _ _⟩
 have htc:t≤cl:=zm
 clear hbd hC hcl
 go_enter func93,ntmps93
 go_wp2
 rw[←hW1];clear hW1 el;generalize hBB:w.heap.size=BB at*
 go_loopw [10,30] (fun pt i wr=>∃k:Nat,k≤q.length∧i=.int .i64 k∧∃(n:Nat) (v:Value) (P:List PLn),pt=.int .i64 n∧N3 BB w wr p0 p1 s t nF nT v P∧BuI a b q p1 M k P n) (fun _ i _=>q.length -(Lib.intOf i).toNat)
 case atStart=>exact⟨0,Nat.zero_le _,rfl,p0,_,_,rfl,hA1,hM0⟩
 case round=>
  clear hA1 hM0;obtain⟨k,hk,hi,n,v,P,hpt,hAt,hI⟩:=hrel;subst hi hpt
  by_cases hks:k<q.length
  ·have hqk:=Qa1 hks;have hAt':=hAt;obtain⟨hBel,hHk,hOt,hBx,hOwn⟩:=hAt';have hQ':=hQ.below hBel;obtain⟨bq,oq,rfl,hbq,d0,d1,d2,d3⟩:=hQ' k q[k] hqk;obtain⟨hE,hbd,hPl⟩:=hI;rw[List.drop_eq_getElem_cons hks]at hE hbd;generalize q[k]=c at d0 d1 d2 d3 hE hbd;obtain⟨c0,c1,c2,c3⟩:=c;obtain⟨⟨h1,h2,h3,h4,h5,h6,h7⟩,h8⟩:=hbd
   dsimp only at d0 d1 d2 d3 h1 h2 h3 h4 h5 h6 h7 h8;obtain⟨x,rfl⟩:=Qa0 (show 0≤c0 by omega);obtain⟨y,rfl⟩:=Qa0 h3;obtain⟨u,rfl⟩:=Qa0 h5;obtain⟨z,rfl⟩:=Qa0 h6;have hA2:=hAt.mono ((Below.refl _ wr).alloc (Qa2 _) (.cells #[.int .i64 x,.int .i64 y,.int .i64 u,.int .i64 z] 225))
   have hCx:=heap_alloc_new wr (.cells #[.int .i64 x,.int .i64 y,.int .i64 u,.int .i64 z] 225);have cLn:wr.cell? ⟨BB+1+1,2,none⟩=some v:=Af hBx 2;have e1:(if ca=n then pa else Qb1 (fun x=>x.add n) pa)=slS pa ca n:=rfl;have k1:=hA.sub (lo:=n) (hi:=x) hca;generalize slS pa ca n=pa1 at e1 k1
   have g1:n≤x:=zm
   have g2:x≤ca:=zm
   have hBc:BB+1+1<wr.heap.size:=hAt.size
   obtain⟨xy,hxy⟩:∃m,m=x+y:=⟨_,rfl⟩
   obtain⟨uz,huz⟩:∃m,m=u+z:=⟨_,rfl⟩
   have exy:((x:Int)+(y:Int))=(xy:Int):=zm
   have euz:((u:Int)+(z:Int))=(uz:Int):=zm
   have s1:=PU g1 (show x≤a.length by omega);have e2:(if ca=x then pa else Qb1 (fun r=>r.add x) pa)=slS pa ca x:=rfl;have k2:=hA.sub (lo:=x) (hi:=xy) hca;have s2:=PU (l:=a) (show x≤xy by omega) zm;have e3:(if cb=u then pb else Qb1 (fun r=>r.add u) pb)=slS pb cb u:=rfl;have k3:=hB.sub (lo:=u) (hi:=uz) hcb
   have s3:=PU (l:=b) (show u≤uz by omega) zm
   have hfin:BuI a b q p1 M (k+1) (P++Jb 32 (Ei a n x)++Jb 45 (Ei a x xy)++Jb 43 (Ei b u uz)) xy:=by
    refine⟨?_,by rw[←exy];exact h8,?_⟩
    ·rw[←hE,Mw];dsimp only;rw[exy,euz];simp only[List.append_assoc,Jb]
    ·unfold Jb;simp only[Qa5,Qa7];rw[s1,s2,s3];omega
   have bxy:xy≤10000:=zm
   have buz:uz≤10000:=zm
   have g3:x≤xy:=zm
   have g4:xy≤ca:=zm
   have g5:u≤uz:=zm
   have g6:uz≤cb:=zm
   have hPl0:P.length≤24576000:=zm
   have hPl1:(P++Jb 32 (Ei a n x)).length≤24580096:=by unfold Jb;rw[Qa5,Qa7,s1];omega
   have hPl2:(P++Jb 32 (Ei a n x)++Jb 45 (Ei a x xy)).length≤24584192:=by unfold Jb at hPl1⊢;rw[Qa5,Qa7,s2];omega
   have j1:x -n≤4096:=zm
   have j2:xy -x≤4096:=zm
   have j3:uz -u≤4096:=zm
   generalize slS pa ca x=pa2 at e2 k2;generalize slS pb cb u=pb3 at e3 k3;generalize Ei a (n:Int) (x:Int)=A1 at k1 s1 hfin hPl1 hPl2;generalize Ei a (x:Int) (xy:Int)=A2 at k2 s2 hfin hPl2;generalize Ei b (u:Int) (uz:Int)=A3 at k3 s3 hfin;generalize hBcE:wr.heap.size=Bc at hCx hBc
   generalize hw2:wr.alloc (.cells #[.int .i64 x,.int .i64 y,.int .i64 u,.int .i64 z] 225)=W2 at hA2 hCx;have hA3:N3 BB w W2.drew p0 p1 s t nF nT v P:=hA2.mono ((Below.refl _ W2).drew);have hC3:W2.drew.heap[Bc]?=some (.cells #[.int .i64 x,.int .i64 y,.int .i64 u,.int .i64 z] 225 (0,0)):=hCx;obtain⟨cv,cf⟩:=hA3.cell
   have cx:W2.drew.cell? ⟨Bc,0,none⟩=some (.int .i64 x):=Af hC3 0;have hl1:=Sv hA3 32 A1 pa1 (ca -n) k1 zm zm zdz hC3 zm;rw[s1]at hl1
   have hne:Bc≠BB+1+1:=zm
   clear hA2 hCx hAt hBel hHk hOt hBx hOwn hQ' hE cLn hA3 hC3 hxy huz h1 h2 h3 h4 h5 h6 h7 h8 hPl k1 s1 hBc
   go_wp2_with fail
   clear hw2 hBcE d0 d1 d2 d3
   go_still_tail 7,zk
   change wpList _ _ _ _ _ W2.drew;generalize W2.drew=W3 at hl1 cv cf cx
   go_wp2_with (go_at_call 158;refine hl1.mono ?_;rintro e w4 ⟨v4,rfl,⟨ao4,n4,q4,rfl⟩,hA4,hC4,hD4,⟨u4,c4⟩,f4⟩;have i0:=Af hD4 0;have i1:=Af hD4 1;have i2:=Af hD4 2;have i3:=Af hD4 3;simp at i0 i1 i2 i3)
   clear hl1 cv cf cx c4 f4 hD4 i0 i1 i2 i3 e1 W3;generalize w4.setCell ⟨BB+1+1,2,none⟩ (.slice ao4 n4 q4)=W4 at hA4 hC4⊢;have hA5:N3 BB w W4.drew p0 p1 s t nF nT (.slice ao4 n4 q4) (P++Jb 32 A1):=hA4.mono ((Below.refl _ W4).drew);have hC5:W4.drew.heap[Bc]?=some (.cells #[.int .i64 x,.int .i64 y,.int .i64 u,.int .i64 z] 225 (0,0)):=hC4;obtain⟨cv,cf⟩:=hA5.cell
   have cx:W4.drew.cell? ⟨Bc,0,none⟩=some (.int .i64 x):=Af hC5 0;have hl2:=Sv hA5 45 A2 pa2 (ca -x) k2 zm zm zdz hC5 hne;rw[s2]at hl2;clear hA4 hC4 hA5 hC5 k2 s2 hPl1 hPl0
   go_still_tail 7,zk
   change wpList _ _ _ _ _ W4.drew;generalize W4.drew=W5 at hl2 cv cf cx
   go_wp2_with (go_at_call 158;refine hl2.mono ?_;rintro e w6 ⟨v6,rfl,⟨ao6,n6,q6,rfl⟩,hA6,hC6,hD6,⟨u6,c6⟩,f6⟩;have i0:=Af hD6 0;have i1:=Af hD6 1;have i2:=Af hD6 2;have i3:=Af hD6 3;simp at i0 i1 i2 i3)
   clear hl2 cv cf cx c6 f6 hD6 i0 i1 i2 i3 W5;generalize w6.setCell ⟨BB+1+1,2,none⟩ (.slice ao6 n6 q6)=W6 at hA6 hC6⊢;have hA7:N3 BB w W6.drew p0 p1 s t nF nT (.slice ao6 n6 q6) (P++Jb 32 A1++Jb 45 A2):=hA6.mono ((Below.refl _ W6).drew);have hC7:W6.drew.heap[Bc]?=some (.cells #[.int .i64 x,.int .i64 y,.int .i64 u,.int .i64 z] 225 (0,0)):=hC6
   obtain⟨cv,cf⟩:=hA7.cell;have cx:W6.drew.cell? ⟨Bc,2,none⟩=some (.int .i64 u):=Af hC7 2;have cz:W6.drew.cell? ⟨Bc,3,none⟩=some (.int .i64 z):=Af hC7 3;have hl3:=Sv hA7 43 A3 pb3 (cb -u) k3 zm zm zdz hC7 hne;rw[s3]at hl3;clear hA6 hC6 hA7 hC7 k3 s3 hPl2
   go_still_tail 11,zk
   rw[show IntKind.i64.wrap (uz:Int)=(uz:Int)from wrI buz]
   repeat still_step
   try refine wpStill_nil ?_
   change wpList _ _ _ _ _ W6.drew;generalize W6.drew=W7 at hl3 cv cf cx cz
   go_wp2_with (go_at_call 158;refine hl3.mono ?_;rintro e w8 ⟨v8,rfl,⟨ao8,n8,q8,rfl⟩,hA8,hC8,hD8,⟨u8,c8⟩,f8⟩)
   clear hl3 cv cf cx cz hD8;exact⟨⟨k+1,zm,zsz,xy,_,_,rfl,hA8,hfin⟩,by simp only[Lib.intOf];omega⟩
  ·have hke:k=q.length:=by omega
   obtain⟨hE,hbd,hPl⟩:=hI;rw[List.drop_of_length_le zm]at hE hbd;obtain⟨h1,h2,h3⟩:(0:Int)≤n∧(n:Int)≤p1∧(p1:Int)≤a.length:=hbd
   have g1:n≤p1:=zm
   have g2:p1≤ca:=zm
   have e1:(if ca=n then pa else Qb1 (fun x=>x.add n) pa)=slS pa ca n:=rfl;have k1:=hA.sub (lo:=n) (hi:=p1) hca;have s1:=PU g1 (show p1≤a.length by omega);have hE:P++Jb 32 (Ei a n p1)=M:=hE;generalize slS pa ca n=pa1 at e1 k1;generalize Ei a (n:Int) (p1:Int)=A1 at k1 s1 hE
   have hA3:N3 BB w wr.drew p0 p1 s t nF nT v P:=hAt.mono ((Below.refl _ wr).drew);obtain⟨cv,cf⟩:=hA3.cell;have cp:wr.drew.cell? ⟨BB,3,none⟩=some (.int .i64 p1):=Af hA3.hk 3;have hl1:=Sv hA3 32 A1 pa1 (ca -n) k1 zm zm zdz hA3.hk zm;rw[s1]at hl1;subst hE;clear hAt hA3 k1 s1 h1 h2 h3 hPl
   go_wp2_with fail
   go_still_tail 8,zk
   change wpList _ _ _ _ _ wr.drew;generalize wr.drew=W3 at hl1 cv cf cp
   go_wp2_with (go_at_call 158;refine hl1.mono ?_;rintro e w4 ⟨v4,rfl,⟨ao4,n4,q4,rfl⟩,hA4,hC4,hD4,⟨u4,c4⟩,f4⟩;have i0:=Af hA4.bx 0;have i1:=Af hA4.bx 1;have i2:=Af hA4.bx 2;have o0:=Af hA4.ot 0;have o1:=Af hA4.ot 1;have o2:=Af hA4.ot 2;have f5:=Aft hA4.ot 0;have f6:=Aft hA4.ot 1;have f7:=Aft hA4.ot 2;simp at i0 i1 i2 o0 o1 o2)
   clear hl1 cv cf cp hC4 hD4 c4 f4 i0 i1 i2 o0 o1 o2 f5 f6 f7;generalize w4.setCell ⟨BB+1+1,2,none⟩ (.slice ao4 n4 q4)=W4 at hA4⊢
   have hb:(((W4.setCell ⟨BB+1,0,none⟩ (.int .i64 p0)).setCell ⟨BB+1,1,none⟩ (.int .i64 nF)).setCell ⟨BB+1,2,none⟩ (.slice ao4 n4 q4)).heap[BB+1]?=some (.cells #[.int .i64 p0,.int .i64 nF,.slice ao4 n4 q4] 195 (0,0)):=by
    simp[World.setCell,Array.getElem?_modify,hA4.ot]
   try simp only[Exit.inBlock,Exit.then]
   refine bodyPost_ret (results_cell_row rfl _ _ (BB+1) 195 _ (0,0) _ rfl hb underlying195 rfl zk) rfl ?_;rw[hBB]
   exact⟨_,rfl,((((hA4.own.set zm).set zm).set zm).down zm),((hA4.bel.setCell (p:=⟨BB+1,0,none⟩) (by show BB≤BB+1;omega) _).setCell (p:=⟨BB+1,1,none⟩) (by show BB≤BB+1;omega) _).setCell (p:=⟨BB+1,2,none⟩) (by show BB≤BB+1;omega) _⟩
end Go.Proofs.Tryz
namespace Go.VS
open Go Go.RowKit
theorem Fn.Anj{P:Pg}{nm:String}{ps:List PT}(hp:ps.any PT.Hf=false){t:BT}{tt:TT}(htf:TC.BD.TT.BD tt=true)(x:DP ps){K:DP [.val true t tt]→DP (ptrs ps)→Prop}
  (h:∀f fn,P.funcs[f]?=some fn→fn.name=nm→fn.body.isSome=true∧(fn.name== "runtime.NumGoroutine")=false∧∀(μ:Nat→Nat) (aw:List SV) (w:World) (vs:Array Value),svs μ dv dl (Bn ps 0 (Ar ps x)) aw→Late P w→Jp P w aw vs→
   Calls P f vs w fun e w'=>Below w.heap.size w w'∧∃(l:t.D) (d':DP (ptrs ps)),K l d'∧∃(ns:List Value) (f:List Nat) (z:Nat→Prop),e=.returned (.agg ns.toArray)∧RVs (hctx P z) w' (t.enc tt l) ns f∧f.Nodup∧(∀b∈f,w.heap.size≤b∧b<w'.heap.size∧¬z b)∧(∀b,z b→w.heap.size≤b∧b<w'.heap.size)):
  Fn P nm ⟨ps,[.val true t tt]⟩ x K:=by
 intro μ H aw hsv _;refine He ?_;intro f fn hf hn;obtain⟨h1,h2,h3⟩:=h f fn hf hn;refine⟨h1,h2,fun w vs hw hargs=>?_⟩
 refine(h3 μ aw w vs hsv hw hargs).mono fun e w' ⟨hb,l,d',hK,ns,g,z,he,hr,g1,g2,g3⟩=>⟨hb,?_⟩
 subst he;refine .inl ⟨_,rfl,.val true (.agg (t.enc tt l)),g,z,⟨l,d',⟨fun i=>if i<rbase then μ i else H.next,[.agg (t.enc tt l)],[.agg (t.enc tt l)],fun i hi=>if_pos hi,rfl,FA.refl _,?_,?_,?_,Qa2 _⟩,hK⟩,?_,?_,?_,g1,g2,g3⟩
 ·have e1:List.take t.size (Ar [PT.val true t tt] l)=t.ex tt l:=by
   show List.take t.size (t.ex tt l)=_;exact Qb4 (Nat.le_of_eq (CZ t tt l))
  refine⟨⟨t.enc tt l,rfl,?_⟩,trivial⟩;rw[e1];exact Fb (μ:=fun i=>if i<rbase then μ i else H.next) (ver:=dv) (ln:=dl) t tt l
 ·intro b l' hl;rw[DM hp,BJ (by rfl)]at hl;trivial
 ·grind
 ·exact(EY t tt htf l).1
 ·exact(EY t tt htf l).2
 ·exact⟨fun _=>⟨ns.toArray,rfl,hr⟩,fun h=>nomatch h⟩
end Go.VS
namespace Go.Proofs.Tryz
open Go.Shelf Go.RowKit Go.VS Go Go.Sort
theorem Akb{m n:Int}:∀{q:List AR} {p t:Int},bdB m n q p t→0≤p∧0≤t
 |[],p,t,h=>⟨h.1,Int.le_trans h.1 h.2.1⟩
 |c::r,p,t,h=>⟨h.1.1,(Akb h.2).2⟩
theorem ZE{C:Ctx}{w:World}{k:Nat}{xs:List (List AV)}{a:Option Addr}{n c:Nat}{f:List Nat}(h:RV C w (.sl .brw k xs) (.slice a n c) f):xs.length≤c:=by
 generalize ha:AV.sl .brw k xs=x at h;generalize hv:Value.slice a n c=v at h
 cases h with
 |slNil τ k'=>cases ha;simp
 |shrE τ k' a' cap ht=>cases ha;simp
 |shr τ k' xs' b off cap cs e fz ht hz hi hb hs hc hk hr=>cases ha;cases hv;exact hc
 |own k' xs' b off cap cs e f' hb hs hc hm hk hr=>cases ha
 |_=>cases ha
theorem ArM{vs:Array Value}{a b c d:Value}(h:vs.size=4)(h0:vs.getD 0 undef=a)(h1:vs.getD 1 undef=b)(h2:vs.getD 2 undef=c)(h3:vs.getD 3 undef=d):vs=#[a,b,c,d]:=by
 obtain⟨l⟩:=vs
 match l,h with
 |[x,y,z,u],_=>simp at h0 h1 h2 h3;subst h0 h1 h2 h3;rfl
theorem Al0{C:Ctx}{w:World}{l:List Bs}{v:Value}{f:List Nat}(h:RV C w (.sl .brw (BT.str).size (l.map (BT.str.enc .leaf))) v f):∃a c,v=.slice a l.length c∧l.length≤c∧StB w.heap.size w a l:=by
 obtain⟨a,c,rfl,hc⟩:=LJ (t:=.str) rfl h;refine⟨a,c,rfl,by simpa using ZE h,fun k s hs=>?_⟩;obtain⟨b,off,h1,h2,h3⟩:=hc k s hs;exact⟨b,off,h1,h2,by simpa[BT.size]using h3 0 _ rfl⟩
theorem Api{C:Ctx}{w:World}{l:List AR}{v:Value}{f:List Nat}(h:RV C w (.sl .brw AZ.size (l.map (AZ.enc .leaf))) v f):∃a c,v=.slice a l.length c∧l.length≤c∧ChB w.heap.size w a l:=by
 obtain⟨a,c,rfl,hc⟩:=LJ (t:=AZ) rfl h;refine⟨a,c,rfl,by simpa using ZE h,fun k s hs=>?_⟩;obtain⟨b,off,h1,h2,h3⟩:=hc k s hs;exact⟨b,off,h1,h2,h3 0 _ rfl,h3 1 _ rfl,h3 2 _ rfl,h3 3 _ rfl⟩
theorem Akh:Tv (Pg.of prog):=fun h l a b hb hll hla hlb hbd=>by
 refine Fn.Anj (ps:=Dt.ps) rfl rfl _ fun f fn hf hn=>?_
 have hfi:f=93:=Ec zk hf hn;subst hfi;have hfe:=Qa4 (hf.symm.trans func93);subst hfe;refine⟨zk,zk,fun μ sv w vs hsv hw hargs=>?_⟩;obtain⟨hsize,hat⟩:=hargs;obtain⟨s,t,⟨p0,p1⟩,nF,nT⟩:=h
 have hsv:svs μ dv dl [.agg (OE.ex .leaf (s,t,(p0,p1),nF,nT)),.one (.sl .brw .leaf AZ l),.one (.sl .brw .leaf .str a),.one (.sl .brw .leaf .str b)] sv:=hsv;dsimp only at hb hbd;have hbp:0≤p0∧0≤p1:=Akb hbd;obtain⟨hb0,hb1,hb2⟩:=hb;obtain⟨s,rfl⟩:=Qa0 hb0;obtain⟨t,rfl⟩:=Qa0 (show 0≤t by omega)
 obtain⟨p0,rfl⟩:=Qa0 hbp.1;obtain⟨p1,rfl⟩:=Qa0 hbp.2
 match sv,hsv with
 |[s0,s1,s2,s3],⟨⟨m0,e0,r0⟩,⟨a1,e1,r1⟩,⟨a2,e2,r2⟩,⟨a3,e3,r3⟩,_⟩=>
  have r0:=(WU OE .leaf rfl _ m0).1 r0;have r1:a1=.sl .brw AZ.size (l.map (AZ.enc .leaf)):=r1;have r2:a2=.sl .brw (BT.str).size (a.map (BT.str.enc .leaf)):=r2;have r3:a3=.sl .brw (BT.str).size (b.map (BT.str.enc .leaf)):=r3;subst e0 e1 e2 e3 r0 r1 r2 r3;obtain⟨C0,f0,_,h0⟩:=hat 0 _ rfl;obtain⟨C1,f1,_,h1⟩:=hat 1 _ rfl;obtain⟨C2,f2,_,h2⟩:=hat 2 _ rfl
  obtain⟨C3,f3,_,h3⟩:=hat 3 _ rfl;obtain⟨cs,hc0,hc1⟩:=h0;have hcs:=Vc hc1
  have hv0:vs.getD 0 undef=.agg #[.int .i64 s,.int .i64 t,.int .i64 p0,.int .i64 p1,.int .i64 nF,.int .i64 nT]:=by
   rw[hc0];have:=congrArg List.toArray hcs;simp only[Array.toArray_toList]at this;rw[this];rfl
  obtain⟨pl,cl,hv1,hcl,hC⟩:=Api (show RV C1 w _ (vs.getD 1 undef) f1 from h1);obtain⟨pa,ca,hv2,hca,hA⟩:=Al0 (show RV C2 w _ (vs.getD 2 undef) f2 from h2);obtain⟨pb,cb,hv3,hcb,hB⟩:=Al0 (show RV C3 w _ (vs.getD 3 undef) f3 from h3);have hvs:=ArM hsize hv0 hv1 hv2 hv3;subst hvs
  refine(Acd s t p0 p1 nF nT l a b pl pa pb cl ca cb w zm zm hll hla hlb hcl hca hcb hC hA hB hbd).mono ?_;rintro e w' ⟨v,rfl,hown,hbel⟩;obtain⟨_,f,hnd,hfb,hrv⟩:=JU (t:=(.pair (.int .u8) .str:BT)) rfl hown
  refine⟨hbel,pat a b l (s,t,(p0,p1),nF,nT),(),rfl,[.int .i64 p0,.int .i64 nF,v],f,fun _=>False,rfl,?_,hnd,fun x hx=>⟨(hfb x hx).1,(hfb x hx).2,id⟩,fun _ h=>h.elim⟩;have h9:=RVs.cons _ _ _ _ _ _ (hrv (hctx prog fun _=>False)) .nil;rw[Qb3]at h9;exact .cons _ _ [] _ _ _ (.lit _ rfl) (.cons _ _ [] _ _ _ (.lit _ rfl) h9)
end Go.Proofs.Tryz
namespace Go.Proofs.Tryz
open Go.Shelf Go.RowKit Go.VS Go Go.Sort
abbrev ArV(w:World)(B:Nat)(v:Value)(l:List AR):Prop:=AeG AZ 225 w B v l
theorem AaM(l:List AR)(pa:Option Addr)(ca:Nat)(w:World)(hl:l.length≤10000)(hn:pa=none→l=[]∧ca=0)(hr:Qa w pa (l.map AZ.fl).flatten):
  Calls prog 231 #[.slice pa l.length ca] w fun e w'=>∃v,e=.returned v∧ArV w' w.heap.size v l∧Below w.heap.size w w':=by
 obtain⟨i0,hi,hz0,hz1,hz2⟩:=info_parts (P:=prog) (e:=225) (z:=.agg #[.int .i64 0,.int .i64 0,.int .i64 0,.int .i64 0]) (size:=4) (bytes:=32) zk
 have q1:∀(w:World) (a:Option Addr) (n c n' c':Nat),(binOp .eql 170 (.slice a n c) (.slice none n' c')).run prog w=.ok (.bool a.isNone) w:=fun w a n c n' c'=>Lib.run_eql_slice_nil w _ _ a n c n' c' underlying170
 cases pa with
 |none=>
  obtain⟨rfl,rfl⟩:=hn rfl
  go_enter func231,ntmps231
  go_wp2
  go_ret
  exact⟨_,rfl,World.ownsRow_nil _ _ _ _,Below.refl _ w⟩
 |some pa=>
  have hmade:ArV (w.alloc (.cells #[] 225)) w.heap.size (.slice (some ⟨w.heap.size,0,none⟩) 0 0) []:=World.ownsRow_made w #[] 0 (Qa2 _) (Nat.zero_le _) rfl;have hr1:Qa (w.alloc (.cells #[] 225)) (some pa) (l.map AZ.fl).flatten:=hr.below ((Below.refl _ w).alloc (Qa2 _) _)
  go_enter func231,ntmps231
  go_wp2_with (at_builtin;refine Apb (t:=AZ) rfl zdz underlying170 hi hz0 hz1 hz2 rfl zdz w.heap.size (l:=[]) (m:=l) rfl rfl rfl hmade rfl hn hr1 (by simp;omega) zsz ?_)
  intro v2 w2 hown2 hg2;have hB2:=below_grow ((Below.refl _ w).alloc (Qa2 _) _) hg2 (fun i h=>(World.ownsRow.lt hmade i h).1) (Qa2 _)
  go_wp2
  go_ret
  exact⟨_,rfl,hown2,hB2⟩
theorem Acz:∀(l:List AR) (k:Nat) (c:AR) (j:Nat),l[k]?=some c→j<4→(l.map AZ.fl).flatten[k*4+j]?=(AZ.fl c)[j]?
 |[],_,_,_,h,_=>nomatch h
 |d::l,0,c,j,h,hj=>by
  obtain rfl:d=c:=by simpa using h
  rw[Qb0,Qa6,List.getElem?_append_left (by show 0*4+j<4;omega)]
  simp
 |d::l,k+1,c,j,h,hj=>by
  rw[Qb0,Qa6,List.getElem?_append_right (by show 4≤_;omega)]
  have:=Acz l k c j (by simpa using h) hj;rw[show(k+1)*4+j -(AZ.fl d).length=k*4+j by show(k+1)*4+j -4=_;omega]
  exact this
theorem Nx{W:World}{B:Nat}{v:Value}{l:List AR}(h:ArV W B v l){k:Nat}{c:AR}(hk:l[k]?=some c):∃g cap,v=.slice (some ⟨g,0,none⟩) l.length cap∧B≤g∧(W.cell? ⟨g,k*4,none⟩=some (.int .i64 c.1)∧W.cell? ⟨g,k*4+1,none⟩=some (.int .i64 c.2.1)∧W.cell? ⟨g,k*4+2,none⟩=some (.int .i64 c.2.2.1)∧W.cell? ⟨g,k*4+3,none⟩=some (.int .i64 c.2.2.2))∧∀j,W.frozen? ⟨g,j,none⟩=false:=by
 have hl:=(List.getElem?_eq_some_iff.1 hk).1;have h':=h
 rcases h'.2 with⟨_,h0⟩|⟨g,cap,cur,rfl,hg,_⟩
 ·omega
 ·have hc:=fun j hj=>h.cellAt (k*4+j) (show k*4+j<l.length*4 by omega)
  refine⟨g,cap,rfl,hg,⟨?_,?_,?_,?_⟩,fun j=>h.frozenAt j⟩
  ·exact(hc 0 zm).trans (Acz l k c 0 hk zdz)
  ·exact(hc 1 zm).trans (Acz l k c 1 hk zdz)
  ·exact(hc 2 zm).trans (Acz l k c 2 hk zdz)
  ·exact(hc 3 zm).trans (Acz l k c 3 hk zdz)
structure Qy(B:Nat)(W:World)(mb:Nat)(v:Value)(l:List AR)(sa sb:Value):Prop where
 box:W.heap[mb]?=some (.cells #[v,sa,sb] 271 (0,0))
 lo:B≤mb
 own:ArV W B v l
theorem Qy.mono{B:Nat}{W W':World}{mb:Nat}{v:Value}{l:List AR}{sa sb:Value}(h:Qy B W mb v l sa sb)(hb:Below W.heap.size W W'):Qy B W' mb v l sa sb:=by
 refine⟨(hb.block _ (Array.getElem?_eq_some_iff.1 h.box).1).trans h.box,h.lo,h.own.1,?_⟩
 rcases h.own.2 with h|⟨g,cap,cur,h1,h2,h3,h4⟩
 ·exact .inl h
 ·exact .inr ⟨g,cap,cur,h1,h2,(hb.block g (Array.getElem?_eq_some_iff.1 h3).1).trans h3,h4⟩
theorem wrD{n:Int}(h0:0≤n)(h:n≤100000):IntKind.i64.wrap n=n:=by
 rw[IntKind.wrap_i64];omega
theorem Me{fn:Func}{t u v x:Tmp}(h:fn.results=#[.tmp t,.tmp u,.tmp v,.tmp x])(tmps:Array Value)(P:Program)(w:World):(results fn tmps).run P w=.ok (.tuple #[tmps.getD t undef,tmps.getD u undef,tmps.getD v undef,tmps.getD x undef]) w:=by simp[results,h]
def AnJ(c:AR)(sa sb:Value):Value:=if c.2.2.2=0 then .tuple #[sa,.int .i64 c.1,.int .i64 c.2.1,.bool true]else if c.2.1=0 then .tuple #[sb,.int .i64 c.2.2.1,.int .i64 c.2.2.2,.bool true]else .tuple #[.slice none 0 0,.int .i64 0,.int .i64 0,.bool false]
theorem Aim{B:Nat}{w:World}{mb:Nat}{v:Value}{l:List AR}{sa sb:Value}(h:Qy B w mb v l sa sb){k:Nat}{c:AR}(hk:l[k]?=some c)(hc:0≤c.1+c.2.1∧c.1+c.2.1≤100000):
  Calls prog 233 #[.pointer (some ⟨mb,0,none⟩),.int .i64 k] w fun e w'=>e=.returned (.int .i64 (c.1+c.2.1))∧w'=w.drew:=by
 obtain⟨g,cap,rfl,hg,⟨c0,c1,c2,c3⟩,hf⟩:=Nx h.own hk;have b0:w.cell? ⟨mb,0,none⟩=some (.slice (some ⟨g,0,none⟩) l.length cap):=Af h.box 0;have hl:=(List.getElem?_eq_some_iff.1 hk).1;have hw:IntKind.i64.wrap (c.1+c.2.1)=c.1+c.2.1:=wrD hc.1 hc.2;have d0:w.drew.cell? ⟨mb,0,none⟩=some (.slice (some ⟨g,0,none⟩) l.length cap):=b0
 have d1:w.drew.cell? ⟨g,k*4,none⟩=some (.int .i64 c.1):=c0;have d2:w.drew.cell? ⟨g,k*4+1,none⟩=some (.int .i64 c.2.1):=c1;clear hf hg hc hk h b0 c0 c1 c2 c3
 go_enter func233,ntmps233
 go_wp2
 go_still zk
 go_wp2
 go_ret
 exact⟨by simp[hw],rfl⟩
theorem AbC{B:Nat}{w:World}{mb:Nat}{v:Value}{l:List AR}{sa sb:Value}(h:Qy B w mb v l sa sb){k:Nat}{c:AR}(hk:l[k]?=some c):
  Calls prog 232 #[.pointer (some ⟨mb,0,none⟩),.int .i64 k] w fun e w'=>e=.returned (AnJ c sa sb)∧Below w.heap.size w w':=by
 obtain⟨g,cap,rfl,hg,⟨c0,c1,c2,c3⟩,hf⟩:=Nx h.own hk;have b0:w.cell? ⟨mb,0,none⟩=some (.slice (some ⟨g,0,none⟩) l.length cap):=Af h.box 0;have b1:w.cell? ⟨mb,1,none⟩=some sa:=Af h.box 1;have b2:w.cell? ⟨mb,2,none⟩=some sb:=Af h.box 2;have hl:=(List.getElem?_eq_some_iff.1 hk).1;clear hf hg hk;obtain⟨x,y,u,z⟩:=c;dsimp only at c0 c1 c2 c3;unfold AnJ
 dsimp only;have hM:=h.mono ((Below.refl _ w).alloc (Qa2 _) (.cells #[.int .i64 x,.int .i64 y,.int .i64 u,.int .i64 z] 225));have hX:=heap_alloc_new w (.cells #[.int .i64 x,.int .i64 y,.int .i64 u,.int .i64 z] 225);have hB:=((Below.refl w.heap.size w).alloc (Qa2 _) (.cells #[.int .i64 x,.int .i64 y,.int .i64 u,.int .i64 z] 225)).drew;clear h
 by_cases hz:z=0
 ·subst hz;rw[if_pos rfl]
  go_enter func232,ntmps232
  go_wp2
  generalize w.alloc (.cells #[.int .i64 x,.int .i64 y,.int .i64 u,.int .i64 0] 225)=W1 at hM hX hB⊢;have m1:W1.drew.cell? ⟨mb,1,none⟩=some sa:=Af hM.box 1;have x0:W1.drew.cell? ⟨w.heap.size,0,none⟩=some (.int .i64 x):=Af hX 0;have x1:W1.drew.cell? ⟨w.heap.size,1,none⟩=some (.int .i64 y):=Af hX 1
  go_still zk
  go_wp2
  (try simp only[Exit.inBlock,Exit.then])
  refine bodyPost_ret (Me rfl _ _ _) rfl ?_;exact⟨rfl,hB⟩
 ·rw[if_neg hz]
  by_cases hy:y=0
  ·subst hy;rw[if_pos rfl]
   have hz':(z==0)=false:=by simpa using hz
   go_enter func232,ntmps232
   go_wp2
   generalize w.alloc (.cells #[.int .i64 x,.int .i64 0,.int .i64 u,.int .i64 z] 225)=W1 at hM hX hB⊢;have m2:W1.drew.cell? ⟨mb,2,none⟩=some sb:=Af hM.box 2;have x2:W1.drew.cell? ⟨w.heap.size,2,none⟩=some (.int .i64 u):=Af hX 2;have x3:W1.drew.cell? ⟨w.heap.size,3,none⟩=some (.int .i64 z):=Af hX 3
   go_still zk
   go_wp2
   (try simp only[Exit.inBlock,Exit.then])
   refine bodyPost_ret (Me rfl _ _ _) rfl ?_;exact⟨rfl,hB⟩
  ·rw[if_neg hy]
   have hz':(z==0)=false:=by simpa using hz
   have hy':(y==0)=false:=by simpa using hy
   have hB0:=(Below.refl w.heap.size w).alloc (Qa2 _) (.cells #[.int .i64 x,.int .i64 y,.int .i64 u,.int .i64 z] 225)
   go_enter func232,ntmps232
   go_wp2
   (try simp only[Exit.inBlock,Exit.then])
   refine bodyPost_ret (Me rfl _ _ _) rfl ?_;exact⟨rfl,hB0⟩
end Go.Proofs.Tryz
namespace Go.Proofs.Tryz
open Go.Shelf Go.RowKit Go.VS Go Go.Sort
def InB(B:Nat)(w:World)(a:Option Addr)(l:List Int):Prop:=∀(k:Nat) (s:Int),l[k]?=some s→∃b off,a=some ⟨b,off,none⟩∧b<B∧w.cell? ⟨b,off+k,none⟩=some (.int .i64 s)
theorem InB.below{B:Nat}{w w':World}{a:Option Addr}{l:List Int}(h:InB B w a l)(hb:Below B w w'):InB B w' a l:=fun k s hs=>by
 obtain⟨b,off,h1,h2,h3⟩:=h k s hs;exact⟨b,off,h1,h2,(hb.cell (p:=⟨b,off+k,none⟩) h2).trans h3⟩
def Ao6(B:Nat)(w:World)(mb:Nat)(v:Value)(l:List AR)(sa sb:Value)(m:Int)(k:Nat)(c:AR)(e:Ending)(w':World):Prop:=∃r:Bool,e=.returned (.bool r)∧Below B w w'∧(r=true→Wb m l k c∧Qy B w' mb v (l.set k (mvC c)) sa sb)∧(r=false→Qy B w' mb v l sa sb)
theorem Ap1{B:Nat}{w:World}(a b:List Int){pa pb:Option Addr}{ca cb:Nat}{l:List AR}{k:Nat}{c:AR}(hA:InB B w pa a)(hB:InB B w pb b)(hchk:Hl a.length b.length l 0 0 0)(hk:l[k]?=some c):
  ∃(px:Option Addr) (cx nx:Nat) (fr sz:Int) (ok:Bool),AnJ c (.slice pa a.length ca) (.slice pb b.length cb)=.tuple #[.slice px nx cx,.int .i64 fr,.int .i64 sz,.bool ok]∧(ok=true→∃X:List Int,nx=X.length∧InB B w px X∧0≤fr∧0≤sz∧X.length≤max a.length b.length∧(Wb a.length l k c→fr+sz<X.length)):=by
 have hbd:=(EB (Qa9 0) hchk).2 c (Qa3 hk);unfold AnJ
 by_cases hz:c.2.2.2=0
 ·rw[if_pos hz];exact⟨_,_,_,_,_,_,rfl,fun _=>⟨a,rfl,hA,zm,zm,zm,fun hr=>(Akw hchk hk hr).1.2⟩⟩
 ·rw[if_neg hz]
  by_cases hy:c.2.1=0
  ·rw[if_pos hy];exact⟨_,_,_,_,_,_,rfl,fun _=>⟨b,rfl,hB,zm,zm,zm,fun hr=>(Akw hchk hk hr).2.1.2⟩⟩
  simp_all
theorem Us:∀(l:List AR) (k:Nat) (c:AR),l[k]?=some c→((l.set k (mvC c)).map AZ.fl).flatten=(((l.map AZ.fl).flatten).set (k*4) (.int .i64 (c.1+1))).set (k*4+2) (.int .i64 (c.2.2.1+1))
 |[],_,_,h=>nomatch h
 |d::l,0,c,h=>by
  obtain rfl:d=c:=zg
  rfl
 |d::l,k+1,c,h=>by
  have e:=Us l k c zg;rw[List.set_cons_succ,Qb0,Qa6,e,Qb0,Qa6,show(k+1)*4=k*4+1+1+1+1 by omega];rfl
theorem ZX{w:World}{g i:Nat}{u:Value}{cur:Array Value}{e:TypeId}{fr:Nat×Nat}(h:w.heap[g]?=some (.cells cur e fr)):(w.setCell ⟨g,i,none⟩ u).heap[g]?=some (.cells (cur.setIfInBounds i u) e fr):=by
 grind [World.setCell]
theorem Qy.ne{B:Nat}{W:World}{mb:Nat}{l:List AR}{sa sb:Value}{g cap n:Nat}(h:Qy B W mb (.slice (some ⟨g,0,none⟩) n cap) l sa sb):mb≠g:=by
 rintro rfl
 rcases h.own.2 with⟨h1,_⟩|⟨g',cap',cur,h1,hg,hb,_⟩<;>grind [h.box,Obj.cells.inj]
theorem Qy.move{B:Nat}{W:World}{mb:Nat}{l:List AR}{sa sb:Value}{g cap:Nat}(h:Qy B W mb (.slice (some ⟨g,0,none⟩) l.length cap) l sa sb){k:Nat}{c:AR}(hk:l[k]?=some c):
  Qy B ((W.setCell ⟨g,k*4,none⟩ (.int .i64 (c.1+1))).setCell ⟨g,k*4+2,none⟩ (.int .i64 (c.2.2.1+1))) mb (.slice (some ⟨g,0,none⟩) l.length cap) (l.set k (mvC c)) sa sb:=by
 have hne:=h.ne;obtain⟨hbox,hlo,hown⟩:=h
 rcases hown.2 with⟨h1,_⟩|⟨g',cap',cur,h1,hg,hb,hnc,hcm,hcs,htk⟩
 ·cases h1
 ·cases h1;refine⟨(heap_setCell_other _ _ _ _ hne).trans ((heap_setCell_other _ _ _ _ hne).trans hbox),hlo,?_,.inr ⟨g,cap,_,zg,hg,ZX (ZX hb),zg,hcm,zg,?_⟩⟩
  ·rw[Us l k c hk,Qa8,Qa8,Qa8];exact hown.1
  grind [Qa8,Array.toList_setIfInBounds,List.take_set,Us]
theorem Adj{B:Nat}{w:World}{mb:Nat}{v:Value}{l:List AR}(a b:List Int){pa pb:Option Addr}{ca cb:Nat}(h:Qy B w mb v l (.slice pa a.length ca) (.slice pb b.length cb))(hBw:B≤w.heap.size)(hA:InB B w pa a)(hB:InB B w pb b)(ha:a.length≤4096)(hb:b.length≤4096)(hl:l.length≤10000)
  (hchk:Hl a.length b.length l 0 0 0) {k:Nat} {c:AR} (hk:l[k]?=some c):
  Calls prog 155 #[.pointer (some ⟨mb,0,none⟩),.int .i64 k] w (Ao6 B w mb v l (.slice pa a.length ca) (.slice pb b.length cb) a.length k c):=by
 have hbd:=(EB (Qa9 0) hchk).2 c (Qa3 hk);have hR:=AbC h hk;obtain⟨px,cx,nx,fr,sz,ok,hreg,hok⟩:=Ap1 (ca:=ca) (cb:=cb) a b hA hB hchk hk;rw[hreg]at hR;clear hreg
 cases ok with
 |false=>
  go_enter func155,ntmps155
  go_wp2_with (go_at_call 232;refine hR.mono ?_;rintro e w1 ⟨rfl,hB1⟩)
  go_ret
  exact⟨false,rfl,hB1.mono hBw,(fun h=>nomatch h),fun _=>h.mono hB1⟩
 |true=>
  obtain⟨X,rfl,hX,f0,f1,hXl,hroom⟩:=hok rfl
  go_enter func155,ntmps155
  go_wp2_with (go_at_call 232;refine hR.mono ?_;rintro e w1 ⟨rfl,hB1⟩)
  have h1:=h.mono hB1;have d1:w1.cell? ⟨mb,1,none⟩=some (.slice pa a.length ca):=Af h1.box 1
  have hE:∀n,Calls prog 233 #[.pointer (some ⟨mb,0,none⟩),.int .i64 k] (w1.drewN n) fun e w'=>e=.returned (.int .i64 (c.1+c.2.1))∧w'=w1.drewN (n+1):=fun n=>(Aim (w:=w1.drewN n) ⟨h1.box,h1.lo,h1.own⟩ hk zm).mono fun _ _ hm=>hm
  have hroom:Wb a.length l k c→fr+sz<X.length:=hroom;have f2:InB B w1 px X:=hX.below (hB1.mono hBw);have hB2:Below B w w1:=hB1.mono hBw;have hbd2:=(EB (Qa9 0) hchk).2
  replace hXl:X.length≤4096:=zm
  clear hR hB1 h hA hB hX hchk;obtain⟨fr,rfl⟩:=Qa0 f0;obtain⟨sz,rfl⟩:=Qa0 f1;clear hok;obtain⟨g,cap,rfl,hg,⟨c0,c1,c2,c3⟩,hf⟩:=Nx h1.own hk;have hmg:=h1.ne
  have s0:∀n u,((w1.drewN n).setCell ⟨g,k*4,none⟩ u).cell? ⟨mb,0,none⟩=some (.slice (some ⟨g,0,none⟩) l.length cap):=fun n u=>(World.cell?_setCell_other _ _ _ _ (fun e=>hmg (congrArg Addr.block e).symm)).trans (Af h1.box 0)
  have s2:∀n u,((w1.drewN n).setCell ⟨g,k*4,none⟩ u).cell? ⟨g,k*4+2,none⟩=some (.int .i64 c.2.2.1):=fun n u=>(World.cell?_setCell_other _ _ _ _ (fun e=>by have:=congrArg Addr.off e;dsimp only at this;omega)).trans c2
  have hBm:∀n,Below B w (((w1.drewN n).setCell ⟨g,k*4,none⟩ (.int .i64 (c.1+1))).setCell ⟨g,k*4+2,none⟩ (.int .i64 (c.2.2.1+1))):=fun n=>((Below.setCell (w:=w1.drewN n) ⟨hB2.os,hB2.tape,hB2.output,hB2.size,hB2.block⟩ (p:=⟨g,k*4,none⟩) hg _).setCell (p:=⟨g,k*4+2,none⟩) hg _)
  have hmv:=fun n=>Qy.move (W:=w1.drewN n) ⟨h1.box,h1.lo,h1.own⟩ hk
  have hkl:=(List.getElem?_eq_some_iff.1 hk).1;have d0:w1.cell? ⟨mb,0,none⟩=some (.slice (some ⟨g,0,none⟩) l.length cap):=Af h1.box 0
  by_cases hk1:k+1<l.length
  ·have hd:=Qa1 hk1;have hd':l[k+1]?=some l[k+1]:=hd;generalize l[k+1]=d at hd hd';obtain⟨g',cap',hv',_,⟨e0,_⟩,_⟩:=Nx h1.own hd;cases hv';have hb3:=hbd2 d (Qa3 hd);have hwk:IntKind.i64.wrap ((k:Int)+1)=((k+1:Nat):Int):=wrD zm zm
   have h0k:(0:Int)≤(k:Int)+1:=zm
   by_cases hA:d.1 -(c.1+c.2.1) -1<1
   ·go_quiet ((go_at_call 233;exact(hE _).mono fun _ _ h=>⟨h.1,_+1,h.2⟩))
    go_wp2
    go_quiet ((go_at_call 233;exact(hE _).mono fun _ _ h=>⟨h.1,_+1,h.2⟩))
    go_wp2
    go_quiet (fail)
    go_wp2
    go_ret
    exact⟨false,rfl,⟨hB2.os,hB2.tape,hB2.output,hB2.size,hB2.block⟩,(fun h=>nomatch h),fun _=>⟨h1.box,h1.lo,h1.own⟩⟩
   ·have hA':decide (d.1 -(c.1+c.2.1) -1<1)=false:=decide_eq_false hA
    have hr:Wb a.length l k c:=⟨fun d2 h2=>(by obtain rfl:=Qa4 (h2.symm.trans hd);omega),fun h2=>nomatch h2.symm.trans hd⟩
    have hx:=hroom hr;have hx0:X[fr]?=some X[fr]:=Qa1 zm;have hx1:X[fr+sz]?=some X[fr+sz]:=Qa1 zm
    have hfx:fr<X.length:=zm
    have hfs:fr+sz<X.length:=zm
    have hws:IntKind.i64.wrap ((fr:Int)+(sz:Int))=((fr+sz:Nat):Int):=wrD zm zm
    have h0s:(0:Int)≤(fr:Int)+(sz:Int):=zm
    generalize X[fr]=x0 at hx0;generalize X[fr+sz]=x1 at hx1;obtain⟨bx,ox,rfl,_,z0⟩:=f2 _ _ hx0;obtain⟨bx',ox',e,_,z1⟩:=f2 _ _ hx1;cases e;rw[show ox+(fr+sz)=ox+((fr:Int)+(sz:Int)).toNat by omega]at z1
    by_cases hxy:x0=x1
    ·subst hxy
     go_quiet ((go_at_call 233;exact(hE _).mono fun _ _ h=>⟨h.1,_+1,h.2⟩))
     go_wp2
     go_quiet ((go_at_call 233;exact(hE _).mono fun _ _ h=>⟨h.1,_+1,h.2⟩))
     go_wp2
     go_quiet (fail)
     go_wp2
     go_ret
     exact⟨true,rfl,hBm _,fun _=>⟨hr,hmv _⟩,fun h=>nomatch h⟩
    ·have hxy':(x0 !=x1)=true:=by simpa using hxy
     go_quiet ((go_at_call 233;exact(hE _).mono fun _ _ h=>⟨h.1,_+1,h.2⟩))
     go_wp2
     go_quiet ((go_at_call 233;exact(hE _).mono fun _ _ h=>⟨h.1,_+1,h.2⟩))
     go_wp2
     go_quiet (fail)
     go_wp2
     go_ret
     exact⟨false,rfl,⟨hB2.os,hB2.tape,hB2.output,hB2.size,hB2.block⟩,(fun h=>nomatch h),fun _=>⟨h1.box,h1.lo,h1.own⟩⟩
  ·have hd:l[k+1]?=none:=List.getElem?_eq_none zm
   by_cases hA:(a.length:Int) -(c.1+c.2.1)<1
   ·go_quiet ((go_at_call 233;exact(hE _).mono fun _ _ h=>⟨h.1,_+1,h.2⟩))
    go_wp2
    go_quiet (fail)
    go_wp2
    go_ret
    exact⟨false,rfl,⟨hB2.os,hB2.tape,hB2.output,hB2.size,hB2.block⟩,(fun h=>nomatch h),fun _=>⟨h1.box,h1.lo,h1.own⟩⟩
   ·have hA':decide ((a.length:Int) -(c.1+c.2.1)<1)=false:=decide_eq_false hA
    have hr:Wb a.length l k c:=⟨fun d2 h2=>(nomatch hd.symm.trans h2),fun h2=>zm⟩
    have hx:=hroom hr;have hx0:X[fr]?=some X[fr]:=Qa1 zm;have hx1:X[fr+sz]?=some X[fr+sz]:=Qa1 zm
    have hfx:fr<X.length:=zm
    have hfs:fr+sz<X.length:=zm
    have hws:IntKind.i64.wrap ((fr:Int)+(sz:Int))=((fr+sz:Nat):Int):=wrD zm zm
    have h0s:(0:Int)≤(fr:Int)+(sz:Int):=zm
    generalize X[fr]=x0 at hx0;generalize X[fr+sz]=x1 at hx1;obtain⟨bx,ox,rfl,_,z0⟩:=f2 _ _ hx0;obtain⟨bx',ox',e,_,z1⟩:=f2 _ _ hx1;cases e;rw[show ox+(fr+sz)=ox+((fr:Int)+(sz:Int)).toNat by omega]at z1
    by_cases hxy:x0=x1
    ·subst hxy
     go_quiet ((go_at_call 233;exact(hE _).mono fun _ _ h=>⟨h.1,_+1,h.2⟩))
     go_wp2
     go_quiet (fail)
     go_wp2
     go_ret
     exact⟨true,rfl,hBm _,fun _=>⟨hr,hmv _⟩,fun h=>nomatch h⟩
    ·have hxy':(x0 !=x1)=true:=by simpa using hxy
     go_quiet ((go_at_call 233;exact(hE _).mono fun _ _ h=>⟨h.1,_+1,h.2⟩))
     go_wp2
     go_quiet (fail)
     go_wp2
     go_ret
     exact⟨false,rfl,⟨hB2.os,hB2.tape,hB2.output,hB2.size,hB2.block⟩,(fun h=>nomatch h),fun _=>⟨h1.box,h1.lo,h1.own⟩⟩
end Go.Proofs.Tryz
namespace Go.Proofs.Tryz
open Go.Shelf Go.RowKit Go.VS Go Go.Sort
theorem XW{w:World}{B:Nat}{v:Value}{l:List AR}(h:ArV w B v l):∃a c,v=.slice a l.length c:=by
 rcases h.2 with⟨h1,hn0⟩|⟨g',cap,cur,h1,_⟩
 ·exact⟨none,0,by rw[h1,hn0]⟩
 ·exact⟨_,_,h1⟩
structure MvI(B:Nat)(w wr:World)(mb:Nat)(v:Value)(a b:List Int)(sa sb:Value)(l l':List AR):Prop where
 bel:Below B w wr
 mv:Qy B wr mb v l' sa sb
 chk:Hl a.length b.length l' 0 0 0
 lens:l'.map Ik=l.map Ik
def Ahs(wr:World)(g k:Nat):Nat:=match wr.cell? ⟨g,k*4,none⟩with
 |some x=>(Lib.intOf x).toNat
 |none=>0
theorem Su{l m:List AR}(h:l.map Ik=m.map Ik):l.length=m.length:=by
 have:=congrArg List.length h;simpa using this
theorem Adp{B:Nat}{w0 w:World}{mb:Nat}{v:Value}{l0 l:List AR}(a b:List Int){pa pb:Option Addr}{ca cb:Nat}(h:MvI B w0 w mb v a b (.slice pa a.length ca) (.slice pb b.length cb) l0 l)(hBw:B≤w0.heap.size)(hA:InB B w0 pa a)(hB:InB B w0 pb b)(ha:a.length≤4096)(hb:b.length≤4096)(hl:l0.length≤10000){k:Nat}(hk:k<l.length):
  Calls prog 154 #[.func (.func 155) #[.pointer (some ⟨mb,0,none⟩)] #[],.int .i64 k] w fun e w'=>∃(z:Int) (l':List AR),e=.returned (.int .i64 z)∧MvI B w0 w' mb v a b (.slice pa a.length ca) (.slice pb b.length cb) l0 l':=by
 obtain⟨g,cap,hv,-,-,-⟩:=Nx h.mv.own (Qa1 hk)
 have hdn:∀(wr:World) (l':List AR),MvI B w0 wr mb v a b (.slice pa a.length ca) (.slice pb b.length cb) l0 l'→Calls prog 155 #[.pointer (some ⟨mb,0,none⟩),.int .i64 k] wr fun e w'=>∃r:Bool,e=.returned (.bool r)∧∃l2,MvI B w0 w' mb v a b (.slice pa a.length ca) (.slice pb b.length cb) l0 l2∧(r=true→a.length -Ahs w' g k<a.length -Ahs wr g k):=fun wr l' hI=>by
  have hkl:k<l'.length:=by rw[Su (hI.lens.trans h.lens.symm)];exact hk
  have hkc:=Qa1 hkl;refine(Adj a b hI.mv (Qb2 hBw hI.bel.size) (hA.below hI.bel) (hB.below hI.bel) ha hb (by rw[Su hI.lens];exact hl) hI.chk hkc).mono ?_
  rintro e w' ⟨r,rfl,hB1,ht,hf⟩;refine⟨r,rfl,?_⟩
  cases r with
  |false=>exact⟨l',⟨hI.bel.trans hB1,hf rfl,hI.chk,hI.lens⟩,fun h=>nomatch h⟩
  |true=>
   obtain⟨h1,h2⟩:=ht rfl;have hc2:=AaQ k hI.chk hkc h1;refine⟨_,⟨hI.bel.trans hB1,h2,hc2,(Akx hkc).trans hI.lens⟩,fun _=>?_⟩;obtain⟨g1,cap1,hv1,_,⟨e1,_⟩,_⟩:=Nx hI.mv.own hkc
   have hkc2:(l'.set k (mvC l'[k]))[k]?=some (mvC l'[k]):=by rw[List.getElem?_set_self hkl]
   obtain⟨g2,cap2,hv2,_,⟨e2,_⟩,_⟩:=Nx h2.own hkc2;rw[hv]at hv1 hv2;obtain rfl:g=g1:=congrArg Addr.block (Qa4 (Value.slice.inj hv1).1);obtain rfl:g=g2:=congrArg Addr.block (Qa4 (Value.slice.inj hv2).1);unfold Ahs;rw[e1,e2];have hb1:=(EB (Qa9 0) hI.chk).2 _ (Qa3 hkc)
   have hb2:=(EB (Qa9 0) hc2).2 _ (Qa3 hkc2);simp only[mvC]at hb2;show a.length -(l'[k].1+1).toNat<a.length -l'[k].1.toNat;omega
 clear hA hB ha hb hl hk hv
 go_enter func154,ntmps154
 go_wp2
 go_loopw [5] (fun i wr=>∃(z:Int) (l':List AR),i=.int .i64 z∧MvI B w0 wr mb v a b (.slice pa a.length ca) (.slice pb b.length cb) l0 l') (fun _ wr=>a.length -Ahs wr g k)
 case atStart=>exact⟨0,l,rfl,h⟩
 case round=>
  obtain⟨z,l',hi,hI⟩:=hrel;subst hi;clear h;have hd:=hdn _ _ hI;clear hdn hI
  go_wp2_with (go_at_call 155;refine hd.mono ?_;rintro e w1 ⟨r,rfl,l2,hI2,hm⟩)
  case roundEnd=>
   rename_i hr;exact⟨⟨_,l2,rfl,hI2⟩,hm hr⟩
  go_ret
  exact⟨_,l2,rfl,hI2⟩
theorem Aeg(l:List AR)(a b:List Int)(pl pa pb:Option Addr)(cl ca cb:Nat)(w:World)(hl:l.length≤10000)(hn:pl=none→l=[]∧cl=0)(hr:Qa w pl (l.map AZ.fl).flatten)(hchk:Hl a.length b.length l 0 0 0)
  (hF:Calls prog 230 #[.slice pl l.length cl,.slice pa a.length ca,.slice pb b.length cb] w fun e w'=>e=.returned (.bool true)∧Below w.heap.size w w'):
  Calls prog 153 #[.slice pl l.length cl,.slice pa a.length ca,.slice pb b.length cb] w fun e w'=>∃mb v,e=.returned (.tuple #[.pointer (some ⟨mb,0,none⟩),.int .i64 0])∧MvI w.heap.size w w' mb v a b (.slice pa a.length ca) (.slice pb b.length cb) l l:=by
 go_enter func153,ntmps153
 go_wp2_with (first
  |(go_at_call 230;refine hF.mono ?_;rintro e w1 ⟨rfl,hB1⟩)
  |(go_at_call 231;refine(AaM l pl cl _ hl hn (hr.below ‹Below _ _ _›)).mono ?_;rintro e w2 ⟨v,rfl,hown,hB2⟩;obtain⟨ga,gc,rfl⟩:=XW hown))
 have hs1:=hB1.size;have hs2:=hB2.size;have hBB:=hB1.trans (hB2.mono hs1);refine bodyPost_ret (results_tmp2 rfl _ _ _) rfl ?_;refine⟨w2.heap.size,_,rfl,hBB.alloc zm _,⟨heap_alloc_new w2 _,zm,hown.1,?_⟩,hchk,rfl⟩
 rcases hown.2 with h|⟨g,cap,cur,h1,h2,h3,h4⟩
 ·exact .inl h
 ·exact .inr ⟨g,cap,cur,h1,zm,(Below.heap_alloc _ _ _ (Array.getElem?_eq_some_iff.1 h3).1).trans h3,h4⟩
theorem MvI.slice{B:Nat}{w wr:World}{mb:Nat}{v:Value}{a b:List Int}{sa sb:Value}{l l':List AR}(h:MvI B w wr mb v a b sa sb l l'):∃g c,v=.slice g l.length c:=by
 obtain⟨g,c,e⟩:=XW h.mv.own;exact⟨g,c,by rw[e,Su h.lens]⟩
theorem Ad4(l:List AR)(a b:List Int)(pl pa pb:Option Addr)(cl ca cb:Nat)(w:World)(hl:l.length≤10000)(ha:a.length≤4096)(hb:b.length≤4096)(hn:pl=none→l=[]∧cl=0)(hr:Qa w pl (l.map AZ.fl).flatten)(hchk:Hl a.length b.length l 0 0 0)(hA:InB w.heap.size w pa a)(hB:InB w.heap.size w pb b)
  (hF:Calls prog 230 #[.slice pl l.length cl,.slice pa a.length ca,.slice pb b.length cb] w fun e w'=>e=.returned (.bool true)∧Below w.heap.size w w'):
  Calls prog 91 #[.slice pl l.length cl,.slice pa a.length ca,.slice pb b.length cb] w fun e w'=>∃v l',e=.returned (.tuple #[v,.int .i64 0])∧ArV w' w.heap.size v l'∧Hl a.length b.length l' 0 0 0∧l'.map Ik=l.map Ik∧Below w.heap.size w w':=by
 have hS:=Aeg l a b pl pa pb cl ca cb w hl hn hr hchk hF
 have hO:=fun(mb:Nat) (v:Value) (W:World) (l1:List AR) (h:MvI w.heap.size w W mb v a b (.slice pa a.length ca) (.slice pb b.length cb) l l1) (k:Nat) (hk:k<l1.length)=>Adp a b h (Qa2 _) hA hB ha hb hl hk
 clear hF hr hchk hA hB hn
 go_enter func91,ntmps91
 go_wp2_with (go_at_call 153;refine hS.mono ?_;rintro e w1 ⟨mb,v,rfl,hI0⟩)
 clear hS
 go_loopw [10] (fun i wr=>∃(j:Int) (l':List AR),i=.int .i64 j∧(-1≤j∧j<l.length)∧MvI w.heap.size w wr mb v a b (.slice pa a.length ca) (.slice pb b.length cb) l l') (fun i _=>(Lib.intOf i+1).toNat)
 case atStart=>exact⟨_,l,rfl,zm,hI0⟩
 case round=>
  obtain⟨j,l',hi,hj,hI⟩:=hrel;subst hi;clear hI0
  by_cases h0:0≤j
  ·obtain⟨k,rfl⟩:=Qa0 h0;have hk:=hO _ _ _ _ hI k (by rw[Su hI.lens];omega)
   clear hO hI
   go_wp2_with (go_at_call 154;refine hk.mono ?_;rintro e w2 ⟨z,l2,rfl,hI2⟩)
   exact⟨⟨_,l2,rfl,zm,hI2⟩,by show((k:Int) -1+1).toNat<((k:Int)+1).toNat;omega⟩
  ·obtain⟨g,c,rfl⟩:=hI.slice;have hbx:=Af hI.mv.box 0
   go_wp2
   refine bodyPost_ret (results_tmp2 rfl _ _ _) rfl ?_;exact⟨_,rfl,l',hI.mv.own,hI.chk,hI.lens,hI.bel⟩
theorem Ak0{w:World}{a:Option Addr}{l:List Int}(h:LZ w a l):InB w.heap.size w a l:=h.at_
theorem ArK{vs:Array Value}{a b c:Value}(h:vs.size=3)(h0:vs.getD 0 undef=a)(h1:vs.getD 1 undef=b)(h2:vs.getD 2 undef=c):vs=#[a,b,c]:=by
 obtain⟨l⟩:=vs
 match l,h with
 |[x,y,z],_=>simp at h0 h1 h2;subst h0 h1 h2;rfl
abbrev Akj(l:List AR):AV:=.sl .brw AZ.size (l.map (AZ.enc .leaf))
theorem ApY(l:List AR):(Akj l).rdo=true:=by simp only[AV.rdo];exact MT (fun x=>RU AZ _ rfl x) l
theorem AlD(hF:Wm (Pg.of prog)):Wj (Pg.of prog):=by
 intro a b l ha hb hl hchk hfit
 refine Fn.Abp (ps:=Jw.ps) (t:=AZ) (tt:=.node .own .leaf) rfl rfl (l,(a,b)) fun f fn hf hfn=>?_
 have hfi:f=91:=Ec zk hf hfn;subst hfi;have hfe:=Qa4 (hf.symm.trans func91);subst hfe;refine⟨zk,zk,fun μ sv w vs hsv hw hargs=>?_⟩;have hsv:svs μ dv dl [.one (.sl .brw .leaf AZ l),.one (.sl .brw .leaf (.int .i64) a),.one (.sl .brw .leaf (.int .i64) b)] sv:=hsv
 match sv,hsv with
 |[s0,s1,s2],⟨⟨a0,e0,r0⟩,⟨a1,e1,r1⟩,⟨a2,e2,r2⟩,_⟩=>
  have r0:a0=Akj l:=r0;have r1:a1=Uh a:=r1;have r2:a2=Uh b:=r2;subst e0 r0 e1 r1 e2 r2;obtain⟨hsize,hat⟩:=hargs;obtain⟨C0,f0,_,h0⟩:=hat 0 _ rfl;obtain⟨C1,f1,_,h1⟩:=hat 1 _ rfl;obtain⟨C2,f2,_,h2⟩:=hat 2 _ rfl;have h0:RV C0 w (Akj l) (vs.getD 0 undef) f0:=h0;have h1:RV C1 w (Uh a) (vs.getD 1 undef) f1:=h1
  have h2:RV C2 w (Uh b) (vs.getD 2 undef) f2:=h2;obtain⟨pl,cl,hv0,hn,hR⟩:=Vb (t:=AZ) rfl h0;obtain⟨pa,ca,hv1,hA⟩:=OX h1;obtain⟨pb,cb,hv2,hB⟩:=OX h2;have hvs:=ArK hsize hv0 hv1 hv2
  have g0:∀C:Ctx,(∀b,b<w.heap.size→C.zb b∧C.zt b)→RV C w (Akj l) (.slice pl l.length cl) []:=fun C hC=>by
   rw[←hv0];exact RV.reads (fun b hb=>hC b hb) (fun b hb=>rfl) h0 (ApY l)
  have g1:∀C:Ctx,(∀b,b<w.heap.size→C.zb b∧C.zt b)→RV C w (Uh a) (.slice pa a.length ca) []:=fun C hC=>by
   rw[←hv1];exact RV.reads (fun b hb=>hC b hb) (fun b hb=>rfl) h1 (Agc a)
  have g2:∀C:Ctx,(∀b,b<w.heap.size→C.zb b∧C.zt b)→RV C w (Uh b) (.slice pb b.length cb) []:=fun C hC=>by
   rw[←hv2];exact RV.reads (fun b hb=>hC b hb) (fun b hb=>rfl) h2 (Agc b)
  clear hat h0 h1 h2 hv0 hv1 hv2;subst hvs
  have hF:Calls prog 230 #[.slice pl l.length cl,.slice pa a.length ca,.slice pb b.length cb] w fun e w'=>e=.returned (.bool true)∧Below w.heap.size w w':=by
   refine(Fn.AaJ (fun _ h=>h) (S:=IQ) rfl rfl (hF a b l ha hb zm hchk hfit) func230 zk hw (μ:=μ) (show svs μ dv dl [.one (.sl .brw .leaf AZ l),.one (.sl .brw .leaf (.int .i64) a),.one (.sl .brw .leaf (.int .i64) b)] [.one (Akj l),.one (Uh a),.one (Uh b)]from⟨⟨_,rfl,rfl⟩,⟨_,rfl,rfl⟩,⟨_,rfl,rfl⟩,trivial⟩) (AbA rfl (fun s hs=>?_) fun C hC t s ht=>?_)).mono ?_
   ·simp only[List.mem_cons,List.not_mem_nil,or_false]at hs
    rcases hs with rfl|rfl|rfl<;>rfl
   ·match t,ht with
    |0,ht=>cases ht;exact g0 C hC
    |1,ht=>cases ht;exact g1 C hC
    |2,ht=>cases ht;exact g2 C hC
   ·rintro e w' ⟨(r:Bool),d,hr,rfl,hB⟩;obtain rfl:r=true:=hr;exact⟨rfl,hB⟩
  refine(Ad4 l a b pl pa pb cl ca cb w hl ha hb hn hR hchk (Ak0 hA) (Ak0 hB) hF).mono ?_;rintro e w' ⟨v,l',rfl,hown,hc,hlen,hB⟩;obtain⟨_,f,hnd2,hfb,hrv⟩:=JU (t:=AZ) rfl hown;refine⟨hB,l',0,(),⟨rfl,hc,hlen⟩,v,f,fun _=>False,rfl,?_,hnd2,fun x hx=>⟨(hfb x hx).1,(hfb x hx).2,id⟩,fun _ h=>h.elim⟩
  have:=RVs.cons _ _ _ _ _ _ (hrv (hctx prog fun _=>False)) .nil;rw[Qb3]at this;exact this
end Go.Proofs.Tryz
