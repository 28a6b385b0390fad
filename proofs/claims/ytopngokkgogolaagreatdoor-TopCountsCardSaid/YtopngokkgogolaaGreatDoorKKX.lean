/- tree.Diff, walked. -/
import Derived.Test.YtopngokkgogolaaGreatDoorKKN
import Derived.Test.YtopngokkgogolaaGreatDoorKS0
import Derived.Test.YtopngokkgogolaaGreatDoorFwD
set_option linter.unusedVariables false
set_option linter.unusedSimpArgs false
open List renaming getElem?_eq_getElem → Qa0, length_filterMap_le → Qa2, append_nil → Qa4
open Nat renaming le_trans → Qa1, le_refl → Qa3
namespace Go.Proofs.Tryz
open Go.Shelf Go.RowKit Go.VS Go Go.Maps
def Adv(x:BN):List Value:=[.string ⟨x.1.toArray⟩,.int .i64 x.2]
theorem Ns{kt et:TypeId}{α:Type}{E:Elt prog et α}{w:World}{base:Nat}{e:TypeId}{size:Nat}{v:Value}{m:Nat}{xs:List Value}{b n:Nat}{g:Bs→Option α}(h:w.ownsRow base e size v m xs)(hm:CJ prog kt E w b n g):v.ownBlock≠some b:=by
 obtain⟨D,⟨es,clock,hb,_⟩,_⟩:=hm
 rcases h.2 with⟨rfl,_⟩|⟨g,cap,cur,rfl,_,hc,_⟩
 ·exact fun h=>nomatch h
 ·intro e1
  have:g=b:=by simpa[Value.ownBlock]using e1
  subst this;rw[hb]at hc;cases hc
theorem Anf{w:World}{base:Nat}{e:TypeId}{size:Nat}{v:Value}{m:Nat}{xs:List Value}(h:w.ownsRow base e size v m xs)(o:Obj):(w.alloc o).ownsRow base e size v m xs:=h.alloc o
theorem Th{w0 w w':World}{base:Nat}{e:TypeId}{size:Nat}{v:Value}{m:Nat}{xs:List Value}(hB:Below base w0 w)(h:w.ownsRow base e size v m xs)(hg:w.grownBy w' v.ownBlock)(hs:base≤w0.heap.size):Below base w0 w':=
 ⟨hg.os.trans hB.os,hg.tape.trans hB.tape,hg.output.trans hB.output,Qa1 hB.size hg.size,fun i hi=>by
  have hs:=hB.size
  exact(hg.block i (by omega) (fun e1=>by have:=(h.lt i e1.symm).1;omega)).trans (hB.block i hi)⟩
theorem Af5(o:List BN)(x:BN):(o.map Adv).flatten++[.string ⟨x.1.toArray⟩,.int .i64 x.2]=((o++[x]).map Adv).flatten:=by
 rw[List.map_append,List.flatten_append];rfl
def Mk(w:World)(B:Nat)(v:Value)(l:List BN):Prop:=w.ownsRow B 63 2 v l.length (l.map Adv).flatten
theorem AlE(B:Nat){ops:Array Oper}{rest:List Oper}{o:Oper}{a:Act}{Q:Exit→Act→World→Prop}{s x:Operand}{w1:World}{v:Value}{l:List BN}{g:Nat}{p:Bs}{k:Int}
  (hgd:o.guard=none) (ho:o.op=.call {callee:=.builtin .append,args:=#[s,x],argTypes:=#[59,59]}) (hs:a.eval s=v) (hown:Mk w1 B v l)
  (hx:a.eval x=.slice (some ⟨g,0,none⟩) 1 1) (hc0:w1.cell? ⟨g,0,none⟩=some (.string ⟨p.toArray⟩)) (hc1:w1.cell? ⟨g,1,none⟩=some (.int .i64 k)) (hn:l.length≤100000000) (hB:B≤w1.heap.size)
  (hk:∀v' w',Mk w' B v' (l++[(p,k)])→w1.grownBy w' v.ownBlock→wpList prog ops Q rest (a.put o.dst v') w'):wpList prog ops Q (o::rest) a w1:=by
 obtain⟨i0,hi,hz0,hz1,hz2⟩:=info_parts (P:=prog) (e:=63) (z:=.agg #[.string ⟨#[]⟩,.int .i64 0]) (size:=2) (bytes:=24) (by kernel_rfl);refine wpList_append_own w1 hgd s x 59 ho B 63 i0 (.agg #[.string ⟨#[]⟩,.int .i64 0]) 2 24 underlying59 hi hz0 hz1 hz2 rfl (by decide) v l.length _ hs hown ⟨g,0,none⟩ 1 1 [.string ⟨p.toArray⟩,.int .i64 k] hx rfl ?_ ?_ ?_ ?_ hB ?_
 ·intro j u hj
  match j,hj with
  |0,hj=>
   have:Value.string ⟨p.toArray⟩=u:=by simpa using hj
   subst this;exact hc0
  |1,hj=>
   have:Value.int .i64 k=u:=by simpa using hj
   subst this;exact hc1
  |j+2,hj=>simp at hj
 ·intro u hu;simp only[List.mem_cons,List.not_mem_nil,or_false]at hu
  rcases hu with rfl|rfl<;>rfl
 ·unfold maxLen;omega
 ·omega
 ·intro v' w' h1 h2 _;rw[Af5 l (p,k)]at h1;exact hk v' w' (by unfold Mk;rw[List.length_append];exact h1) h2
theorem Ae2{l:List Av}{g:Av→Option BN}{k:Nat}{x:Av}(h:l[k]?=some x):(l.take (k+1)).filterMap g=(l.take k).filterMap g++(g x).toList:=by
 rw[List.take_add_one,h,List.filterMap_append];simp only[Option.toList_some]
 cases hg:g x with
 |none=>simp[hg]
 |some v=>simp[hg]
def AjL(a b:List Av)(w:World)(e:Ending)(w':World):Prop:=∃(v:Value) (d:List BN),e=.returned (.tuple #[v,.int .i64 0])∧Below w.heap.size w w'∧Mk w' w.heap.size v d∧
 d.Perm (P4 a b)∧d.Pairwise fun x y=>Op.bytesLess y.1 x.1=false
def Alh(B:Nat):Prop:=∀(v:Value) (d:List BN) (W:World),Mk W B v d→d.length≤4000000→Calls prog 212 #[v,.func (.func 213) #[] #[]] W fun e w'=>e=.returned (.tuple #[])∧W.grownBy w' v.ownBlock∧∃d':List BN,d'.Perm d∧(d'.Pairwise fun x y=>Op.bytesLess y.1 x.1=false)∧Mk w' B v d'
def L1(a b:List Av)(R1 R2 B:Nat)(w:World)(k:Nat)(v:Value)(wr:World):Prop:=Mk wr B v ((a.take k).filterMap (JB b))∧MG wr R1 a.length (BM a)∧MG wr R2 b.length (BM b)∧Below B w wr
def L2(a b:List Av)(R1 R2 B:Nat)(w:World)(k:Nat)(v:Value)(wr:World):Prop:=Mk wr B v (a.filterMap (JB b)++(b.take k).filterMap (Oq a))∧MG wr R1 a.length (BM a)∧MG wr R2 b.length (BM b)∧Below B w wr
theorem L1.grow{a b:List Av}{R1 R2 B:Nat}{w W w':World}{v v':Value}{o:List BN}{k:Nat}(hs:B=w.heap.size)(hMa:MG W R1 a.length (BM a))(hMb:MG W R2 b.length (BM b))(hB:Below B w W)(hown:Mk W B v o)(hg:W.grownBy w' v.ownBlock)(hown':Mk w' B v' ((a.take k).filterMap (JB b))):L1 a b R1 R2 B w k v' w':=
 ⟨hown',hMa.of_block (hg.block _ hMa.lt (fun e=>Ns hown hMa e.symm)),hMb.of_block (hg.block _ hMb.lt (fun e=>Ns hown hMb e.symm)),Th hB hown hg (by rw[hs];exact Qa3 _)⟩
theorem L2.grow{a b:List Av}{R1 R2 B:Nat}{w W w':World}{v v':Value}{o:List BN}{k:Nat}(hs:B=w.heap.size)(hMa:MG W R1 a.length (BM a))(hMb:MG W R2 b.length (BM b))(hB:Below B w W)(hown:Mk W B v o)(hg:W.grownBy w' v.ownBlock)(hown':Mk w' B v' (a.filterMap (JB b)++(b.take k).filterMap (Oq a))):L2 a b R1 R2 B w k v' w':=
 ⟨hown',hMa.of_block (hg.block _ hMa.lt (fun e=>Ns hown hMa e.symm)),hMb.of_block (hg.block _ hMb.lt (fun e=>Ns hown hMb e.symm)),Th hB hown hg (by rw[hs];exact Qa3 _)⟩
theorem Akt(w:World)(B:Nat):Mk w B (.slice none 0 0) []:=World.ownsRow_nil _ _ _ _
set_option maxHeartbeats 4000000 in
set_option maxRecDepth 1000000 in
theorem Ads(a b:List Av)(ha:HI a)(hb:HI b)(pa pb:Option Addr)(ca cb:Nat)(w:World)(hva:Aan w pa a)(hvb:Aan w pb b)
  (hbo:Calls prog 210 #[.slice pa a.length ca,.slice pb b.length cb] w fun e w'=>e=.returned (.int .i64 0)∧Below w.heap.size w w')
  (hsort:Alh w.heap.size):
  Calls prog 143 #[.slice pa a.length ca,.slice pb b.length cb] w (AjL a b w):=by
 have hna:=ha.1;have hnb:=hb.1
 go_enter func143,ntmps143
 have honce:True:=trivial
 go_wp2_with (go_at_call 210;have hx:=honce;clear hx honce;refine hbo.mono ?_;rintro e w1 ⟨rfl,hB1⟩)
 have hva1:=hva.below hB1;have honce:True:=trivial
 go_wp2_with (go_at_call 211;have hx:=honce;clear hx honce;refine(Ot a ha.1 ha.2 pa ca w1 hva1).mono ?_;rintro e w2 ⟨rfl,hMa,hB2⟩)
 have hB02:=hB1.trans (hB2.mono hB1.size);have hvb2:=hvb.below hB02;have hlta:=hMa.lt;have honce:True:=trivial
 go_wp2_with (go_at_call 211;have hx:=honce;clear hx honce;refine(Ot b hb.1 hb.2 pb cb w2 hvb2).mono ?_;rintro e w3 ⟨rfl,hMb,hB3⟩)
 have hB03:=hB02.trans (hB3.mono hB02.size);have hMa:=hMa.below hB3 hlta;clear hB1 hB2 hB3 hva1 hvb2 hB02 hbo hlta;generalize w1.heap.size=R1 at*;generalize w2.heap.size=R2 at*
 have h1:L1 a b R1 R2 w.heap.size w 0 (.slice none 0 0) w3:=⟨Akt _ _,hMa,hMb,hB03⟩
 clear hMa hMb hB03
 go_loopw [9,30] (fun v i wr=>∃k:Nat,k≤a.length∧i=.int .i64 k∧L1 a b R1 R2 w.heap.size w k v wr) (fun _ i _=>a.length -(Lib.intOf i).toNat)
 case atStart=>exact⟨0,Nat.zero_le _,rfl,h1⟩
 case round=>
  obtain⟨k,hk,hi,hL⟩:=hrel;subst hi
  by_cases hks:k<a.length
  ·obtain⟨hown,hMa,hMb,hB⟩:=hL;obtain⟨bl,off,rfl,hbl,q0,q1⟩:=hva.at_ k a[k] (Qa0 hks);have c0:=(hB.cell (p:=⟨bl,off+k*2,none⟩) hbl).trans q0;have c1:=(hB.cell (p:=⟨bl,off+k*2+1,none⟩) hbl).trans q1;obtain⟨hl1,hl2⟩:=ha.2 _ (List.getElem_mem hks)
   have hlen:((a.take k).filterMap (JB b)).length≤1000000:=Qa1 (Qa2 ..) (by rw[List.length_take];omega)
   have hfin:∀(W w':World) (v v':Value) (o:List BN),Below w.heap.size w W→MG W R1 a.length (BM a)→MG W R2 b.length (BM b)→Mk W w.heap.size v o→W.grownBy w' v.ownBlock→Mk w' w.heap.size v' ((a.take k).filterMap (JB b)++(JB b a[k]).toList)→L1 a b R1 R2 w.heap.size w (k+1) v' w':=fun W w' v v' o hB hMa hMb hown hg hown'=>
    L1.grow rfl hMa hMb hB hown hg (by rw[Ae2 (Qa0 hks)];exact hown')
   generalize(a.take k).filterMap (JB b)=o at hown hfin hlen;generalize hx:a[k]=x at c0 c1 hl1 hl2 hfin;obtain⟨p,bo⟩:=x;dsimp only at c0 c1 hl1 hl2 hfin;have hMa2:=CJ.alloc hMa (.cells #[.string ⟨p.toArray⟩,.string ⟨bo.toArray⟩] 71);have hMb2:=CJ.alloc hMb (.cells #[.string ⟨p.toArray⟩,.string ⟨bo.toArray⟩] 71)
   have hB2:=hB.alloc hB.size (.cells #[.string ⟨p.toArray⟩,.string ⟨bo.toArray⟩] 71);have hown2:Mk _ _ _ _:=hown.alloc (.cells #[.string ⟨p.toArray⟩,.string ⟨bo.toArray⟩] 71);have hlk:=CJ.look hMb2 underlying9 (t:=331) underlying331 (AjF _) (by show([]:Bs).length≤maxLen;unfold maxLen;simp) (k:=p) (by unfold maxLen;omega)
   have hsz:=hB.size
   have hg0:∀W:World,W.grownBy W none:=fun W=>⟨rfl,rfl,rfl,Qa3 _,fun _ _ _=>rfl⟩
   cases hg:BM b p with
   |none=>
    have hrm:(JB b (p,bo)).toList=[(p,2)]:=by unfold JB;dsimp only;rw[hg];rfl
    rw[hrm]at hfin;rw[hg]at hlk;have hlk2:(Instr.lookup 331 (.map (some R2)) (.string ⟨p.toArray⟩) true).run prog (wr.alloc (.cells #[.string ⟨p.toArray⟩,.string ⟨bo.toArray⟩] 71))=.ok (.tuple #[.string ⟨#[]⟩,.bool false]) (wr.alloc (.cells #[.string ⟨p.toArray⟩,.string ⟨bo.toArray⟩] 71)):=hlk;clear hlk hg hMa hMb hown hrm
    go_wp2_with (at_builtin;refine AlE w.heap.size (p:=p) (k:=2) rfl rfl rfl (World.ownsRow.alloc hown2 _) rfl ?b0 ?b1 ?b2 ?b3 ?b4)
    case b0=>simp
    case b1=>simp
    case b2=>exact Qa1 hlen (by decide)
    case b3=>simp;omega
    intro v2 w4 hown4 hg4
    go_wp2
    go_roundw
    case rel=>exact⟨k+1,by omega,by simp,hfin _ _ _ _ _ (hB2.alloc (by simp;omega) _) (hMa2.alloc _) (hMb2.alloc _) (World.ownsRow.alloc hown2 _) hg4 hown4⟩
    case measure=>simp only[Lib.intOf];omega
   |some u=>
    rw[hg]at hlk;have hlk2:(Instr.lookup 331 (.map (some R2)) (.string ⟨p.toArray⟩) true).run prog (wr.alloc (.cells #[.string ⟨p.toArray⟩,.string ⟨bo.toArray⟩] 71))=.ok (.tuple #[.string ⟨u.toArray⟩,.bool true]) (wr.alloc (.cells #[.string ⟨p.toArray⟩,.string ⟨bo.toArray⟩] 71)):=hlk;clear hlk hMa hMb hown
    by_cases hu:u=bo
    ·have hrm:(JB b (p,bo)).toList=[]:=by unfold JB;dsimp only;rw[hg];dsimp only;rw[if_pos hu];rfl
     rw[hrm,Qa4]at hfin;clear hrm hg;subst hu;have hbq:(ByteArray.toList ⟨u.toArray⟩==ByteArray.toList ⟨u.toArray⟩)=true:=beq_self_eq_true _
     go_wp2
     go_roundw
     case rel=>exact⟨k+1,by omega,by simp,hfin _ _ _ _ _ hB2 hMa2 hMb2 hown2 ⟨rfl,rfl,rfl,Qa3 _,fun _ _ _=>rfl⟩ hown2⟩
     case measure=>simp only[Lib.intOf];omega
    ·have hrm:(JB b (p,bo)).toList=[(p,3)]:=by unfold JB;dsimp only;rw[hg];dsimp only;rw[if_neg hu];rfl
     rw[hrm]at hfin;clear hrm hg
     have hbq:(u==bo)=false:=by simpa using hu
     clear hu
     go_wp2_with (at_builtin;refine AlE w.heap.size (p:=p) (k:=3) rfl rfl rfl (World.ownsRow.alloc hown2 _) rfl ?c0 ?c1 ?c2 ?c3 ?c4)
     case c0=>simp
     case c1=>simp
     case c2=>exact Qa1 hlen (by decide)
     case c3=>simp;omega
     intro v2 w4 hown4 hg4
     go_wp2
     go_roundw
     case rel=>exact⟨k+1,by omega,by simp,hfin _ _ _ _ _ (hB2.alloc (by simp;omega) _) (hMa2.alloc _) (hMb2.alloc _) (World.ownsRow.alloc hown2 _) hg4 hown4⟩
     case measure=>simp only[Lib.intOf];omega
  ·have hke:k=a.length:=by omega
   subst hke
   have h2:L2 a b R1 R2 w.heap.size w 0 _ wr:=⟨by have:=hL.1;rw[List.take_length]at this;rw[List.take_zero,List.filterMap_nil,Qa4];exact this,hL.2⟩
   clear hL
   go_wp2
   go_loopw [9,62] (fun v i wr=>∃k:Nat,k≤b.length∧i=.int .i64 k∧L2 a b R1 R2 w.heap.size w k v wr) (fun _ i _=>b.length -(Lib.intOf i).toNat)
   case atStart=>exact⟨0,Nat.zero_le _,rfl,h2⟩
   case round=>
    clear h2;obtain⟨k,hk,hi,hL⟩:=hrel;subst hi
    by_cases hks:k<b.length
    ·obtain⟨hown,hMa,hMb,hB⟩:=hL;obtain⟨bl,off,rfl,hbl,q0,q1⟩:=hvb.at_ k b[k] (Qa0 hks);have c0:=(hB.cell (p:=⟨bl,off+k*2,none⟩) hbl).trans q0;have c1:=(hB.cell (p:=⟨bl,off+k*2+1,none⟩) hbl).trans q1;obtain⟨hl1,hl2⟩:=hb.2 _ (List.getElem_mem hks)
     have hlen:(a.filterMap (JB b)++(b.take k).filterMap (Oq a)).length≤2000000:=by
      have e1:=Qa2 (JB b) a;have e2:=Qa2 (Oq a) (b.take k);rw[List.length_take]at e2;rw[List.length_append];omega
     have hfin:∀(W w':World) (v v':Value) (o:List BN),Below w.heap.size w W→MG W R1 a.length (BM a)→MG W R2 b.length (BM b)→Mk W w.heap.size v o→W.grownBy w' v.ownBlock→Mk w' w.heap.size v' (a.filterMap (JB b)++(b.take k).filterMap (Oq a)++(Oq a b[k]).toList)→L2 a b R1 R2 w.heap.size w (k+1) v' w':=fun W w' v v' o hB hMa hMb hown hg hown'=>
      L2.grow rfl hMa hMb hB hown hg (by rw[Ae2 (Qa0 hks),←List.append_assoc];exact hown')
     generalize a.filterMap (JB b)++(b.take k).filterMap (Oq a)=o at hown hfin hlen;generalize hx:b[k]=x at c0 c1 hl1 hl2 hfin;obtain⟨p,bo⟩:=x;dsimp only at c0 c1 hl1 hl2 hfin;have hMa2:=CJ.alloc hMa (.cells #[.string ⟨p.toArray⟩,.string ⟨bo.toArray⟩] 71);have hMb2:=CJ.alloc hMb (.cells #[.string ⟨p.toArray⟩,.string ⟨bo.toArray⟩] 71)
     have hB2:=hB.alloc hB.size (.cells #[.string ⟨p.toArray⟩,.string ⟨bo.toArray⟩] 71);have hown2:Mk _ _ _ _:=hown.alloc (.cells #[.string ⟨p.toArray⟩,.string ⟨bo.toArray⟩] 71);have hlk:=CJ.look hMa2 underlying9 (t:=331) underlying331 (AjF _) (by show([]:Bs).length≤maxLen;unfold maxLen;simp) (k:=p) (by unfold maxLen;omega)
     have hsz:=hB.size
     cases hg:BM a p with
     |none=>
      have hrm:(Oq a (p,bo)).toList=[(p,1)]:=by unfold Oq;dsimp only;rw[hg];rfl
      rw[hrm]at hfin;rw[hg]at hlk;have hlk2:(Instr.lookup 331 (.map (some R1)) (.string ⟨p.toArray⟩) true).run prog (wr.alloc (.cells #[.string ⟨p.toArray⟩,.string ⟨bo.toArray⟩] 71))=.ok (.tuple #[.string ⟨#[]⟩,.bool false]) (wr.alloc (.cells #[.string ⟨p.toArray⟩,.string ⟨bo.toArray⟩] 71)):=hlk;clear hlk hg hMa hMb hown hrm
      go_wp2_with (at_builtin;refine AlE w.heap.size (p:=p) (k:=1) rfl rfl rfl (World.ownsRow.alloc hown2 _) rfl ?d0 ?d1 ?d2 ?d3 ?d4)
      case d0=>simp
      case d1=>simp
      case d2=>exact Qa1 hlen (by decide)
      case d3=>simp;omega
      intro v2 w4 hown4 hg4
      go_wp2
      go_roundw
      case rel=>exact⟨k+1,by omega,by simp,hfin _ _ _ _ _ (hB2.alloc (by simp;omega) _) (hMa2.alloc _) (hMb2.alloc _) (World.ownsRow.alloc hown2 _) hg4 hown4⟩
      case measure=>simp only[Lib.intOf];omega
     |some u=>
      rw[hg]at hlk;have hlk2:(Instr.lookup 331 (.map (some R1)) (.string ⟨p.toArray⟩) true).run prog (wr.alloc (.cells #[.string ⟨p.toArray⟩,.string ⟨bo.toArray⟩] 71))=.ok (.tuple #[.string ⟨u.toArray⟩,.bool true]) (wr.alloc (.cells #[.string ⟨p.toArray⟩,.string ⟨bo.toArray⟩] 71)):=hlk
      have hrm:(Oq a (p,bo)).toList=[]:=by unfold Oq;dsimp only;rw[hg];rfl
      rw[hrm,Qa4]at hfin;clear hlk hMa hMb hown hrm hg
      go_wp2
      go_roundw
      case rel=>exact⟨k+1,by omega,by simp,hfin _ _ _ _ _ hB2 hMa2 hMb2 hown2 ⟨rfl,rfl,rfl,Qa3 _,fun _ _ _=>rfl⟩ hown2⟩
      case measure=>simp only[Lib.intOf];omega
    ·have hke:k=b.length:=by omega
     subst hke;obtain⟨hown,hMa,hMb,hB⟩:=hL;rw[List.take_length]at hown;have hgath:a.filterMap (JB b)++b.filterMap (Oq a)=P4 a b:=rfl;rw[hgath]at hown;have hgl:(P4 a b).length≤4000000:=Qa1 (Aib a b) (by omega);clear hgath hMa hMb;have honce:True:=trivial
     go_wp2_with (go_at_call 212;have hx:=honce;clear hx honce;refine(hsort _ _ _ hown hgl).mono ?_;rintro e w5 ⟨rfl,hg5,d',hp5,hs5,hown5⟩)
     go_ret2
     exact⟨_,d',rfl,Th hB hown hg5 (Qa3 _),hown5,hp5,hs5⟩
set_option maxHeartbeats 1000000 in
theorem AhT(a b:List Av)(pa pb:Option Addr)(ca cb:Nat)(w:World)(E:Int)(hE:¬E=0)
  (hbo:Calls prog 210 #[.slice pa a.length ca,.slice pb b.length cb] w fun e w'=>e=.returned (.int .i64 E)∧Below w.heap.size w w'):
  Calls prog 143 #[.slice pa a.length ca,.slice pb b.length cb] w fun e w'=>e=.returned (.tuple #[.slice none 0 0,.int .i64 E])∧Below w.heap.size w w':=by
 go_enter func143,ntmps143
 have honce:True:=trivial
 go_wp2_with (go_at_call 210;have hx:=honce;clear hx honce;refine hbo.mono ?_;rintro e w1 ⟨rfl,hB1⟩)
 go_ret2
 exact⟨rfl,hB1⟩
end Go.Proofs.Tryz
