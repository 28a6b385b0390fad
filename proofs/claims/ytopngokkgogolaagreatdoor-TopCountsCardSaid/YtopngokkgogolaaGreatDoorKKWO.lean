/- walk.Order, walked. -/
import Derived.Test.YtopngokkgogolaaGreatDoorKKGC
import Derived.Test.YtopngokkgogolaaGreatDoorKS0
set_option linter.unusedVariables false
set_option linter.unusedSimpArgs false
open Nat renaming lt_of_lt_of_le → Qa0, le_refl → Qa1, le_trans → Qa2
open Int renaming toNat_natCast → Qa3
open List renaming getElem?_eq_getElem → Qa4, length_filter_le → Qa5
namespace Go.Proofs.Tryz
open Go.Shelf Go.RowKit Go.VS Go Go.Sort
structure Lg(w:World)(b off:Nat)(C:List Int):Prop where
 blk:∃cur e,w.heap[b]?=some (.cells cur e (0,0))∧∀i,i<C.length→cur[off+i]?=some (.int .i64 (C.getD i 0))
theorem Lg.cell{w:World}{b off:Nat}{C:List Int}(h:Lg w b off C){i:Nat}(hi:i<C.length):w.cell? ⟨b,off+i,none⟩=some (.int .i64 (C.getD i 0))∧w.frozen? ⟨b,off+i,none⟩=false:=by
 obtain⟨cur,e,hb,hc⟩:=h.blk;exact⟨(Am hb _).trans (hc i hi),by simp[World.frozen?,hb]⟩
theorem Lg.same{w w':World}{b off:Nat}{C:List Int}(h:Lg w b off C)(hb:w'.heap[b]?=w.heap[b]?):Lg w' b off C:=by
 obtain⟨cur,e,h1,h2⟩:=h.blk;exact⟨cur,e,hb.trans h1,h2⟩
theorem Lg.set{w:World}{b off:Nat}{C:List Int}(h:Lg w b off C){i:Nat}(hi:i<C.length)(x:Int):Lg (w.setCell ⟨b,off+i,none⟩ (.int .i64 x)) b off (C.set i x):=by
 obtain⟨cur,e,h1,h2⟩:=h.blk;refine⟨_,e,heap_set h1,fun j hj=>?_⟩;rw[List.length_set]at hj;rw[Array.getElem?_setIfInBounds,G9 hi]
 by_cases hij:i=j
 ·subst hij;have hlt:off+i<cur.size:=(Array.getElem?_eq_some_iff.1 (h2 i hj)).1;simp[hlt]
 ·rw[if_neg (by omega),if_neg hij];exact h2 j hj
theorem HAt.below{ds:List Int}{pa:Option Addr}{ca B B0 q:Nat}{w w' w0:World}{v:Value}{l:List Int}(h:HAt ds pa ca B q w v l)(k:QF q v w w')(hB:Below B0 w0 w)(h0:B0≤B)(hs:B0≤w0.heap.size):Below B0 w0 w':=
 ⟨k.os.trans hB.os,k.tape.trans hB.tape,k.output.trans hB.output,Qa2 hB.size k.size,fun b hb=>(k.block b (Qa0 (Qa0 hb hs) hB.size) (by have:=h.bq;omega) fun e=>by
  have:=(World.ownsRow.lt h.qa.own b e).1
  omega).trans (hB.block b hb)⟩
theorem HAt.same{ds:List Int}{pa:Option Addr}{ca B q:Nat}{w w':World}{v:Value}{l:List Int}(h:HAt ds pa ca B q w v l)(hs:w.heap.size≤w'.heap.size)(hq:w'.heap[q]?=w.heap[q]?)(hv:∀b,v.ownBlock=some b→w'.heap[b]?=w.heap[b]?)(hb:∀p,pa=some p→w'.heap[p.block]?=w.heap[p.block]?):HAt ds pa ca B q w' v l:=
 ⟨⟨hq.trans h.qa.blk,Ir h.qa.own hv⟩,⟨fun k hk=>by
  obtain⟨b,off,h1,h2,h3⟩:=h.da.at_ k hk;refine⟨b,off,h1,Qa0 h2 hs,?_⟩;rw[←h3];unfold World.cell?
  rw[hb _ h1]⟩,h.ba,h.bq,Qa2 h.bw hs,h.ra,h.na⟩
def Aci:Value→Nat
 |.slice _ n _=>n
 |_=>0
theorem AdV{w:World}{B B' q:Nat}{fv v u:Value}{l m:List Int}(h:QAt w B q fv v l)(k:Ew w B' u m):u.ownBlock≠some q:=by
 intro e
 rcases k.2 with⟨h1,_⟩|⟨g',cap,cur,h1,hg,hb,_⟩
 ·rw[h1]at e;cases e
 ·rw[h1]at e;cases e;rw[h.blk]at hb;cases hb
theorem Ank(B:Nat){ops:Array Oper}{rest:List Oper}{o:Oper}{a:Act}{Q:Exit→Act→World→Prop}{s x:Operand}{w1:World}{v:Value}{l:List Int}{g:Nat}{p:Int}
  (hgd:o.guard=none) (ho:o.op=.call {callee:=.builtin .append,args:=#[s,x],argTypes:=#[22,22]}) (hs:a.eval s=v) (hown:Ew w1 B v l)
  (hx:a.eval x=.slice (some ⟨g,0,none⟩) 1 1) (hc0:w1.cell? ⟨g,0,none⟩=some (.int .i64 p)) (hn:l.length≤100000000) (hB:B≤w1.heap.size)
  (hk:∀v' w',Ew w' B v' (l++[p])→w1.grownBy w' v.ownBlock→(v'.ownBlock=v.ownBlock∨v'.ownBlock=some w1.heap.size)→wpList prog ops Q rest (a.put o.dst v') w'):wpList prog ops Q (o::rest) a w1:=by
 obtain⟨i0,hi,hz0,hz1,hz2⟩:=info_parts (P:=prog) (e:=3) (z:=.int .i64 0) (size:=1) (bytes:=8) (by kernel_rfl);refine wpList_append_lies _ hgd s x 22 ho B 3 i0 (.int .i64 0) 1 8 underlying22 hi hz0 hz1 hz2 rfl (by decide) v l.length _ hs hown ⟨g,0,none⟩ 1 1 [.int .i64 p] hx rfl ?_ ?_ (by decide) ?_ ?_ hB _ rfl ?_
 ·intro j u hj
  match j,hj with
  |0,hj=>
   have:Value.int .i64 p=u:=by simpa using hj
   subst this;exact hc0
  |j+1,hj=>simp at hj
 ·intro u hu;simp only[List.mem_cons,List.not_mem_nil,or_false]at hu
  rcases hu with rfl
  rfl
 ·unfold maxLen;omega
 ·omega
 ·intro g' cap w' h1 h2 h3 _;refine hk _ w' ?_ h2 ?_
  ·unfold Ew;rw[List.length_append,List.map_append];exact h1
  ·rcases h3 with h3|rfl
   ·exact .inl h3.symm
   ·exact .inr rfl
set_option maxHeartbeats 4000000 in
set_option maxRecDepth 1000000 in
theorem AbN(g:List Ai)(S:List Int)(pa ps:Option Addr)(ca cs:Nat)(w:World)(hvg:U5 g)(hSg:∀c∈S,inR g c)(hcy:¬Nh g)
  (hn:g.length≤300) (hnd:ndG g) (hpl:∀c,inR g c→(A6 g c).length≤1000000) (hpa:∀p,pa=some p→p.block<w.heap.size) (hD:GM w pa (g.map fun c=>c.2.1)) (hPr:Ahm w pa g) (hS:Mj w ps S) (hSr:S.length≤1000000)
  (hck:Calls prog 69 #[.slice pa g.length ca] w fun e w'=>e=.returned (.int .i64 0)∧Below w.heap.size w w')
  (hdis:∀W c,Below w.heap.size w W→c∈S→Calls prog 70 #[.slice pa g.length ca,.int .i64 c] W fun e w'=>e=.returned (.bool true)∧Below W.heap.size W w')
  (hch:∀W,Below w.heap.size w W→Calls prog 71 #[.slice pa g.length ca,.slice ps S.length cs] W fun e w'=>Below W.heap.size W w'∧∃C0,Ph g S C0∧∃b off cap,e=.returned (.slice (some ⟨b,off,none⟩) g.length cap)∧Lg w' b off C0∧W.heap.size≤b∧b<w'.heap.size):
  Calls prog 22 #[.slice pa g.length ca,.slice ps S.length cs] w fun e w'=>∃v l,AeP g S l∧Ew w' w.heap.size v l∧e=.returned (.tuple #[v,.int .i64 0])∧Below w.heap.size w w':=by
 go_enter func22,ntmps22
 go_wp2_with (go_at_call 69;refine hck.mono ?_;rintro e w1 ⟨rfl,hB1⟩)
 go_loopw [25] (fun i wr=>∃k:Nat,k≤S.length∧i=.int .i64 k∧Below w.heap.size w wr) (fun i _=>S.length -(Lib.intOf i).toNat)
 case atStart=>exact⟨0,Nat.zero_le _,rfl,hB1⟩
 case round=>
  clear hB1 hck;obtain⟨k,hk,hi,hB⟩:=hrel;subst hi
  by_cases hks:k<S.length
  ·obtain⟨bs,os,rfl,lb,q0⟩:=hS.at_ k S[k] (Qa4 hks);have c0:=(hB.cell (p:=⟨bs,os+k,none⟩) lb).trans q0;have hd:=hdis wr S[k] hB (List.getElem_mem hks);generalize S[k]=s at c0 hd;clear hch hdis q0 hPr hD
   go_wp2_with (go_at_call 70;refine hd.mono ?_;rintro e w2 ⟨rfl,hB2⟩)
   go_roundw
   case rel=>exact⟨k+1,by omega,by simp,hB.trans (hB2.mono hB.size)⟩
   case measure=>simp only[Lib.intOf];omega
  ·have hke:k=S.length:=by omega
   subst hke;have hch:=hch wr hB;clear hdis
   go_wp2_with (go_at_call 71;refine hch.mono ?_;rintro e w1 ⟨hB1,C0,hCO,b,off,cap,rfl,hC,hbl,hbs⟩)
   obtain⟨A,hA,hl,h1,h2⟩:=hCO
   have hAr:∀c∈A,inR g c:=fun c hc=>hA.inR hvg hSg hc
   have hB01:=hB.trans (hB1.mono hB.size);have hD1:GM w1 pa (g.map fun c=>c.2.1):=hD.of (B:=w.heap.size) (fun b hb=>hB01.block b hb) hB01.size hpa
   have hdl:(g.map fun c=>c.2.1).length=g.length:=by simp
   have hfv:∀o:Obj,w1.alloc o=w1.alloc o:=fun _=>rfl
   generalize hds:(g.map fun c=>c.2.1)=ds at hD1 hdl
   have hw2:HAt ds pa ca w1.heap.size w1.heap.size (w1.alloc (.cells #[.slice none 0 0,.func (.func 72) #[.slice pa g.length ca] #[]] 161)) (.slice none 0 0) []:=by
    refine⟨⟨?_,Sa _ _⟩,?_,fun p hp=>Qa0 (hpa p hp) hB01.size,Qa1 _,by simp,fun _ h=>(nomatch h),by simp⟩
    ·rw[hdl];exact heap_alloc_new w1 _
    ·exact hD1.of (B:=w1.heap.size) (fun b hb=>Below.heap_alloc w1 _ b hb) (by simp) fun p hp=>Qa0 (hpa p hp) hB01.size
   have hC2:=hC.same (w':=w1.alloc (.cells #[.slice none 0 0,.func (.func 72) #[.slice pa g.length ca] #[]] 161)) (Below.heap_alloc w1 _ b hbs);have hB2:Below w1.heap.size w1 (w1.alloc (.cells #[.slice none 0 0,.func (.func 72) #[.slice pa g.length ca] #[]] 161)):=(Below.refl _ w1).alloc (Qa1 _) _;generalize hq:w1.heap.size=q at hw2 hB2;rw[hq]at hbs
   generalize(w1.alloc (.cells #[.slice none 0 0,.func (.func 72) #[.slice pa g.length ca] #[]] 161))=w2 at hw2 hC2 hB2
   have hwq:w.heap.size≤q:=by rw[←hq];exact hB01.size
   have hwb:w.heap.size≤b:=Qa2 hB.size hbl;clear hC hch hfv hD hS
   go_loopw [44] (fun i wr=>∃(k:Nat) (Q:List Int) (v:Value),k≤g.length∧i=.int .i64 k∧HAt ds pa ca q q wr v Q∧List.Perm Q ((rng k).filter fun c=>decide (C0.getD c.toNat 0=0))∧Lg wr b off C0∧Below q w1 wr) (fun i _=>g.length -(Lib.intOf i).toNat)
   case atStart=>exact⟨0,[],_,Nat.zero_le _,rfl,hw2,.refl _,hC2,hB2⟩
   case round=>
    clear hw2 hC2 hB2;obtain⟨k,Q,v,hk,hi,hH,hQ,hC,hBq⟩:=hrel;subst hi
    by_cases hks:k<g.length
    ·obtain⟨c0,_⟩:=hC.cell (i:=k) (by omega)
     have hnx:((rng (k+1)).filter fun c=>decide (C0.getD c.toNat 0=0))=((rng k).filter fun c=>decide (C0.getD c.toNat 0=0))++if C0.getD k 0=0 then[(k:Int)]else[]:=by
      rw[Ab8,List.filter_append]
      congr 1
      simp only[List.filter_cons,List.filter_nil,Qa3,decide_eq_true_eq]
     have hQl:Q.length≤300:=by
      rw[hQ.length_eq];exact Qa2 (Qa5 _ _) (by rw[Fy];omega)
     by_cases hz:C0.getD k 0=0
     ·rw[if_pos hz]at hnx;have hpu:=WQ ds pa ca q q wr v Q (k:Int) hH (by omega) (by omega);rw[hz]at c0
      go_wp2_with (go_at_call 73;refine hpu.mono ?_;rintro e w3 ⟨rfl,v3,Q3,hH3,hp3,hf3,hn3⟩)
      go_roundw
      case rel=>exact⟨k+1,Q3,v3,by omega,by simp,hH3,hp3.trans (by rw[hnx];exact(hQ.cons _).trans (List.perm_append_singleton _ _).symm),hC.same (hf3.block b (by have:=(hC.blk);obtain⟨cur,e,hb,_⟩:=this;exact(Array.getElem?_eq_some_iff.1 hb).1) (by omega) (fun e1=>by have:=(World.ownsRow.lt hH.qa.own b e1).1;omega)),hH.below hf3 hBq (Qa1 _) (by omega)⟩
      case measure=>simp only[Lib.intOf];omega
     ·rw[if_neg hz,List.append_nil]at hnx;generalize C0.getD k 0=z at c0 hz
      go_wp2
      go_roundw
      case rel=>exact⟨k+1,Q,v,by omega,by simp,hH,by rw[hnx];exact hQ,hC,hBq⟩
      case measure=>simp only[Lib.intOf];omega
    ·have hke:k=g.length:=by omega
     subst hke;have hK0:=KIn.first hA hl h1 h2 hAr hQ;clear hQ h1 h2
     go_wp2
     go_loopw [14] (fun vo wr=>∃(out Q C:List Int) (v:Value),HAt ds pa ca q q wr v Q∧Ew wr q vo out∧(∀b,v.ownBlock=some b→vo.ownBlock≠some b)∧Lg wr b off C∧KIn g A C out Q []∧Below w.heap.size w wr) (fun vo _=>g.length -Aci vo)
     case atStart=>exact⟨[],Q,C0,v,hH,Sa _ _,fun b _ h=>(nomatch h),hC,hK0,hB01.trans (hBq.mono hwq)⟩
     case round=>
      clear hH hC hK0 hBq;obtain⟨out,Q,C,v,hH,hO,hdj,hC,hK,hBq⟩:=hrel;have hlq:=QL wr q q _ v Q hH.qa;have hroom:=hK.room hAr
      cases Q with
      |nil=>
       go_wp2_with (go_at_call 74;refine hlq.mono ?_;rintro e w3 ⟨rfl,rfl⟩)
       go_ret2
       exact⟨_,out,KIn.fin hA hK hAr hcy,Agw hO hwq,rfl,hBq⟩
      |cons y Q0=>
       have hpop:=AgA ds pa ca q q wr v (y::Q0) hH (by simp)
       have hta:=fun(x:Int) W=>VE x W
       have hyl:((y::Q0).length:Int)>0:=by rw[List.length_cons];omega
       generalize y::Q0=Q at hH hK hlq hpop hroom hyl;obtain⟨av,cv,rfl⟩:=Nr hO
       go_wp2_with (first|(go_at_call 74;refine hlq.mono ?_;rintro e w3 ⟨rfl,hw3⟩;subst w3)|(go_at_call 75;refine hpop.mono ?_;rintro e w3 ⟨x,v3,Q3,rfl,hH3,hp3,hf3,hb3⟩;have hO3:Ew w3 q (.slice av out.length cv) out:=Ir hO fun b' hb'=>hf3.block b' (World.ownsRow.lt hO b' hb').2 (fun e1=>AdV hH.qa hO (by rw[hb',e1])) (fun e1=>hdj b' e1 hb'))|(at_builtin;refine Ank q (p:=x) rfl rfl rfl (AdS hO3 _) rfl ?b0 ?b1 ?b2 ?b3))
       case b0=>simp
       case b1=>omega
       case b2=>have:=hH3.bw;simp;omega
       case b3=>
        intro v6 w6 hO6 hg6 hat6
        have hs36:w3.heap.size≤w6.heap.size:=by have:=hg6.size;simp at this;omega
        have hfar:∀b',b'<w3.heap.size→(Value.slice av out.length cv).ownBlock≠some b'→w6.heap[b']?=w3.heap[b']?:=fun b' hb' hne=>(hg6.block b' (by simp;omega) (fun e1=>hne e1.symm)).trans (Below.heap_alloc w3 _ b' hb')
        have hvq:∀b',(Value.slice av out.length cv).ownBlock=some b'→q≤b':=fun b' hb'=>(World.ownsRow.lt hO b' hb').1
        have hq3:q≤w3.heap.size:=hH3.bw
        have hpb:∀p,pa=some p→(Value.slice av out.length cv).ownBlock≠some p.block:=fun p hp e1=>by have:=hvq _ e1;have:=hpa p hp;omega
        have hws:w.heap.size≤w3.heap.size:=by omega
        have hH6:HAt ds pa ca q q w6 v3 Q3:=hH3.same hs36 (hfar q (Array.getElem?_eq_some_iff.1 hH3.qa.blk).1 (AdV hH3.qa hO3)) (fun b' hb'=>hfar b' (World.ownsRow.lt hH3.qa.own b' hb').2 (hdj b' (by rw[←hb3];exact hb'))) (fun p hp=>hfar p.block (by have:=hpa p hp;omega) (hpb p hp))
        have hbw:b<w3.heap.size:=by omega
        have hbr:b<wr.heap.size:=by obtain⟨cur,e,hb,_⟩:=hC.blk;exact(Array.getElem?_eq_some_iff.1 hb).1
        have hC6:Lg w6 b off C:=hC.same ((hfar b hbw fun e1=>by have:=hvq b e1;omega).trans (hf3.block b hbr (by omega) fun e1=>by have:=(World.ownsRow.lt hH.qa.own b e1).1;omega))
        have hB6:Below w.heap.size w w6:=below_grow ((hH.below hf3 hBq hwq (Qa1 _)).alloc hws _) hg6 (fun b' hb'=>Qa2 hwq (hvq b' hb')) (Qa1 _)
        have hdj6:∀b',v3.ownBlock=some b'→v6.ownBlock≠some b':=fun b' hb'=>by
         rcases hat6 with e1|e1
         ·rw[e1];exact hdj b' (by rw[←hb3];exact hb')
         ·rw[e1];intro e2;have:=(World.ownsRow.lt hH3.qa.own b' hb').2;simp at e2;omega
        have hK6:=KIn.start hA.nd (hK.perm hp3)
        have hxr:0≤x∧x<(g.length:Int):=by rw[←hdl];exact hH.ra x (hp3.mem_iff.1 (by simp))
        have hxA:x∈A:=hK.sub x (by simp[hp3.mem_iff.symm])
        have hol:(out++[x]).length≤g.length:=by have:=hK6.room hAr;omega
        obtain⟨x0,rfl⟩:∃n:Nat,x=n:=⟨x.toNat,by omega⟩
        obtain⟨bp,op,rfl,lp,ap,cp,p0,p1⟩:=hPr.at_ x0 (by omega);have p6:=(hB6.cell (p:=⟨bp,op+x0*3,none⟩) lp).trans p0;have hO6:Ew w6 q v6 (out++[(x0:Int)]):=hO6
        have hol2:out.length+1=(out++[(x0:Int)]).length:=by simp
        generalize out++[(x0:Int)]=out6 at hO6 hK6 hol hol2;obtain⟨a6,c6,rfl⟩:=Nr hO6
        have hLA:∀p∈A6 g (x0:Int),p∈A:=fun p hp=>hA.up hxA hp
        have hLl:=hpl (x0:Int) hxr;generalize A6 g (x0:Int)=L at hK6 p0 p1 p6 hLA hLl;clear hH3 hO3 hg6 hat6 hfar hf3 hpop hlq hta hC hH hO hdj hK hBq hvq hpb
        go_wp2
        go_loopw [74] (fun i wr=>∃(j:Nat) (Q C:List Int) (v:Value),j≤L.length∧i=.int .i64 j∧HAt ds (some ⟨bp,op,none⟩) ca q q wr v Q∧Ew wr q (.slice a6 out6.length c6) out6∧(∀b',v.ownBlock=some b'→(Value.slice a6 out6.length c6).ownBlock≠some b')∧Lg wr b off C∧KIn g A C out6 Q (L.drop j)∧Below w.heap.size w wr) (fun i _=>L.length -(Lib.intOf i).toNat)
        case atStart=>exact⟨0,Q3,C,v3,Nat.zero_le _,rfl,hH6,hO6,hdj6,hC6,hK6,hB6⟩
        case round=>
         clear hH6 hO6 hdj6 hC6 hK6 hB6 p6 p0;obtain⟨j,Q,C,v,hj,hi,hH,hO,hdj,hC,hK,hB⟩:=hrel;subst hi
         by_cases hjs:j<L.length
         ·obtain⟨bl,ol,rfl,ll,q0⟩:=p1.at_ j L[j] (Qa4 hjs);have c0:=(hB.cell (p:=⟨bl,ol+j,none⟩) ll).trans q0;have hdr:L.drop j=L[j]::L.drop (j+1):=List.drop_eq_getElem_cons hjs;have hpA:=hLA _ (List.getElem_mem hjs);rw[hdr]at hK;generalize L[j]=p at c0 hK hpA;have hpr:=hAr p hpA
          obtain⟨pn,rfl⟩:∃n:Nat,p=n:=⟨p.toNat,by have:=hpr.1;omega⟩
          have hpn:pn<C.length:=by rw[hK.len];have:=hpr.2;omega
          obtain⟨c1,f1⟩:=hC.cell hpn
          have hset:=fun x=>hC.set hpn x
          have hst:=hK.step hAr hpA;have hpos:=(hK.pos hpA).1
          have hbd:C.getD pn 0≤2000000:=by
           have k1:=hK.deg (pn:Int) hpA;rw[Qa3]at k1
           have k2:Dh g (unl A out6) (pn:Int)≤(unl A out6).length:=Vb fun c hc=>List.nodup_iff_count.1 (hnd c (hAr c (Afi.1 hc).1)) _
           have k3:(unl A out6).length≤A.length:=Qa5 _ _
           have k4:=DX hA.nd (m:=rng g.length) fun x hx=>Dk.2 (hAr x hx)
           rw[Fy]at k4;have k5:((pn:Int)::L.drop (j+1)).count (pn:Int)≤((pn:Int)::L.drop (j+1)).length:=List.count_le_length
           have k6:((pn:Int)::L.drop (j+1)).length≤L.length+1:=by simp
           omega
          rw[Qa3]at hst hpos;generalize C.getD pn 0=z at c1 hst hpos hbd
          have hbq:b≠q:=by omega
          have hvb:∀b',v.ownBlock=some b'→b'≠b:=fun b' e1=>by have:=(World.ownsRow.lt hH.qa.own b' e1).1;omega
          have hob:∀b',(Value.slice a6 out6.length c6).ownBlock=some b'→b'≠b:=fun b' e1=>by have:=(World.ownsRow.lt hO b' e1).1;omega
          have hHs:=fun x=>hH.same (w':=wr.setCell ⟨b,off+pn,none⟩ (.int .i64 x)) (by simp) (Below.heap_setCell _ _ _ _ hbq.symm) (fun b' e1=>Below.heap_setCell _ _ _ _ (hvb b' e1)) (fun p e1=>Below.heap_setCell _ _ _ _ (by cases e1;show bp≠b;omega))
          have hOs:=fun x=>Ir (w':=wr.setCell ⟨b,off+pn,none⟩ (.int .i64 x)) hO (fun b' e1=>Below.heap_setCell _ _ _ _ (hob b' e1))
          have hBs:=fun x=>hB.setCell (p:=⟨b,off+pn,none⟩) hwb (.int .i64 x)
          have hq6:Q.length≤300:=by have:=hK.room hAr;omega
          have hpl2:0≤(pn:Int)∧(pn:Int)<(ds.length:Int):=by rw[hdl];exact hpr
          have hpng:(pn:Int)<(g.length:Int):=hpr.2
          by_cases hz:z=1
          ·subst hz;have hpu:=WQ ds (some ⟨bp,op,none⟩) ca q q _ v Q (pn:Int) (hHs 0) hpl2 (by omega);have hK2:=hst.1 (by omega);rw[show(1:Int) -1=0 from rfl]at hK2;have hH0:=hHs 0;have hO0:=hOs 0;have hB0:=hBs 0;have hC0:=hset 0
           have hbs0:b<(wr.setCell ⟨b,off+pn,none⟩ (.int .i64 0)).heap.size:=by obtain⟨cur,e,hb,_⟩:=hC0.blk;exact(Array.getElem?_eq_some_iff.1 hb).1
           clear hst hHs hK hOs hBs hset
           go_wp2_with (go_at_call 73;refine hpu.mono ?_;rintro e w7 ⟨rfl,v7,Q7,hH7,hp7,hf7,hn7⟩)
           go_roundw
           case rel=>exact⟨j+1,Q7,_,v7,by omega,by simp,hH7,Ir hO0 (fun b' e1=>hf7.block b' (World.ownsRow.lt hO0 b' e1).2 (fun e2=>AdV hH0.qa hO0 (by rw[e1,e2])) (fun e2=>hdj b' e2 e1)),(fun b' e1 e2=>by
            rcases hn7 with e3|e3
            ·exact hdj b' (by rw[←e3];exact e1) e2
            ·have:=e3 b' e1;have:=(World.ownsRow.lt hO0 b' e2).2
             omega),hC0.same (hf7.block b hbs0 hbq fun e1=>hvb b e1 rfl),hK2.perm hp7,hH0.below hf7 hB0 hwq (Qa1 _)⟩
           case measure=>simp only[Lib.intOf];omega
          ·have hK2:=hst.2 (by omega)
           have hz1:¬z -1=0:=by omega
           have hH0:=hHs (z -1);have hO0:=hOs (z -1);have hB0:=hBs (z -1);have hC0:=hset (z -1);clear hst hHs hK hOs hBs hset
           go_wp2
           exact⟨⟨j+1,Q,_,v,by omega,by simp,hH0,hO0,hdj,hC0,hK2,hB0⟩,by simp only[Lib.intOf];omega⟩
         ·have hje:j=L.length:=by omega
          subst hje;rw[List.drop_of_length_le (Qa1 _)]at hK
          go_wp2
          exact⟨⟨out6,Q,C,v,hH,hO,hdj,hC,hK,hB⟩,by simp only[Aci];omega⟩
end Go.Proofs.Tryz
