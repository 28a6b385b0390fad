/- Closures, both. -/
import Derived.Test.YtopngokkgogolaaKSpAwk05
import Derived.Test.YtopngokkgogolaaKSpCloA
set_option linter.unusedVariables false
set_option linter.unusedSimpArgs false
namespace Go.VS
variable{P:Pg}
theorem Xh{out:List Bool}(hn:out.length≤8000){K:List Int→Prop}(hK:K (Jn out out.length)):Bf (D:=(List Int)×Int) ([],(0:Int)) (fun d J=>(((decide (d.2<((List.length out:Nat):Int)))=true→Ak (D:=(List Int)) (fun J31=>(0≤d.2∧d.2<((List.length out:Nat):Int))∧
  ((Int.toNat d.2)<List.length out)∧
  Ak (D:=(List Int)) (fun J33=>(((List.getD out (Int.toNat d.2) false)=true→((List.length d.1+List.length ([d.2]:List Int))*8≤140737488355328)∧
  J33 (d.1++([d.2]:List Int)))∧((List.getD out (Int.toNat d.2) false)=false→J33 d.1))) (fun(d34:(List Int))=>J31 d34)) (fun(d32:(List Int))=>J (d32,(IntKind.i64.wrap (d.2+(1:Int))))))∧((decide (d.2<((List.length out:Nat):Int)))=false→K d.1))):=by
 refine Bf.of (fun d=>0≤d.2∧d.2≤out.length∧d.1=Jn out d.2.toNat) (fun d=>(out.length -d.2).toNat) ⟨Int.le_refl _,by dsimp only;omega,rfl⟩ ?_
 rintro⟨l,i⟩ ⟨i0,i1,hl⟩
 dsimp only at i0 i1 hl⊢
 subst hl
 refine⟨fun hc=>?_,fun hc=>?_⟩
 ·have hc:=of_decide_eq_true hc
  refine Ak.mid (fun d=>d=Jn out (i.toNat+1)) ⟨⟨i0,hc⟩,by omega,Ak.of ⟨fun hb=>⟨?_,?_⟩,fun hb=>?_⟩⟩ ?_
  ·have:=QL out i.toNat
   simp only[List.length_cons,List.length_nil];omega
  ·rw[OY,if_pos hb,show((i.toNat:Nat):Int)=i by omega]
  ·rw[OY,if_neg (by simp[hb,-List.getD_eq_getElem?_getD])]
  ·rintro d rfl
   rw[w64 (by omega) (by omega)]
   exact⟨⟨by omega,by omega,by rw[show(i+1).toNat=i.toNat+1 by omega]⟩,by omega⟩
 ·have hc:=of_decide_eq_false hc
  rw[show i.toNat=out.length by omega]
  exact hK
structure Wl(A:List State)(st en:Bool)(fr:List Int)(sn:List Bool)(op:List Int):Prop where
 len:sn.length=A.length
 mrk:∀o∈op,sn.getD o.toNat false=true
 cnt:op.length+sn.count false≤A.length
 opn:∀o∈op,0≤o∧o<(A.length:Int)
 from_:∀k∈fr,sn.getD k.toNat false=true
 snd:∀q,sn.getD q false=true→∃p:Nat,(p:Int)∈fr∧Jm A st en p q
theorem Wl.push{A:List State}{st en:Bool}{fr:List Int}{sn:List Bool}{op:List Int}(h:Wl A st en fr sn op){x:Int}(h0:0≤x)(h1:x<(A.length:Int))(hf:sn.getD x.toNat false=false)(hx:∃p:Nat,(p:Int)∈fr∧Jm A st en p x.toNat):Wl A st en fr (sn.set x.toNat true) (op++[x]):=by
 have hl:=h.len
 have hc:=EC (l:=sn) (i:=x.toNat) (by omega) hf
 have:=h.cnt
 refine⟨by simpa using hl,fun o ho=>?_,by simp only[List.length_append,List.length_cons,List.length_nil];omega,fun o ho=>?_,fun k hk=>?_,fun q hq=>?_⟩
 ·rw[BK (by omega)]
  split
  ·rfl
  ·rename_i e
   rcases List.mem_append.1 ho with ho|ho
   ·exact h.mrk o ho
   ·rw[List.mem_singleton.1 ho]at e;exact(e rfl).elim
 ·rcases List.mem_append.1 ho with ho|ho
  ·exact h.opn o ho
  ·rw[List.mem_singleton.1 ho];exact⟨h0,h1⟩
 ·rw[BK (by omega)]
  split
  ·rfl
  ·exact h.from_ k hk
 ·rw[BK (by omega)]at hq
  split at hq
  ·rename_i e;subst e;exact hx
  ·exact h.snd q hq
def JH(P:Pg):Prop:=∀x:Auto×(List Int×(Bool×Bool)),x.2.1.length≤140737488351232→Fn P YU CR x fun(d:List Int×Int) _=>Kp x.1 x.2.1 x.2.2.1 x.2.2.2 d
theorem Te(h:Has P CO)(hR:I2 P)(hS:M9 P):JH P:=by
 rintro⟨⟨A,s0⟩,fr,st,en⟩ hl
 dsimp only at hl⊢
 refine Io h ?_
 unfold FF
 dsimp only
 refine(hR (A,s0)).to ?_
 rintro(c:Int) _ ⟨hc1,hc2⟩
 refine⟨fun hc=>⟨fun nv=>by rw[hc2 nv],fun v=>?_⟩,fun hc=>?_⟩
 ·rw[hc1 v]at hc;simp at hc
 have v:Valid (A,s0):=by
  apply Classical.byContradiction
  intro nv;rw[hc2 nv]at hc;simp at hc
 have hA:=v.okl
 have hhi:=v.hi
 dsimp only at hA hhi
 refine⟨⟨by omega,by omega,by omega⟩,?_⟩
 refine Ak.mid (fun d=>(∀k∈fr,0≤k∧k<(A.length:Int))∧Wl A st en fr d.2.2.1 d.2.2.2∧∀q:Nat,d.2.2.1.getD q false=true→(q:Int)∈d.2.2.2) ?_ ?_
 ·refine Bf.of (fun d=>0≤d.2.2.2.2∧d.2.2.2.2≤fr.length∧(∀k∈fr.take d.2.2.2.2.toNat,0≤k∧k<(A.length:Int))∧Wl A st en (fr.take d.2.2.2.2.toNat) d.2.2.1 d.2.2.2.1∧∀q:Nat,d.2.2.1.getD q false=true→(q:Int)∈d.2.2.2.1) (fun d=>(fr.length -d.2.2.2.2).toNat) ⟨Int.le_refl _,by dsimp only;omega,fun k hk=>by simp at hk,⟨by simp,fun o ho=>(by cases ho),by simp,fun o ho=>(by cases ho),fun k hk=>(by simp at hk),fun q hq=>?_⟩,fun q hq=>?_⟩ ?_
  ·rw[List.getD_eq_getElem?_getD,List.getElem?_replicate]at hq
   split at hq<;>simp at hq
  ·rw[List.getD_eq_getElem?_getD,List.getElem?_replicate]at hq
   split at hq<;>simp at hq
  rintro⟨u,u2,sn,op,i⟩ ⟨i0,i1,hk,hw,hq⟩
  dsimp only at i0 i1 hk hw hq⊢
  have sl:=hw.len
  refine⟨fun hb=>Ak.of ?_,fun hb=>?_⟩
  ·have hb:=of_decide_eq_true hb
   rw[sl]
   have hmem:fr.getD i.toNat 0∈fr:=Hp (by omega)
   refine⟨⟨i0,hb⟩,by omega,fun hx=>?_,fun hx=>?_⟩
   ·refine⟨fun nv=>(nv v).elim,fun _=>⟨fun _=>rfl,fun hall=>?_⟩⟩
    have:=hall _ hmem
    dsimp only at this
    simp[-List.getD_eq_getElem?_getD]at hx
    omega
   ·simp[-List.getD_eq_getElem?_getD]at hx
    refine⟨hx,by omega,?_⟩
    have htk:=EU i0 hb
    generalize hg:fr.getD i.toNat 0=y at hx htk hmem⊢
    rw[w64 (by omega) (by omega)]
    have hk':∀k∈fr.take (i+1).toNat,0≤k∧k<(A.length:Int):=by
     rw[htk];intro k hk2
     rcases List.mem_append.1 hk2 with h|h
     ·exact hk k h
     ·rw[List.mem_singleton.1 h];exact hx
    have hw':sn.getD y.toNat false=true→Wl A st en (fr.take (i+1).toNat) sn op:=by
     intro hy
     refine⟨hw.len,hw.mrk,hw.cnt,hw.opn,fun k hk2=>?_,fun q hq=>?_⟩
     ·rw[htk]at hk2
      rcases List.mem_append.1 hk2 with h|h
      ·exact hw.from_ k h
      ·rw[List.mem_singleton.1 h];exact hy
     ·obtain⟨p,p1,p2⟩:=hw.snd q hq
      exact⟨p,by rw[htk];exact List.mem_append.2 (.inl p1),p2⟩
    refine Ak.mid (fun d=>Wl A st en (fr.take (i+1).toNat) d.1 d.2∧∀q:Nat,d.1.getD q false=true→(q:Int)∈d.2) ⟨fun hy=>⟨hx,by omega,?_,?_⟩,fun hy=>?_⟩ ?_
    ·have:=hw.cnt
     simp only[List.length_cons,List.length_nil];omega
    ·have hy:sn.getD y.toNat false=false:=by simpa[-List.getD_eq_getElem?_getD]using hy
     have hw2:Wl A st en (fr.take (i+1).toNat) (sn.set y.toNat true) (op++[y]):=by
      have hcc:=EC (l:=sn) (i:=y.toNat) (by omega) hy
      have hcn:=hw.cnt
      refine⟨by simpa using sl,fun o ho=>?_,by simp only[List.length_append,List.length_cons,List.length_nil];omega,fun o ho=>?_,fun k hk2=>?_,fun q hq2=>?_⟩
      ·rw[BK (by omega)]
       split
       ·rfl
       ·rename_i e
        rcases List.mem_append.1 ho with ho|ho
        ·exact hw.mrk o ho
        ·rw[List.mem_singleton.1 ho]at e;exact(e rfl).elim
      ·rcases List.mem_append.1 ho with ho|ho
       ·exact hw.opn o ho
       ·rw[List.mem_singleton.1 ho];exact hx
      ·rw[BK (by omega)]
       split
       ·rfl
       ·rename_i e
        rw[htk]at hk2
        rcases List.mem_append.1 hk2 with h|h
        ·exact hw.from_ k h
        ·rw[List.mem_singleton.1 h]at e;exact(e rfl).elim
      ·rw[BK (by omega)]at hq2
       split at hq2
       ·rename_i e
        subst e
        refine⟨y.toNat,?_,.refl _⟩
        rw[htk,show((y.toNat:Nat):Int)=y by omega]
        exact List.mem_append.2 (.inr (List.mem_singleton.2 rfl))
       ·obtain⟨p,p1,p2⟩:=hw.snd q hq2
        exact⟨p,by rw[htk];exact List.mem_append.2 (.inl p1),p2⟩
     refine⟨hw2,fun q hq2=>?_⟩
     rw[BK (by omega)]at hq2
     split at hq2
     ·rename_i e
      exact List.mem_append.2 (.inr (List.mem_singleton.2 (by omega)))
     ·exact List.mem_append.2 (.inl (hq q hq2))
    ·have hy:sn.getD y.toNat false=true:=by simpa[-List.getD_eq_getElem?_getD]using hy
     exact⟨hw' hy,hq⟩
    ·rintro⟨sn2,op2⟩ ⟨h1,h2⟩
     exact⟨⟨by omega,by omega,hk',h1,h2⟩,by omega⟩
  ·have hb:=of_decide_eq_false hb
   rw[List.take_of_length_le (by omega)]at hk hw
   exact⟨hk,hw,hq⟩
 ·rintro⟨u,u2,sn0,op0⟩ ⟨hk,hw0,hq0⟩
  dsimp only at hk hw0 hq0⊢
  refine Ak.mid (fun sn=>Wl A st en fr sn []∧∀q:Nat,sn.getD q false=true→∀j,Fw A st en q j→sn.getD j false=true) ?_ ?_
  ·refine Bf.of (fun d=>Wl A st en fr d.1 d.2∧∀q:Nat,d.1.getD q false=true→(q:Int)∈d.2∨∀j,Fw A st en q j→d.1.getD j false=true) (fun d=>2*d.1.count false+d.2.length) ⟨hw0,fun q hq=>.inl (hq0 q hq)⟩ ?_
   rintro⟨sn,op⟩ ⟨hw,hq⟩
   dsimp only at hw hq⊢
   have hysn:=hw.mrk
   have sl:=hw.len
   have hcn:=hw.cnt
   refine⟨fun hc=>?_,fun hc=>?_⟩
   ·have hc:=of_decide_eq_true hc
    rw[w64 (n:=_ -1) (by omega) (by omega)]
    have hon:op.getD ((op.length:Int) -1).toNat 0∈op:=Hp (by omega)
    have hol:=hw.opn _ hon
    have hpop:∀q∈op,q∈op.take ((op.length:Int) -1).toNat∨q=op.getD ((op.length:Int) -1).toNat 0:=by
     intro q hq
     have e:op=op.take ((op.length:Int) -1).toNat++[op.getD ((op.length:Int) -1).toNat 0]:=by
      rw[←EU (by omega) (by omega),List.take_of_length_le (by omega)]
     rw[e]at hq
     rcases List.mem_append.1 hq with h|h
     ·exact .inl h
     ·exact .inr (List.mem_singleton.1 h)
    have htl:(op.take ((op.length:Int) -1).toNat).length+1=op.length:=by simp;omega
    have hop':∀o∈op.take ((op.length:Int) -1).toNat,0≤o∧o<(A.length:Int):=fun o ho=>hw.opn o (List.mem_of_mem_take ho)
    have hop'':∀o∈op.take ((op.length:Int) -1).toNat,sn.getD o.toNat false=true:=fun o ho=>hw.mrk o (List.mem_of_mem_take ho)
    generalize op.getD ((op.length:Int) -1).toNat 0=y at hon hol hpop⊢
    refine Ak.of ⟨⟨by omega,by omega⟩,by omega,⟨by omega,by omega⟩,by omega,hol,by omega,?_⟩
    have hyN:y.toNat<A.length:=by omega
    refine(hS ((A.getD y.toNat Al),(st,en))).to ?_
    rintro(ls:List Int) _ rfl
    dsimp only
    rw[show List.drop 0 op=op from rfl]
    generalize op.take ((op.length:Int) -1).toNat=op' at hpop htl hop' hop''⊢
    have hsl:=Tn (A.getD y.toNat Al) st en
    obtain⟨hlt,hiff⟩:=Tm hA hyN st en
    generalize IQ (A.getD y.toNat Al) st en=ls at hsl hlt hiff⊢
    refine Ak.mid (fun d=>(Wl A st en fr d.1 d.2∧∀q:Nat,d.1.getD q false=true→(q:Int)∈d.2∨∀j,Fw A st en q j→d.1.getD j false=true)∧2*d.1.count false+d.2.length<2*sn.count false+op.length) ?_ fun d hd=>hd
    have hw1:Wl A st en fr sn op':=⟨hw.len,hop'',by omega,hop',hw.from_,hw.snd⟩
    have hy0:((y.toNat:Nat):Int)=y:=by omega
    refine Bf.of (fun d=>0≤d.2.2∧d.2.2≤ls.length∧Wl A st en fr d.1 d.2.1∧(∀q,sn.getD q false=true→d.1.getD q false=true)∧(∀q:Nat,d.1.getD q false=true→(q:Int)∈d.2.1∨(q:Int)=y∨∀j,Fw A st en q j→d.1.getD j false=true)∧(∀x∈ls.take d.2.2.toNat,d.1.getD x.toNat false=true)∧2*d.1.count false+d.2.1.length<2*sn.count false+op.length) (fun d=>(ls.length -d.2.2).toNat) ⟨Int.le_refl _,by dsimp only;omega,hw1,fun q h=>h,fun q h=>?_,fun x hx=>by simp at hx,by dsimp only;omega⟩ ?_
    ·rcases hq q h with h|h
     ·rcases hpop _ h with h|h
      ·exact .inl h
      ·exact .inr (.inl h)
     ·exact .inr (.inr h)
    rintro⟨sn2,op2,i⟩ ⟨i0,i1,hw2,hm,hq2,hls,hms⟩
    dsimp only at i0 i1 hw2 hm hq2 hls hms⊢
    have sl2:=hw2.len
    have hcn2:=hw2.cnt
    refine⟨fun hc=>Ak.of ?_,fun hc=>?_⟩
    ·have hc:=of_decide_eq_true hc
     have htk:=EU i0 hc
     have hx:=hlt _ (Hp (l:=ls) (i:=i.toNat) (d:=0) (by omega))
     rw[w64 (by omega) (by omega),sl2]
     generalize ls.getD i.toNat 0=x at hx htk⊢
     obtain⟨x0,x1,xe⟩:=hx
     refine⟨⟨i0,hc⟩,by omega,⟨x0,x1⟩,by omega,Ak.of ⟨fun hb=>⟨⟨x0,x1⟩,by omega,?_,⟨by omega,by omega,?_,fun q h=>?_,fun q h=>?_,fun x' hx'=>?_,?_⟩,by omega⟩,fun hb=>⟨⟨by omega,by omega,hw2,hm,hq2,fun x' hx'=>?_,hms⟩,by omega⟩⟩⟩
     ·simp only[List.length_cons,List.length_nil];omega
     ·refine hw2.push x0 x1 (by simpa[-List.getD_eq_getElem?_getD]using hb) ?_
      have hyop:∃p:Nat,(p:Int)∈fr∧Jm A st en p y.toNat:=hw.snd _ (hysn _ hon)
      obtain⟨p,p1,p2⟩:=hyop
      exact⟨p,p1,p2.tail xe⟩
     ·rw[BK (by omega)]
      split
      ·rfl
      ·exact hm q h
     ·rw[BK (by omega)]at h
      split at h
      ·rename_i e
       left
       exact List.mem_append.2 (.inr (List.mem_singleton.2 (by omega)))
      ·rcases hq2 q h with h|h|h
       ·exact .inl (List.mem_append.2 (.inl h))
       ·exact .inr (.inl h)
       ·refine .inr (.inr fun j hj=>?_)
        rw[BK (by omega)]
        split
        ·rfl
        ·exact h j hj
     ·rw[htk]at hx'
      rw[BK (by omega)]
      split
      ·rfl
      ·rename_i e
       rcases List.mem_append.1 hx' with h|h
       ·exact hls _ h
       ·rw[List.mem_singleton.1 h]at e;exact(e rfl).elim
     ·have hcc:=EC (l:=sn2) (i:=x.toNat) (by omega) (by simpa[-List.getD_eq_getElem?_getD]using hb)
      simp only[List.length_append,List.length_cons,List.length_nil]
      omega
     ·rw[htk]at hx'
      rcases List.mem_append.1 hx' with h|h
      ·exact hls _ h
      ·rw[List.mem_singleton.1 h];simpa[-List.getD_eq_getElem?_getD]using hb
    ·have hc:=of_decide_eq_false hc
     rw[List.take_of_length_le (by omega)]at hls
     refine⟨⟨hw2,fun q h=>?_⟩,hms⟩
     rcases hq2 q h with h|h|h
     ·exact .inl h
     ·refine .inr fun j hj=>?_
      have:q=y.toNat:=by omega
      subst this
      have:=hls _ (hiff j hj)
      rwa [show((j:Int)).toNat=j by omega]at this
     ·exact .inr h
   ·have hc:=of_decide_eq_false hc
    have:op=[]:=List.eq_nil_of_length_eq_zero (by omega)
    subst this
    exact⟨hw,fun q h=>(hq q h).elim (fun h=>by cases h) id⟩
  ·rintro sn ⟨hw,hcl⟩
   have sl:=hw.len
   refine Ak.mid (fun d=>d=Jn sn sn.length) (Xh (out:=sn) (K:=fun d=>d=Jn sn sn.length) (by omega) rfl) ?_
   rintro d rfl
   refine⟨fun nv=>(nv v).elim,fun _=>⟨fun⟨k,k1,k2⟩=>?_,fun _=>⟨rfl,sn,sl,fun q hq2=>?_,by dsimp only;rw[sl]⟩⟩⟩
   ·have:=hk k k1;dsimp only at k2;omega
   ·constructor
    ·exact hw.snd q
    ·rintro⟨p,p1,p2⟩
     induction p2 with
     |refl=>have:=hw.from_ _ p1;rwa [show((p:Int)).toNat=p by omega]at this
     |tail r e ih=>
      have:=hk _ p1
      exact hcl _ (ih (Ws hA (by omega) r)) _ e
end Go.VS
