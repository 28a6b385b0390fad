import Derived.Test.YtfkfmokccekccaaGreatDoorFwD
import Derived.IntWalk
import Derived.Test.YtfkfmokccekccaaGreatDoorKGf0
import Derived.Test.YtfkfmokccekccaaGreatDoorKGf1
/- Rules for lifted functions; numbers; lists. -/
set_option linter.unusedVariables false
set_option linter.unusedSimpArgs false
namespace Go.VS
theorem Ac.of{D:Type}{body:(D→Prop)→Prop}{rest:D→Prop}(h:body rest):Ac body rest:=⟨rest,h,fun _ h=>h⟩
theorem Ac.mid{D:Type}{body:(D→Prop)→Prop}{rest:D→Prop}(J:D→Prop)(h:body J)(h2:∀d,J d→rest d):Ac body rest:=⟨J,h,h2⟩
theorem Au.of{D:Type}{x:D}{body:D→(D→Prop)→Prop}(I:D→Prop)(m:D→Nat)(h0:I x)(hs:∀d,I d→body d fun d'=>I d'∧m d'<m d):Au x body:=by
 refine⟨fun n d=>I d∧m d=n,⟨_,h0,rfl⟩,?_⟩
 rintro n d ⟨hI,rfl⟩
 have:(fun d'=>∃k,k<m d∧I d'∧m d'=k)=fun d'=>I d'∧m d'<m d:=by
  funext d'
  exact propext ⟨fun⟨k,h1,h2,h3⟩=>⟨h2,by omega⟩,fun⟨h1,h2⟩=>⟨_,h2,h1,rfl⟩⟩
 rw[this]
 exact hs d hI
theorem Fn.to{P:Pg}{nm:String}{S:Sig}{x:DP S.ps}{K K':DP S.rs→DP (ptrs S.ps)→Prop}(h:Fn P nm S x K)(hk:∀d e,K d e→K' d e):Fn P nm S x K':=h.mono hk
theorem w64{n:Int}(h1:-9223372036854775808≤n)(h2:n≤9223372036854775807):IntKind.i64.wrap n=n:=by rw[IntKind.wrap_i64];omega
theorem AnS{n:Int}(h1:0≤n)(h2:n≤18446744073709551615):IntKind.u64.wrap n=n:=by rw[IntKind.wrap_u64];omega
theorem getD_eq{α:Type}{l:List α}{i:Nat}{d:α}(h:i<l.length):l.getD i d=l[i]:=by simp[List.getD_eq_getElem?_getD,List.getElem?_eq_getElem h]
theorem A7{α:Type}{l:List α}{i:Nat}{d:α}(h:i<l.length):l.getD i d∈l:=by rw[getD_eq h];exact List.getElem_mem h
end Go.VS

/- A number brought into a range. -/
set_option linter.unusedVariables false
set_option linter.unusedSimpArgs false
namespace Go.VS
variable{P:Pg}
@[irreducible] def G1(a n:Int):Int:=IntKind.i64.wrap (Int.tmod (IntKind.u64.wrap a) (IntKind.u64.wrap n))
theorem YH(n:Int):0≤IntKind.u64.wrap n∧IntKind.u64.wrap n≤18446744073709551615:=by rw[IntKind.wrap_u64];omega
theorem EU{a n:Int}(h1:1≤n)(h2:n≤9223372036854775807):0≤G1 a n∧G1 a n<n:=by
 unfold G1
 rw[AnS (n:=n) (by omega) (by omega)]
 have h:=YH a
 rw[Int.tmod_eq_emod_of_nonneg h.1]
 have e1:=Int.emod_nonneg (IntKind.u64.wrap a) (show n≠0 by omega)
 have e2:=Int.emod_lt_of_pos (IntKind.u64.wrap a) (show 0<n by omega)
 rw[w64 (by omega) (by omega)]
 exact⟨e1,e2⟩
def LV(P:Pg):Prop:=∀x:Int×Int,1≤x.2→x.2≤9223372036854775807→Fn P zS1 Cb x fun d _=>d=G1 x.1 x.2
theorem AmM(h:Has P NZ):LV P:=by
 intro x h1 h2
 refine Adt h ?_
 unfold XF
 exact⟨by rw[AnS (by omega) (by omega)];omega,by unfold G1;rfl⟩
theorem LV.at(h:LV P){a n:Int}(h1:1≤n)(h2:n≤9223372036854775807){K:Int→Unit→Prop}(hk:K (G1 a n) ()):Fn P zS1 Cb (a,n) K:=(h (a,n) h1 h2).to fun(d:Int) e hd=>by
 have hd:d=G1 a n:=hd
 subst hd;exact hk
end Go.VS

/- Numbers in texts; bytes. -/
set_option linter.unusedVariables false
set_option linter.unusedSimpArgs false
namespace Go.VS
variable{P:Pg}
abbrev Bs:=List UInt8
end Go.VS

/- Paths: names between separators. -/
set_option linter.unusedVariables false
set_option linter.unusedSimpArgs false
namespace Go.VS
variable{P:Pg}
def spN(acc:Bs):Bs→List Bs
 |[]=>[acc]
 |b::r=>if b=47 then acc::spN [] r else spN (acc++[b]) r
def Gu(n:Bs):Bool:=!(n==[]||n==[46]||n==[46,46])
def CO(s:Bs):Int:=if s.length>200∨(0:UInt8)∈s then 210 else if(spN [] s).all Gu then 0 else 210
def Gl(P:Pg):Prop:=∀s:Bs,s.length≤140737488351232→Fn P AeI DU s fun(d:Int) _=>d=CO s
theorem Aci:∀(l acc r:Bs),(∀b∈l,b≠47)→spN acc (l++47::r)=(acc++l)::spN [] r
 |[],acc,r,h=>by rw[List.nil_append,spN,if_pos rfl];simp
 |b::l,acc,r,h=>by
  rw[List.cons_append,spN,if_neg (h b (List.mem_cons_self ..)),Aci l _ r fun c hc=>h c (List.mem_cons_of_mem _ hc)]
  simp
theorem Ai3:∀(l acc:Bs),(∀b∈l,b≠47)→spN acc l=[acc++l]
 |[],acc,h=>by simp[spN]
 |b::l,acc,h=>by
  rw[spN,if_neg (h b (List.mem_cons_self ..)),Ai3 l _ fun c hc=>h c (List.mem_cons_of_mem _ hc)]
  simp
theorem AlH:∀s:Bs,(∀b∈s,b≠47)∨∃l r,s=l++47::r∧∀b∈l,b≠47
 |[]=>.inl (by simp)
 |b::s=>by
  by_cases hb:b=47
  ·subst hb;exact .inr ⟨[],s,rfl,by simp⟩
  ·rcases AlH s with h|⟨l,r,rfl,h⟩
   ·refine .inl fun c hc=>?_
    rcases List.mem_cons.1 hc with rfl|hc
    ·exact hb
    ·exact h c hc
   ·refine .inr ⟨b::l,r,rfl,fun c hc=>?_⟩
    rcases List.mem_cons.1 hc with rfl|hc
    ·exact hb
    ·exact h c hc
end Go.VS

/- Trees of files: in order, and none under another. -/
set_option linter.unusedVariables false
set_option linter.unusedSimpArgs false
namespace Go.VS
variable{P:Pg}
abbrev Ao:=Bs×Bs
def Bq:List Ao→Bs→Option Bs
 |[],_=>none
 |f::r,p=>match Bq r p with
  |some v=>some v
  |none=>if p=f.1 then some f.2 else none
def Afa(l:List Ao)(p:Bs):Bool:=(List.range p.length).any fun i=>(Bq l (p.take i)).isSome&&(p.getD i 0==47)
def VB(l:List Ao):Bool:=(List.range l.length).all fun i=>(i==0||Op.bytesLess (l.getD (i -1) ([],[])).1 (l.getD i ([],[])).1)&&!Afa l (l.getD i ([],[])).1
def Pl(P:Pg):Prop:=∀l:List Ao,l.length≤1000000→(∀f∈l,f.1.length≤140737488351232∧f.2.length≤140737488351232)→Fn P "mergelens/tree.ordered" Gk l fun(d:Bool) _=>d=VB l
end Go.VS

/- The document's reader of paths. -/
set_option linter.unusedVariables false
set_option linter.unusedSimpArgs false
namespace Go.VS
variable{P:Pg}
theorem Alf(acc r:Bs):spN acc (47::r)=acc::spN [] r:=by rw[spN,if_pos rfl]
theorem Alg{b:UInt8}(h:b≠47)(acc r:Bs):spN acc (b::r)=spN (acc++[b]) r:=by rw[spN,if_neg h]
theorem XQ{s:Bs}{i:Nat}(h:i<s.length):s.drop i=s.getD i 0::s.drop (i+1):=by
 rw[List.drop_eq_getElem_cons h,List.getD_eq_getElem?_getD,List.getElem?_eq_getElem h,Option.getD_some]
theorem Sn{s:Bs}{i:Nat}(h:i<s.length):s.take (i+1)=s.take i++[s.getD i 0]:=by
 rw[List.take_add_one,List.getElem?_eq_getElem h,List.getD_eq_getElem?_getD,List.getElem?_eq_getElem h]
 rfl
theorem Akg{s:Bs}{i:Nat}(h:i<s.length):List.drop i (List.take (i+1) s)=[s.getD i 0]:=by
 rw[Sn h,List.drop_append_of_le_length (by rw[List.length_take];omega),List.drop_eq_nil_of_le (by rw[List.length_take];omega)]
 rfl
theorem byI(b c:UInt8):(((b.toNat:Nat):Int)==((c.toNat:Nat):Int))=(b==c):=by
 by_cases h:b=c
 ·subst h;simp
 ·rw[show(b==c)=false from beq_eq_false_iff_ne.2 h,beq_eq_false_iff_ne]
  intro e
  exact h (UInt8.toNat_inj.1 (by omega))
theorem by0(b:UInt8):(((b.toNat:Nat):Int)==(0:Int))=(b==0):=byI b 0
theorem Anh(b:UInt8):(((b.toNat:Nat):Int)==(47:Int))=(b==47):=byI b 47
theorem Aaq(n:Bs):(cond (cond (n==([]:Bs)) true (n==([46]:Bs))) true (n==([46,46]:Bs)))=!Gu n:=by
 unfold Gu
 cases n==([]:Bs)<;>cases n==([46]:Bs)<;>cases n==([46,46]:Bs)<;>rfl
theorem AbK{s:Bs}(h:(spN [] s).all Gu=false):CO s=210:=by
 unfold CO
 split
 ·rfl
 ·rw[if_neg (by rw[h];simp)]
def Ft(P:Pg):Prop:=∀s:Bs,s.length≤140737488351232→Fn P AcH C3 s fun(d:Int) _=>d=CO s
theorem Xs(h:Has P EB):Ft P:=by
 intro s hs
 refine Pv h ?_
 unfold JY
 refine⟨fun hc=>?_,fun hc=>?_⟩
 ·rw[Bool.cond_eq_ite]at hc
  split at hc
  ·rename_i h1
   have h1:=of_decide_eq_true h1
   obtain rfl:s=[]:=List.length_eq_zero_iff.1 (by omega)
   decide
  ·have h2:=of_decide_eq_true hc
   unfold CO
   rw[if_pos (.inl (by omega))]
 have hl:1≤s.length∧s.length≤200:=by
  rw[Bool.cond_eq_ite]at hc
  split at hc
  ·cases hc
  ·rename_i h1
   have h2:=of_decide_eq_false hc
   have h1:¬((s.length:Int)<1):=fun h=>h1 (decide_eq_true h)
   omega
 clear hc
 refine Ac.mid (fun _=>CO s=0) ?_ fun _ h=>h.symm
 refine Au.of (fun q=>(0≤q.2.2∧q.2.2≤s.length+1∧(q.2.1.length:Int)≤q.2.2)∧(∀b∈s.take q.2.2.toNat,b≠0)∧(spN [] s).all Gu=if q.2.2≤s.length then(spN q.2.1 (s.drop q.2.2.toNat)).all Gu else true) (fun q=>(s.length+1 -q.2.2).toNat) ⟨⟨Int.le_refl _,by dsimp only;omega,by simp⟩,by simp,by simp⟩ ?_
 rintro⟨q1,nm,i⟩ ⟨⟨i0,i1,hnl⟩,hz,hal⟩
 dsimp only at i0 i1 hnl hz hal⊢
 have e1:(i+1).toNat=i.toNat+1:=by omega
 refine⟨fun hi=>?_,fun hi=>?_⟩
 ·have hi:=of_decide_eq_true hi
  rw[if_pos hi]at hal
  refine Ac.mid (fun q=>(q.2.length:Int)≤i+1∧(∀b∈s.take (i.toNat+1),b≠0)∧(spN [] s).all Gu=if i+1≤s.length then(spN q.2 (s.drop (i.toNat+1))).all Gu else true) ?_ ?_
  ·by_cases hlt:i<s.length
   ·have hn:i.toNat<s.length:=by omega
    rw[show decide (i<((List.length s:Nat):Int))=true from decide_eq_true hlt,w64 (n:=i+1) (by omega) (by omega),e1]
    simp only[cond_true]
    rw[by0,show((((UInt8.toNat (List.getD s i.toNat 0):Nat):Int) !=47))=!(List.getD s i.toNat 0==47)from by rw[bne,Anh]]
    rw[XQ hn]at hal
    rw[if_pos (by omega),Sn hn]
    generalize hb:s.getD i.toNat 0=b at hal⊢
    have hz2:b≠0→∀c∈s.take i.toNat++[b],c≠0:=fun hb0 c hc=>by
     rcases List.mem_append.1 hc with hc|hc
     ·exact hz c hc
     ·rw[List.mem_singleton.1 hc];exact hb0
    refine⟨fun _=>⟨i0,hlt⟩,fun h0=>?_,fun h0=>⟨fun _=>⟨i0,hlt⟩,fun h4=>?_,fun h4=>?_⟩⟩
    ·have h0:b=0:=eq_of_beq h0
     unfold CO
     rw[if_pos (.inr (by rw[←h0,←hb];exact A7 hn))]
    ·have h0:b≠0:=beq_eq_false_iff_ne.1 h0
     have h4:b≠47:=by simpa using h4
     rw[show List.drop i.toNat (s.take i.toNat++[b])=[b]from by rw[←hb,←Sn hn,Akg hn]]
     refine⟨⟨i0,by omega,by omega⟩,by simp only[List.length_cons,List.length_nil];omega,?_,hz2 h0,?_⟩
     ·rw[List.length_append]
      simp only[List.length_cons,List.length_nil]
      omega
     ·rw[hal,Alg h4]
    ·have h0:b≠0:=beq_eq_false_iff_ne.1 h0
     have h4:b=47:=by simpa using h4
     subst h4
     rw[Alf,List.all_cons]at hal
     rw[Aaq]
     refine⟨fun hg=>?_,fun hg=>⟨by simp;omega,hz2 h0,?_⟩⟩
     ·have hg:Gu nm=false:=by simpa using hg
      exact(AbK (by rw[hal,hg];rfl)).symm
     ·have hg:Gu nm=true:=by simpa using hg
      rw[hal,hg,Bool.true_and,if_pos (by omega)]
   ·have hn:i.toNat=s.length:=by omega
    rw[show decide (i<((List.length s:Nat):Int))=false from decide_eq_false hlt]
    simp only[cond_false]
    rw[hn,List.drop_length,spN,List.all_cons,List.all_nil,Bool.and_true]at hal
    rw[Aaq]
    refine⟨fun h=>(nomatch h),fun h=>(nomatch h),fun _=>⟨fun h=>(nomatch h),fun h=>(nomatch h),fun _=>⟨fun hg=>?_,fun hg=>⟨by simp;omega,?_,?_⟩⟩⟩⟩
    ·have hg:Gu nm=false:=by simpa using hg
     exact(AbK (by rw[hal,hg])).symm
    ·intro c hc
     rw[List.take_of_length_le (by omega)]at hc
     refine hz c ?_
     rw[List.take_of_length_le (by omega)]
     exact hc
    ·have hg:Gu nm=true:=by simpa using hg
     rw[if_neg (by omega),hal,hg]
  ·rintro⟨q1',nm'⟩ ⟨h1,h2,h3⟩
   dsimp only at h1 h2 h3⊢
   rw[w64 (by omega) (by omega),e1]
   exact⟨⟨⟨by omega,by omega,h1⟩,h2,h3⟩,by omega⟩
 ·have hi:=of_decide_eq_false hi
  rw[if_neg hi]at hal
  rw[List.take_of_length_le (by omega)]at hz
  unfold CO
  rw[if_neg (by rintro(h1|h1);omega;exact hz 0 h1 rfl),if_pos hal]
theorem Gl.at(h:Gl P){s:Bs}(hs:s.length≤140737488351232){K:Int→Unit→Prop}(hk:K (CO s) ()):Fn P AeI DU s K:=
 (h s hs).to fun(d:Int) _ hd=>by
  have hd:d=CO s:=hd
  subst hd
  exact hk
theorem Ft.at(h:Ft P){s:Bs}(hs:s.length≤140737488351232){K:Int→Unit→Prop}(hk:K (CO s) ()):Fn P AcH C3 s K:=
 (h s hs).to fun(d:Int) _ hd=>by
  have hd:d=CO s:=hd
  subst hd
  exact hk
end Go.VS

/- Numbers made of raw numbers; sets of bytes. -/
set_option linter.unusedVariables false
set_option linter.unusedSimpArgs false
namespace Go.VS
variable{P:Pg}
@[irreducible] def atX(raw:List Int)(k:Int):Int:=
 if((List.length raw:Nat):Int)>0 then(IntKind.u64.wrap ((BitVec.toNat (BitVec.ofInt IntKind.u64.bits (IntKind.u64.wrap ((IntKind.u64.wrap (IntKind.i64.wrap (k+(1:Int))))*(11400714819323198485:Int)))^^^BitVec.ofInt IntKind.u64.bits (IntKind.u64.wrap (List.getD raw (Int.toNat (Int.tmod k ((List.length raw:Nat):Int))) (0:Int)))):Nat):Int))
 else(IntKind.u64.wrap ((IntKind.u64.wrap (IntKind.i64.wrap (k+(1:Int))))*(11400714819323198485:Int)))
@[irreducible] def atY(d2:Int):Int:=IntKind.u64.wrap ((BitVec.toNat (BitVec.ofInt IntKind.u64.bits (IntKind.u64.wrap ((IntKind.u64.wrap ((BitVec.toNat (BitVec.ofInt IntKind.u64.bits d2^^^BitVec.ofInt IntKind.u64.bits (Int.fdiv d2 (2^(min (Int.toNat (31:Int)) IntKind.u64.bits)))):Nat):Int))*(13787848793156543929:Int)))^^^BitVec.ofInt IntKind.u64.bits (Int.fdiv (IntKind.u64.wrap ((IntKind.u64.wrap ((BitVec.toNat (BitVec.ofInt IntKind.u64.bits d2^^^BitVec.ofInt IntKind.u64.bits (Int.fdiv d2 (2^(min (Int.toNat (31:Int)) IntKind.u64.bits)))):Nat):Int))*(13787848793156543929:Int))) (2^(min (Int.toNat (29:Int)) IntKind.u64.bits)))):Nat):Int)
@[irreducible] def atF(raw:List Int)(k:Int):Int:=IntKind.i64.wrap (Int.fdiv (atY (atX raw k)) (2^(min (Int.toNat (1:Int)) IntKind.u64.bits)))
def OB(P:Pg):Prop:=∀x:List Int×Int,0≤x.2→Fn P zS2 Bn x fun d _=>d=atF x.1 x.2
theorem AnJ(h:Has P P5):OB P:=by
 intro x h1
 refine Af7 h ?_
 unfold Aaj
 refine Ac.mid (fun d=>d=atX x.1 x.2) ⟨fun hc=>?_,fun hc=>?_⟩ fun d hd=>⟨by decide,by decide,by decide,?_⟩
 ·have hc:((List.length x.1:Nat):Int)>0:=of_decide_eq_true hc
  have e1:(Int.tmod x.2 ((List.length x.1:Nat):Int))=x.2%(List.length x.1:Nat):=Int.tmod_eq_emod_of_nonneg h1
  have e2:=Int.emod_nonneg x.2 (show((List.length x.1:Nat):Int)≠0 by omega)
  have e3:=Int.emod_lt_of_pos x.2 hc
  refine⟨by omega,by omega,by omega,?_⟩
  unfold atX
  rw[if_pos hc]
 ·have hc:¬((List.length x.1:Nat):Int)>0:=of_decide_eq_false hc
  unfold atX
  rw[if_neg hc]
 ·subst hd;unfold atF atY;rfl
theorem OB.at(h:OB P){raw:List Int}{k:Int}(h1:0≤k){K:Int→Unit→Prop}(hk:K (atF raw k) ()):Fn P zS2 Bn (raw,k) K:=(h (raw,k) h1).to fun(d:Int) e hd=>by
 have hd:d=atF raw k:=hd
 subst hd;exact hk
end Go.VS

/- The lines of a text. -/
set_option linter.unusedVariables false
set_option linter.unusedSimpArgs false
namespace Go.VS
variable{P:Pg}
def lnN(acc:Bs):Bs→List Bs
 |[]=>[]
 |b::r=>if b=10∨r=[]then(acc++[b])::lnN [] r else lnN (acc++[b]) r
def lnF(s:Bs):List Bs:=lnN [] s
def IV(P:Pg):Prop:=∀s:Bs,s.length≤100000000→Fn P zS7 CQ s fun(d:List Bs) _=>d=lnF s
theorem AnL{s:Bs}{i:Nat}(h:i<s.length):List.take (i+1) s=List.take i s++[s.getD i 0]:=by
 rw[List.take_add_one,List.getElem?_eq_getElem h,List.getD_eq_getElem?_getD,List.getElem?_eq_getElem h]
 rfl
theorem Ael(h:Has P Hd):IV P:=by
 intro s hs
 refine UN h ?_
 unfold OH
 refine Ac.mid (fun q=>q=lnF s) ?_ fun q hq=>hq
 refine Au.of (fun q=>0≤q.2.1∧q.2.1≤q.2.2∧q.2.2≤s.length∧(q.1.length:Int)≤q.2.2∧q.1++lnN (List.drop q.2.1.toNat (List.take q.2.2.toNat s)) (s.drop q.2.2.toNat)=lnF s) (fun q=>(s.length -q.2.2).toNat) ⟨by decide,by decide,by dsimp only;omega,by simp,by simp[lnF]⟩ ?_
 rintro⟨o,f,i⟩ ⟨f0,f1,i1,ho,e⟩
 dsimp only at f0 f1 i1 ho e⊢
 refine⟨fun hc=>?_,fun hc=>?_⟩
 ·have hc:=of_decide_eq_true hc
  rw[w64 (n:=i+1) (by omega) (by omega)]
  have hi:i.toNat<s.length:=by omega
  have hd:s.drop i.toNat=s.getD i.toNat 0::s.drop (i.toNat+1):=by
   rw[List.drop_eq_getElem_cons hi,List.getD_eq_getElem?_getD,List.getElem?_eq_getElem hi,Option.getD_some]
  have e1:(i+1).toNat=i.toNat+1:=by omega
  have hdr:List.drop f.toNat (List.take (i.toNat+1) s)=List.drop f.toNat (List.take i.toNat s)++[s.getD i.toNat 0]:=by
   rw[AnL hi,List.drop_append_of_le_length (by rw[List.length_take];omega)]
  rw[hd,lnN]at e
  have hnil:s.drop (i.toNat+1)=[]↔i+1=s.length:=by
   rw[List.drop_eq_nil_iff];omega
  refine Ac.mid (fun q=>0≤q.2∧q.2≤i+1∧(q.1.length:Int)≤i+1∧q.1++lnN (List.drop q.2.toNat (List.take (i.toNat+1) s)) (s.drop (i.toNat+1))=lnF s) ⟨⟨by omega,hc⟩,Ac.of ⟨fun hb=>?_,fun hb=>?_⟩⟩ ?_
  ·rw[if_pos (by
    simp at hb
    rcases hb with hb|hb
    ·refine Or.inl ?_
     rw[List.getD_eq_getElem?_getD]
     exact UInt8.toNat_inj.1 (by rw[show(10:UInt8).toNat=10 from rfl];omega)
    ·exact Or.inr (hnil.2 hb))]at e
   refine⟨⟨f0,by omega,by omega⟩,by simp only[List.length_cons,List.length_nil];omega,by dsimp only;omega,by dsimp only;omega,?_,?_⟩
   ·simp only[List.length_append,List.length_cons,List.length_nil];omega
   ·dsimp only
    rw[e1,hdr,show List.drop (i.toNat+1) (List.take (i.toNat+1) s)=[]by rw[List.drop_eq_nil_iff,List.length_take];omega,←e]
    simp only[List.append_assoc,List.singleton_append]
  ·rw[if_neg (by
    simp at hb
    rintro(hh|hh)
    ·rw[List.getD_eq_getElem?_getD]at hh
     exact hb.1 (by rw[hh];rfl)
    ·exact hb.2 (hnil.1 hh))]at e
   refine⟨f0,by dsimp only;omega,by dsimp only;omega,?_⟩
   dsimp only
   rw[hdr]
   exact e
  ·rintro⟨o',f'⟩ ⟨k1,k2,k3,k4⟩
   dsimp only at k1 k2 k3 k4⊢
   exact⟨⟨k1,k2,by omega,k3,by rw[e1];exact k4⟩,by omega⟩
 ·have hc:=of_decide_eq_false hc
  rw[show i.toNat=s.length by omega,List.drop_length,lnN,List.append_nil]at e
  exact e
def ApM(P:Pg):Prop:=∀k:Int,Fn P Aad FO k fun(d:Bs) _=>d.length≤3
theorem Ass(h:Has P LM)(hM:LV P):ApM P:=by
 intro k
 refine AaO h ?_
 unfold Ug
 refine hM.at (by decide) (by decide) ?_
 have hr:=EU (a:=k) (n:=10) (by decide) (by decide)
 generalize G1 k 10=m at*
 refine⟨⟨by omega,by simp;omega⟩,by simp;omega,?_⟩
 have:m=0∨m=1∨m=2∨m=3∨m=4∨m=5∨m=6∨m=7∨m=8∨m=9:=by omega
 rcases this with rfl|rfl|rfl|rfl|rfl|rfl|rfl|rfl|rfl|rfl<;>decide
end Go.VS

/- Texts as the library cuts them into lines. -/
set_option linter.unusedVariables false
set_option linter.unusedSimpArgs false
namespace Go.VS
variable{P:Pg}
def saN(acc:Bs):Bs→List Bs
 |[]=>[acc]
 |b::r=>if b=10 then(acc++[b])::saN [] r else saN (acc++[b]) r
def saF(s:Bs):List Bs:=saN [] s
def Qy(s:Bs):Bool:=([10]:Bs).isSuffixOf s
def IQ(P:Pg):Prop:=∀s:Bs,Fn P "strings.Count" Ek (s,[10]) fun(d:Int) _=>d=((s.count 10:Nat):Int)
def HM(P:Pg):Prop:=∀s:Bs,s.length≤140737488351232→Fn P "strings.HasSuffix" C7 (s,[10]) fun(d:Bool) _=>d=Qy s
def El(P:Pg):Prop:=∀s:Bs,s.length≤4000000000→Fn P "strings.SplitAfter" DF (s,[10]) fun(d:List Bs) _=>d=saF s
theorem IQ.at(h:IQ P){s:Bs}{K:Int→Unit→Prop}(hk:K ((s.count 10:Nat):Int) ()):Fn P "strings.Count" Ek (s,[10]) K:=
 (h s).to fun(d:Int) _ hd=>by
  have hd:d=((s.count 10:Nat):Int):=hd
  subst hd
  exact hk
theorem HM.at(h:HM P){s:Bs}(hs:s.length≤140737488351232){K:Bool→Unit→Prop}(hk:K (Qy s) ()):Fn P "strings.HasSuffix" C7 (s,[10]) K:=
 (h s hs).to fun(d:Bool) _ hd=>by
  have hd:d=Qy s:=hd
  subst hd
  exact hk
theorem El.at(h:El P){s:Bs}(hs:s.length≤4000000000){K:List Bs→Unit→Prop}(hk:K (saF s) ()):Fn P "strings.SplitAfter" DF (s,[10]) K:=
 (h s hs).to fun(d:List Bs) _ hd=>by
  have hd:d=saF s:=hd
  subst hd
  exact hk
theorem ZS:∀(s acc:Bs),saN acc s≠[]
 |[],_=>by simp[saN]
 |b::r,acc=>by
  rw[saN]
  split
  ·simp
  ·exact ZS r _
theorem Age{α:Type}(a:α)(l:List α)(d:α)(h:l≠[]):(a::l).getD ((a::l).length -1) d=l.getD (l.length -1) d:=by
 cases l with
 |nil=>exact absurd rfl h
 |cons b l=>rfl
theorem Uy{α:Type}(a:α)(l:List α)(h:l≠[]):(a::l).dropLast=a::l.dropLast:=by
 cases l with
 |nil=>exact absurd rfl h
 |cons b l=>rfl
theorem AdH:∀(s acc:Bs),(s=[]→acc=[])→lnN acc s=if(saN acc s).getD ((saN acc s).length -1) []=[]then(saN acc s).dropLast else saN acc s
 |[],acc,h=>by
  rw[h rfl]
  rfl
 |b::r,acc,h=>by
  rw[lnN,saN]
  by_cases hb:b=10
  ·have ih:=AdH r [] fun _=>rfl
   rw[if_pos (.inl hb),if_pos hb,Age _ _ _ (ZS r []),Uy _ _ (ZS r []),ih]
   split<;>rfl
  ·rw[if_neg hb]
   by_cases hr:r=[]
   ·subst hr
    rw[if_pos (.inr rfl)]
    simp[saN,lnN]
   ·rw[if_neg (by rintro(h1|h1);exact hb h1;exact hr h1)]
    exact AdH r (acc++[b]) fun h1=>absurd h1 hr
theorem Aiw(s:Bs):lnF s=if(saF s).getD ((saF s).length -1) []=[]then(saF s).dropLast else saF s:=AdH s [] fun _=>rfl
theorem RO(l:Bs)(b:UInt8):Qy (l++[b])=(b==10):=by
 unfold Qy
 by_cases h:b=10
 ·subst h
  rw[show((10:UInt8)==10)=true from rfl,List.isSuffixOf_iff_suffix]
  exact List.suffix_append ..
 ·rw[show(b==10)=false by simpa using h,Bool.eq_false_iff]
  intro hs
  rw[List.isSuffixOf_iff_suffix]at hs
  obtain⟨t,ht⟩:=hs
  have:=congrArg List.getLast? ht
  simp at this
  exact h this.symm
theorem Zw:∀(s acc:Bs),(lnN acc s).length=s.count 10+(if s≠[]∧Qy s=false then 1 else 0)
 |[],acc=>by rw[if_neg (by simp)];rfl
 |b::r,acc=>by
  rw[lnN]
  rcases List.eq_nil_or_concat r with rfl|⟨l,c,rfl⟩
  ·rw[if_pos (.inr rfl),show[b]=([]:Bs)++[b]from rfl,RO]
   by_cases hb:b=10
   ·subst hb;rfl
   ·rw[show(b==10)=false by simpa using hb]
    simp[lnN,hb]
  ·have e1:Qy (b::l.concat c)=Qy (l.concat c):=by
    rw[List.concat_eq_append,←List.cons_append,RO,RO]
   have hne:l.concat c≠[]:=by simp
   by_cases hb:b=10
   ·subst hb
    rw[if_pos (.inl rfl),List.length_cons,Zw (l.concat c) [],e1,List.count_cons_self]
    simp only[ne_eq,hne,not_false_eq_true,true_and,List.cons_ne_nil]
    omega
   ·rw[if_neg (by rintro(h1|h1);exact hb h1;exact hne h1),Zw (l.concat c) _,e1,List.count_cons_of_ne (by simpa using hb)]
    simp only[ne_eq,hne,not_false_eq_true,true_and,List.cons_ne_nil]
theorem Ae6(s:Bs):(lnF s).length=s.count 10+(if s≠[]∧Qy s=false then 1 else 0):=Zw s []
def Ry(P:Pg):Prop:=∀s:Bs,s.length≤140737488351232→Fn P AeH Gj s fun(d:Bool) _=>d=Qy s
theorem Ag3(h:Has P Ij)(hS:HM P):Ry P:=by
 intro s hs
 refine WH h ?_
 unfold Ql
 exact hS.at hs rfl
def B6(s:Bs):Int:=if s.length>1048576∨(lnF s).length>4096 then 1 else 0
def N1(P:Pg):Prop:=∀s:Bs,s.length≤140737488351232→Fn P AcG Ea s fun(d:Int) _=>d=B6 s
theorem Ag2(h:Has P Ii)(hC:IQ P)(hE:Ry P):N1 P:=by
 intro s hs
 refine WG h ?_
 unfold Qk
 refine hC.at ?_
 have hcl:=List.count_le_length (a:=(10:UInt8)) (l:=s)
 have hl:=Ae6 s
 refine Ac.mid (fun d=>(!(s==([]:Bs)))=true→d=Qy s) ⟨fun _=>(hE s hs).to fun(d:Bool) _ hd _=>hd,(by intro hc hc2;rw[hc]at hc2;cases hc2),trivial⟩ ?_
 intro d hd
 have hfin:∀n:Int,n=((lnF s).length:Nat)→((cond (decide (((List.length s:Nat):Int)>(1048576:Int))) true (decide (n>(4096:Int))))=true→(1:Int)=B6 s)∧((cond (decide (((List.length s:Nat):Int)>(1048576:Int))) true (decide (n>(4096:Int))))=false→(0:Int)=B6 s):=by
  rintro n rfl
  unfold B6
  by_cases h1:s.length>1048576
  ·have e1:decide (((List.length s:Nat):Int)>(1048576:Int))=true:=decide_eq_true (by omega)
   rw[e1,if_pos (.inl h1)]
   exact⟨fun _=>rfl,fun h=>nomatch h⟩
  ·have e1:decide (((List.length s:Nat):Int)>(1048576:Int))=false:=decide_eq_false (by omega)
   rw[e1,cond_false]
   by_cases h2:(lnF s).length>4096
   ·rw[if_pos (.inr h2),show decide ((((lnF s).length:Nat):Int)>4096)=true from decide_eq_true (by omega)]
    exact⟨fun _=>rfl,fun h=>nomatch h⟩
   ·rw[if_neg (by omega),show decide ((((lnF s).length:Nat):Int)>4096)=false from decide_eq_false (by omega)]
    exact⟨(fun h=>nomatch h),fun _=>rfl⟩
 refine Ac.mid (fun n=>n=((lnF s).length:Nat)) ⟨fun hc=>?_,fun hc=>?_⟩ hfin
 ·by_cases hn:s=[]
  ·subst hn;cases hc
  ·have hb:(!(s==([]:Bs)))=true:=by simpa using hn
   rw[hb,cond_true]at hc
   have he:Qy s=false:=by rw[←hd hb];simpa using hc
   rw[w64 (by omega) (by omega),hl,if_pos ⟨hn,he⟩]
   omega
 ·by_cases hn:s=[]
  ·subst hn;rfl
  ·have hb:(!(s==([]:Bs)))=true:=by simpa using hn
   rw[hb,cond_true]at hc
   have he:Qy s=true:=by rw[←hd hb];simpa using hc
   rw[hl,if_neg (by rw[he];simp)]
   omega
def Ln(P:Pg):Prop:=∀s:Bs,s.length≤140737488351232→Fn P Aly DG s fun(d:List Bs×Int) _=>d=if B6 s=0 then(lnF s,0)else([],1)
theorem Ag4(h:Has P Ik)(hC:N1 P)(hS:El P):Ln P:=by
 intro s hs
 refine WI h ?_
 unfold Qm
 refine(hC s hs).to ?_
 rintro(d:Int) _ hd
 have hd:d=B6 s:=hd
 subst hd
 refine⟨fun hc=>?_,fun hc=>?_⟩
 ·have hc:B6 s≠0:=by simpa using hc
  rw[if_neg hc]
  unfold B6 at hc⊢
  split
  ·rfl
  ·rename_i h1;rw[if_neg h1]at hc;exact absurd rfl hc
 ·have hc:B6 s=0:=by simpa using hc
  rw[if_pos hc]
  have hl:s.length≤1048576:=by
   unfold B6 at hc
   split at hc
   ·cases hc
   ·omega
  refine hS.at (by omega) ?_
  have hne:=ZS s []
  have hpos:0<(saF s).length:=List.length_pos_iff.2 hne
  have hlen:(saF s).length≤s.length+1:=by
   have:∀(s acc:Bs),(saN acc s).length≤s.length+1:=by
    intro s
    induction s with
    |nil=>intro acc;simp[saN]
    |cons b r ih=>
     intro acc
     rw[saN]
     split
     ·have:=ih [];simp only[List.length_cons];omega
     ·have:=ih (acc++[b]);simp only[List.length_cons];omega
   exact this s []
  rw[w64 (n:=((saF s).length:Int) -1) (by omega) (by omega)]
  have e1:(((saF s).length:Int) -1).toNat=(saF s).length -1:=by omega
  rw[e1]
  refine⟨⟨by omega,by omega⟩,by omega,Ac.of ⟨fun hb=>⟨⟨by omega,by omega⟩,by omega,?_⟩,fun hb=>?_⟩⟩
  ·have hb:(saF s).getD ((saF s).length -1) []=[]:=by simpa using hb
   rw[Aiw,if_pos hb,List.drop_zero,List.dropLast_eq_take]
  ·have hb:¬(saF s).getD ((saF s).length -1) []=[]:=by simpa using hb
   rw[Aiw,if_neg hb]
theorem Ln.at(h:Ln P){s:Bs}(hs:s.length≤140737488351232){K:List Bs×Int→Unit→Prop}(hk:K (if B6 s=0 then(lnF s,0)else([],1)) ()):Fn P Aly DG s K:=
 (h s hs).to fun(d:List Bs×Int) _ hd=>by
  have hd:d=if B6 s=0 then(lnF s,0)else([],1):=hd
  subst hd
  exact hk
end Go.VS

/- Trees: which are valid. -/
set_option linter.unusedVariables false
set_option linter.unusedSimpArgs false
namespace Go.VS
variable{P:Pg}
theorem FV:∀x:Bs,Op.bytesLess x x=false
 |[]=>rfl
 |a::x=>by
  unfold Op.bytesLess
  rw[FV x]
  simp
theorem HN:∀{x y z:Bs},Op.bytesLess x y=true→Op.bytesLess y z=true→Op.bytesLess x z=true
 |x,y,[],_,h2=>by unfold Op.bytesLess at h2;cases y<;>cases h2
 |x,[],c::z,h1,_=>by unfold Op.bytesLess at h1;cases x<;>cases h1
 |[],b::y,c::z,_,_=>rfl
 |a::x,b::y,c::z,h1,h2=>by
  unfold Op.bytesLess at h1 h2⊢
  simp only[Bool.or_eq_true,Bool.and_eq_true,decide_eq_true_eq,beq_iff_eq]at h1 h2⊢
  rcases h1 with h1|⟨rfl,h1⟩
  ·rcases h2 with h2|⟨rfl,h2⟩
   ·exact .inl (UInt8.lt_trans h1 h2)
   ·exact .inl h1
  ·rcases h2 with h2|⟨rfl,h2⟩
   ·exact .inl h2
   ·exact .inr ⟨rfl,HN h1 h2⟩
theorem Qo:∀{x y:Bs},x≠y→Op.bytesLess x y=true∨Op.bytesLess y x=true
 |[],[],h=>absurd rfl h
 |[],b::y,_=>.inl rfl
 |a::x,[],_=>.inr rfl
 |a::x,b::y,h=>by
  unfold Op.bytesLess
  simp only[Bool.or_eq_true,Bool.and_eq_true,decide_eq_true_eq,beq_iff_eq]
  by_cases hab:a=b
  ·subst hab
   rcases Qo (x:=x) (y:=y) (fun e=>h (by rw[e]))with h1|h1
   ·exact .inl (.inr ⟨rfl,h1⟩)
   ·exact .inr (.inr ⟨rfl,h1⟩)
  ·rcases UInt8.lt_or_lt_of_ne hab with h1|h1
   ·exact .inl (.inl h1)
   ·exact .inr (.inl h1)
theorem XL:∀(x:Bs) (b:UInt8) (r:Bs),Op.bytesLess x (x++b::r)=true
 |[],b,r=>rfl
 |a::x,b,r=>by
  rw[List.cons_append]
  unfold Op.bytesLess
  rw[XL x b r]
  simp
theorem Akc{p:Bs}{j:Nat}(h:j<p.length):Op.bytesLess (p.take j) p=true:=by
 have:=XL (p.take j) (p.getD j 0) (p.drop (j+1))
 rwa [←XQ h,List.take_append_drop]at this
def GV(a b:Bs):Bool:=cond (cond (decide (((List.length b:Nat):Int)>((List.length a:Nat):Int))) ((List.take (Int.toNat ((List.length a:Nat):Int)) b)==a) false) (((UInt8.toNat (List.getD b (Int.toNat ((List.length a:Nat):Int)) 0):Nat):Int)==(47:Int)) false
theorem XG{a b:Bs}:GV a b=true↔a.length<b.length∧b.take a.length=a∧b.getD a.length 0=47:=by
 unfold GV
 rw[show Int.toNat ((List.length a:Nat):Int)=a.length from rfl,Anh]
 by_cases h:a.length<b.length
 ·rw[show decide (((List.length b:Nat):Int)>((List.length a:Nat):Int))=true from decide_eq_true (by omega),cond_true]
  by_cases h2:b.take a.length=a
  ·rw[h2,show(a==a)=true from beq_self_eq_true a,cond_true]
   simp[h]
  ·rw[show(List.take a.length b==a)=false from beq_eq_false_iff_ne.2 h2]
   simp[h2]
 ·rw[show decide (((List.length b:Nat):Int)>((List.length a:Nat):Int))=false from decide_eq_false (by omega)]
  simp[h]
theorem DV:∀(l:List Ao) (p:Bs),(Bq l p).isSome=true↔∃f∈l,f.1=p
 |[],p=>by simp[Bq]
 |f::r,p=>by
  have ih:=DV r p
  rw[Bq]
  cases hb:Bq r p with
  |some v=>
   rw[hb]at ih
   simp only[Option.isSome_some,true_iff]at ih⊢
   obtain⟨g,hg,e⟩:=ih
   exact⟨g,List.mem_cons_of_mem _ hg,e⟩
  |none=>
   rw[hb]at ih
   dsimp only
   by_cases hp:p=f.1
   ·rw[if_pos hp]
    simp only[Option.isSome_some,true_iff]
    exact⟨f,List.mem_cons_self ..,hp.symm⟩
   ·rw[if_neg hp]
    simp only[Option.isSome_none,Bool.false_eq_true,false_iff]
    rintro⟨g,hg,e⟩
    rcases List.mem_cons.1 hg with rfl|hg
    ·exact hp e.symm
    ·have:=ih.2 ⟨g,hg,e⟩
     cases this
abbrev pth(l:List Ao)(i:Nat):Bs:=(l.getD i ([],[])).1
def Kq(l:List Ao):Prop:=∀i,i<l.length→∀k,k<i→Op.bytesLess (pth l k) (pth l i)=true∧GV (pth l k) (pth l i)=false
theorem QX(l:List Ao):VB l=true↔Kq l:=by
 unfold VB
 rw[List.all_eq_true]
 constructor
 ·intro h
  have hadj:∀i,0<i→i<l.length→Op.bytesLess (pth l (i -1)) (pth l i)=true:=fun i h0 hi=>by
   have:=h i (List.mem_range.2 hi)
   simp only[Bool.and_eq_true,Bool.or_eq_true,beq_iff_eq]at this
   rcases this.1 with h1|h1
   ·omega
   ·exact h1
  have hch:∀i,i<l.length→∀k,k<i→Op.bytesLess (pth l k) (pth l i)=true:=by
   intro i
   induction i with
   |zero=>intro _ k hk;omega
   |succ i ih=>
    intro hi k hk
    have h1:=hadj (i+1) (by omega) hi
    rw[Nat.add_sub_cancel]at h1
    by_cases hki:k=i
    ·subst hki;exact h1
    ·exact HN (ih (by omega) k (by omega)) h1
  intro i hi k hk
  refine⟨hch i hi k hk,?_⟩
  rw[Bool.eq_false_iff]
  intro ha
  obtain⟨a1,a2,a3⟩:=XG.1 ha
  have hn:=h i (List.mem_range.2 hi)
  simp only[Bool.and_eq_true,Bool.not_eq_true']at hn
  have hn:=hn.2
  unfold Afa at hn
  rw[List.any_eq_false]at hn
  refine hn (pth l k).length (List.mem_range.2 a1) ?_
  rw[Bool.and_eq_true]
  refine⟨(DV l _).2 ⟨l.getD k ([],[]),A7 (by omega),a2.symm⟩,beq_iff_eq.2 a3⟩
 ·intro h i hi
  have hi:=List.mem_range.1 hi
  simp only[Bool.and_eq_true,Bool.or_eq_true,beq_iff_eq,Bool.not_eq_true']
  refine⟨?_,?_⟩
  ·by_cases h0:i=0
   ·exact .inl h0
   ·exact .inr (h i hi (i -1) (by omega)).1
  ·unfold Afa
   rw[List.any_eq_false]
   intro j hj hb
   have hj:j<(pth l i).length:=List.mem_range.1 hj
   rw[Bool.and_eq_true]at hb
   obtain⟨hb1,hb2⟩:=hb
   obtain⟨f,hf,hfe⟩:=(DV l _).1 hb1
   obtain⟨m,hm⟩:=List.getElem?_of_mem hf
   have hml:m<l.length:=(List.getElem?_eq_some_iff.1 hm).1
   have hpm:pth l m=(pth l i).take j:=by
    unfold pth
    rw[List.getD_eq_getElem?_getD,hm]
    exact hfe
   have hlen:((pth l i).take j).length=j:=by rw[List.length_take];exact Nat.min_eq_left (by omega)
   rcases Nat.lt_trichotomy m i with h1|h1|h1
   ·have:=(h i hi m h1).2
    rw[Bool.eq_false_iff]at this
    refine this (XG.2 ⟨by rw[hpm,hlen];exact hj,by rw[hpm,hlen],by rw[hpm,hlen];exact beq_iff_eq.1 hb2⟩)
   ·subst h1
    have:=congrArg List.length hpm
    rw[hlen]at this
    exact absurd hj (by rw[this];exact Nat.lt_irrefl _)
   ·have h2:=(h m hml i h1).1
    have h3:=Akc hj
    rw[←hpm]at h3
    have h4:=FV (pth l i)
    rw[HN h2 h3]at h4
    cases h4
def Dq(l:List Ao):Int:=
 if l.length>200 then 1 else if l.all (fun f=>CO f.1==0)=false then 210 else if VB l=false then 211 else if l.all (fun f=>B6 f.2==0)=false then 1 else 0
def Du(l:List Ao):Prop:=l.length≤1000000∧∀f∈l,f.1.length≤140737488351232∧f.2.length≤140737488351232
theorem Du.at{l:List Ao}(h:Du l){i:Nat}(hi:i<l.length):(l.getD i ([],[])).1.length≤140737488351232∧(l.getD i ([],[])).2.length≤140737488351232:=h.2 _ (A7 hi)
def AcW(P:Pg):Prop:=∀f:Ao,f.1.length≤140737488351232→Fn P XD EK f fun(d:Bool) _=>d=(CO f.1 !=0)
theorem AmN(h:Has P F8)(hC:Gl P):AcW P:=by
 intro f hf
 refine Tk h ?_
 unfold M8
 exact hC.at hf rfl
def AcX(P:Pg):Prop:=∀f:Ao,f.2.length≤140737488351232→Fn P Aac EL f fun(d:Bool) _=>d=(B6 f.2 !=0)
theorem AmO(h:Has P F9)(hC:N1 P):AcX P:=by
 intro f hf
 refine Tl h ?_
 unfold M9
 refine(hC _ hf).to ?_
 rintro(d:Int) _ hd
 have hd:d=B6 f.2:=hd
 rw[hd]
def AcY(P:Pg):Prop:=∀l:List Ao,Du l→Fn P zS5 AJ (l,()) fun(d:Int) _=>decide (d≥0)=l.any fun f=>CO f.1 !=0
theorem Ahx{α:Type}{l:List α}{p:α→Bool}{i:Nat}{d:α}(hi:i<l.length)(h:p (l.getD i d)=true):l.any p=true:=List.any_eq_true.2 ⟨_,A7 hi,h⟩
theorem Ahz{α:Type}{l:List α}{p:α→Bool}{d:α}(h:∀j,j<l.length→p (l.getD j d)=false):l.any p=false:=by
 rw[List.any_eq_false]
 intro x hx
 obtain⟨j,hj⟩:=List.getElem?_of_mem hx
 have hl:j<l.length:=(List.getElem?_eq_some_iff.1 hj).1
 have:=h j hl
 rw[List.getD_eq_getElem?_getD,hj,Option.getD_some]at this
 rw[this];simp
theorem AmP(h:Has P A0)(hC:AcW P):AcY P:=by
 intro l hl
 refine Dl h ?_
 unfold BX
 dsimp only
 refine Ac.mid (fun _=>(l.any fun f=>CO f.1 !=0)=false) ?_ fun _ h=>by rw[h];rfl
 refine Au.of (fun q=>(0≤q.2∧q.2≤l.length)∧∀j,j<q.2.toNat→(CO (l.getD j ([],[])).1 !=0)=false) (fun q=>(l.length -q.2).toNat) ⟨⟨Int.le_refl _,by dsimp only;omega⟩,fun j hj=>absurd hj (by simp)⟩ ?_
 rintro⟨q,i⟩ ⟨⟨i0,i1⟩,hq⟩
 dsimp only at i0 i1 hq⊢
 have hln:=hl.1
 refine⟨fun hi=>?_,fun hi=>?_⟩
 ·have hi:=of_decide_eq_true hi
  have hi2:i.toNat<l.length:=by omega
  refine Ac.mid (fun _=>(CO (l.getD i.toNat ([],[])).1 !=0)=false) ⟨⟨i0,hi⟩,hi2,(hC _ (hl.at hi2).1).to ?_⟩ fun _ hn=>?_
  ·rintro(d:Bool) _ hd
   have hd:d=_:=hd
   subst hd
   refine⟨fun hb=>?_,fun hb=>hb⟩
   rw[Ahx (d:=([],[])) hi2 hb,decide_eq_true (by omega)]
  ·rw[w64 (by omega) (by omega)]
   refine⟨⟨⟨by omega,by omega⟩,fun j hj=>?_⟩,by omega⟩
   by_cases hji:j=i.toNat
   ·subst hji;exact hn
   ·exact hq j (by omega)
 ·have hi:=of_decide_eq_false hi
  exact Ahz (d:=([],[])) fun j hj=>hq j (by omega)
def AcZ(P:Pg):Prop:=∀l:List Ao,Du l→Fn P zS5 AK (l,()) fun(d:Int) _=>decide (d≥0)=l.any fun f=>B6 f.2 !=0
theorem AmQ(h:Has P A1)(hC:AcX P):AcZ P:=by
 intro l hl
 refine Dm h ?_
 unfold BZ
 dsimp only
 refine Ac.mid (fun _=>(l.any fun f=>B6 f.2 !=0)=false) ?_ fun _ h=>by rw[h];rfl
 refine Au.of (fun q=>(0≤q.2∧q.2≤l.length)∧∀j,j<q.2.toNat→(B6 (l.getD j ([],[])).2 !=0)=false) (fun q=>(l.length -q.2).toNat) ⟨⟨Int.le_refl _,by dsimp only;omega⟩,fun j hj=>absurd hj (by simp)⟩ ?_
 rintro⟨q,i⟩ ⟨⟨i0,i1⟩,hq⟩
 dsimp only at i0 i1 hq⊢
 have hln:=hl.1
 refine⟨fun hi=>?_,fun hi=>?_⟩
 ·have hi:=of_decide_eq_true hi
  have hi2:i.toNat<l.length:=by omega
  refine Ac.mid (fun _=>(B6 (l.getD i.toNat ([],[])).2 !=0)=false) ⟨⟨i0,hi⟩,hi2,(hC _ (hl.at hi2).2).to ?_⟩ fun _ hn=>?_
  ·rintro(d:Bool) _ hd
   have hd:d=_:=hd
   subst hd
   refine⟨fun hb=>?_,fun hb=>hb⟩
   rw[Ahx (d:=([],[])) hi2 hb,decide_eq_true (by omega)]
  ·rw[w64 (by omega) (by omega)]
   refine⟨⟨⟨by omega,by omega⟩,fun j hj=>?_⟩,by omega⟩
   by_cases hji:j=i.toNat
   ·subst hji;exact hn
   ·exact hq j (by omega)
 ·have hi:=of_decide_eq_false hi
  exact Ahz (d:=([],[])) fun j hj=>hq j (by omega)
def Ac0(P:Pg):Prop:=∀l:List Ao,Du l→Fn P zS6 AF (l,()) fun(d:Bool) _=>d=l.any fun f=>CO f.1 !=0
theorem AmR(h:Has P AW)(hI:AcY P):Ac0 P:=by
 intro l hl
 refine C4 h ?_
 unfold BN
 exact(hI l hl).to fun(d:Int) _ hd=>hd
def Ac1(P:Pg):Prop:=∀l:List Ao,Du l→Fn P zS6 AG (l,()) fun(d:Bool) _=>d=l.any fun f=>B6 f.2 !=0
theorem AmS(h:Has P AX)(hI:AcZ P):Ac1 P:=by
 intro l hl
 refine C5 h ?_
 unfold BO
 exact(hI l hl).to fun(d:Int) _ hd=>hd
theorem Ahy{α:Type}(l:List α)(p:α→Int):(l.any fun f=>p f !=0)=!(l.all fun f=>p f==0):=by
 induction l with
 |nil=>rfl
 |cons a l ih=>rw[List.any_cons,List.all_cons,ih,Bool.not_and];rfl
def EZ(P:Pg):Prop:=∀l:List Ao,Du l→Fn P XC Cu l fun(d:Int) _=>d=Dq l
theorem Z1(h:Has P F7)(h1:Ac0 P)(hO:Pl P)(h2:Ac1 P):EZ P:=by
 intro l hl
 refine O2 h ?_
 unfold LY
 unfold Dq
 refine Ac.mid (fun _=>l.length≤200∧l.all (fun f=>CO f.1==0)=true∧VB l=true∧l.all (fun f=>B6 f.2==0)=true) ?_ fun _ hh=>by
  obtain⟨a1,a2,a3,a4⟩:=hh
  rw[if_neg (by omega),if_neg (by rw[a2];simp),if_neg (by rw[a3];simp),if_neg (by rw[a4];simp)]
 refine⟨fun hc=>?_,fun hc=>?_⟩
 ·have hc:=of_decide_eq_true hc
  rw[if_pos (by omega)]
 have hc:=of_decide_eq_false hc
 rw[if_neg (by omega)]
 refine(h1 l hl).to ?_
 rintro(d:Bool) _ hd
 have hd:d=_:=hd
 rw[Ahy l fun f=>CO f.1]at hd
 subst hd
 refine⟨fun hb=>?_,fun hb=>?_⟩
 ·rw[if_pos (by simpa using hb)]
 have hb:l.all (fun f=>CO f.1==0)=true:=by simpa using hb
 rw[if_neg (by rw[hb];simp)]
 refine(hO l hl.1 hl.2).to ?_
 rintro(d:Bool) _ hd
 have hd:d=VB l:=hd
 subst hd
 refine⟨fun hb2=>?_,fun hb2=>?_⟩
 ·rw[if_pos (by simpa using hb2)]
 have hb2:VB l=true:=by simpa using hb2
 rw[if_neg (by rw[hb2];simp)]
 refine(h2 l hl).to ?_
 rintro(d:Bool) _ hd
 have hd:d=_:=hd
 rw[Ahy l fun f=>B6 f.2]at hd
 subst hd
 refine⟨fun hb3=>?_,fun hb3=>?_⟩
 ·rw[if_pos (by simpa using hb3)]
 have hb3:l.all (fun f=>B6 f.2==0)=true:=by simpa using hb3
 exact⟨by omega,hb,hb2,hb3⟩
theorem EZ.at(h:EZ P){l:List Ao}(hl:Du l){K:Int→Unit→Prop}(hk:K (Dq l) ()):Fn P XC Cu l K:=
 (h l hl).to fun(d:Int) _ hd=>by
  have hd:d=Dq l:=hd
  subst hd
  exact hk
end Go.VS

/- The differences of two trees: what they are, and that they are one list. -/
set_option linter.unusedVariables false
set_option linter.unusedSimpArgs false
namespace Go.VS
variable{P:Pg}
abbrev Bz:=Bs×Int
def QM(a b:List Ao)(p:Bs):Option Int:=match Bq a p,Bq b p with
 |none,some _=>some 1
 |some _,none=>some 2
 |some x,some y=>if x=y then none else some 3
 |none,none=>none
def Alo(l:List Bz):Prop:=l.Pairwise fun x y=>Op.bytesLess x.1 y.1=true
theorem Afr:∀{l m:List Bz},Alo l→Alo m→(∀t,t∈l↔t∈m)→l=m
 |[],[],_,_,_=>rfl
 |[],b::m,_,_,h=>by have:=(h b).2 (List.mem_cons_self ..);cases this
 |a::l,[],_,_,h=>by have:=(h a).1 (List.mem_cons_self ..);cases this
 |a::l,b::m,hl,hm,h=>by
  have hl2:=List.pairwise_cons.1 hl
  have hm2:=List.pairwise_cons.1 hm
  have hab:a=b:=by
   rcases List.mem_cons.1 ((h a).1 (List.mem_cons_self ..))with e|h1
   ·exact e
   ·rcases List.mem_cons.1 ((h b).2 (List.mem_cons_self ..))with e|h2
    ·exact e.symm
    ·have h3:=HN (hm2.1 a h1) (hl2.1 b h2)
     rw[FV]at h3
     cases h3
  subst hab
  rw[Afr hl2.2 hm2.2 fun t=>⟨fun ht=>?_,fun ht=>?_⟩]
  ·rcases List.mem_cons.1 ((h t).1 (List.mem_cons_of_mem _ ht))with e|h1
   ·have h3:=hl2.1 t ht
    rw[e,FV]at h3
    cases h3
   ·exact h1
  ·rcases List.mem_cons.1 ((h t).2 (List.mem_cons_of_mem _ ht))with e|h1
   ·have h3:=hm2.1 t ht
    rw[e,FV]at h3
    cases h3
   ·exact h1
def IsDiff(a b:List Ao)(d:List Bz):Prop:=Alo d∧∀p k,(p,k)∈d↔QM a b p=some k
theorem Abe{a b:List Ao}{d e:List Bz}(hd:IsDiff a b d)(he:IsDiff a b e):d=e:=
 Afr hd.1 he.1 fun t=>by
  obtain⟨p,k⟩:=t
  rw[hd.2,he.2]
def MH(a b:List Ao):Int:=if Dq a≠0 then Dq a else Dq b
def Ue(P:Pg):Prop:=∀x:List Ao×List Ao,Du x.1→Du x.2→Fn P "mergelens/tree.Diff" MT x fun(d:List Bz×Int) _=>d.2=MH x.1 x.2∧(d.2≠0→d.1=[])∧(d.2=0→IsDiff x.1 x.2 d.1)
end Go.VS
