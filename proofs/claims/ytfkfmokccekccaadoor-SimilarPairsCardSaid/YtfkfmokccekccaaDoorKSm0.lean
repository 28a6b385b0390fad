import Derived.Test.YtfkfmokccekccaaDoorFwD
import Derived.IntWalk
import Derived.Test.YtfkfmokccekccaaDoorKGf0
import Derived.Test.YtfkfmokccekccaaDoorKGf1
/- Rules for lifted functions; numbers; lists. -/
set_option linter.unusedVariables false
set_option linter.unusedSimpArgs false
namespace Go.VS
theorem Av.of{D:Type}{body:(D→Prop)→Prop}{rest:D→Prop}(h:body rest):Av body rest:=⟨rest,h,fun _ h=>h⟩
theorem Av.mid{D:Type}{body:(D→Prop)→Prop}{rest:D→Prop}(J:D→Prop)(h:body J)(h2:∀d,J d→rest d):Av body rest:=⟨J,h,h2⟩
theorem DD.of{D:Type}{x:D}{body:D→(D→Prop)→Prop}(I:D→Prop)(m:D→Nat)(h0:I x)(hs:∀d,I d→body d fun d'=>I d'∧m d'<m d):DD x body:=by
 refine⟨fun n d=>I d∧m d=n,⟨_,h0,rfl⟩,?_⟩
 rintro n d ⟨hI,rfl⟩
 have:(fun d'=>∃k,k<m d∧I d'∧m d'=k)=fun d'=>I d'∧m d'<m d:=by
  funext d'
  exact propext ⟨fun⟨k,h1,h2,h3⟩=>⟨h2,by omega⟩,fun⟨h1,h2⟩=>⟨_,h2,h1,rfl⟩⟩
 rw[this]
 exact hs d hI
theorem Fn.to{P:Pg}{nm:String}{S:Sig}{x:DP S.ps}{K K':DP S.rs→DP (ptrs S.ps)→Prop}(h:Fn P nm S x K)(hk:∀d e,K d e→K' d e):Fn P nm S x K':=h.mono hk
theorem w64{n:Int}(h1:-9223372036854775808≤n)(h2:n≤9223372036854775807):IntKind.i64.wrap n=n:=by rw[IntKind.wrap_i64];omega
theorem AaF{n:Int}(h1:0≤n)(h2:n≤18446744073709551615):IntKind.u64.wrap n=n:=by rw[IntKind.wrap_u64];omega
theorem getD_eq{α:Type}{l:List α}{i:Nat}{d:α}(h:i<l.length):l.getD i d=l[i]:=by simp[List.getD_eq_getElem?_getD,List.getElem?_eq_getElem h]
theorem Rk{α:Type}{l:List α}{i:Nat}{d:α}(h:i<l.length):l.getD i d∈l:=by rw[getD_eq h];exact List.getElem_mem h
end Go.VS

/- A number brought into a range. -/
set_option linter.unusedVariables false
set_option linter.unusedSimpArgs false
namespace Go.VS
variable{P:Pg}
@[irreducible] def Qg(a n:Int):Int:=IntKind.i64.wrap (Int.tmod (IntKind.u64.wrap a) (IntKind.u64.wrap n))
theorem VX(n:Int):0≤IntKind.u64.wrap n∧IntKind.u64.wrap n≤18446744073709551615:=by rw[IntKind.wrap_u64];omega
theorem Nv{a n:Int}(h1:1≤n)(h2:n≤9223372036854775807):0≤Qg a n∧Qg a n<n:=by
 unfold Qg
 rw[AaF (n:=n) (by omega) (by omega)]
 have h:=VX a
 rw[Int.tmod_eq_emod_of_nonneg h.1]
 have e1:=Int.emod_nonneg (IntKind.u64.wrap a) (show n≠0 by omega)
 have e2:=Int.emod_lt_of_pos (IntKind.u64.wrap a) (show 0<n by omega)
 rw[w64 (by omega) (by omega)]
 exact⟨e1,e2⟩
def Lb(P:Pg):Prop:=∀x:Int×Int,1≤x.2→x.2≤9223372036854775807→Fn P zS1 B2 x fun d _=>d=Qg x.1 x.2
theorem ZM(h:Has P Il):Lb P:=by
 intro x h1 h2
 refine Ta h ?_
 unfold OE
 exact⟨by rw[AaF (by omega) (by omega)];omega,by unfold Qg;rfl⟩
theorem Lb.at(h:Lb P){a n:Int}(h1:1≤n)(h2:n≤9223372036854775807){K:Int→Unit→Prop}(hk:K (Qg a n) ()):Fn P zS1 B2 (a,n) K:=(h (a,n) h1 h2).to fun(d:Int) e hd=>by
 have hd:d=Qg a n:=hd
 subst hd;exact hk
end Go.VS

/- Numbers in texts; bytes. -/
set_option linter.unusedVariables false
set_option linter.unusedSimpArgs false
namespace Go.VS
variable{P:Pg}
abbrev Bs:=List UInt8
end Go.VS

/- Paths: names between separators. -/
set_option linter.unusedVariables false
set_option linter.unusedSimpArgs false
namespace Go.VS
variable{P:Pg}
def spN(acc:Bs):Bs→List Bs
 |[]=>[acc]
 |b::r=>if b=47 then acc::spN [] r else spN (acc++[b]) r
def Adn(n:Bs):Bool:=!(n==[]||n==[46]||n==[46,46])
def AbK(s:Bs):Int:=if s.length>200∨(0:UInt8)∈s then 210 else if(spN [] s).all Adn then 0 else 210
def AbY(P:Pg):Prop:=∀s:Bs,s.length≤140737488351232→Fn P XS AbA s fun(d:Int) _=>d=AbK s
theorem AeZ:∀(l acc r:Bs),(∀b∈l,b≠47)→spN acc (l++47::r)=(acc++l)::spN [] r
 |[],acc,r,h=>by rw[List.nil_append,spN,if_pos rfl];simp
 |b::l,acc,r,h=>by
  rw[List.cons_append,spN,if_neg (h b (List.mem_cons_self ..)),AeZ l _ r fun c hc=>h c (List.mem_cons_of_mem _ hc)]
  simp
theorem Agq:∀(l acc:Bs),(∀b∈l,b≠47)→spN acc l=[acc++l]
 |[],acc,h=>by simp[spN]
 |b::l,acc,h=>by
  rw[spN,if_neg (h b (List.mem_cons_self ..)),Agq l _ fun c hc=>h c (List.mem_cons_of_mem _ hc)]
  simp
theorem AgY:∀s:Bs,(∀b∈s,b≠47)∨∃l r,s=l++47::r∧∀b∈l,b≠47
 |[]=>.inl (by simp)
 |b::s=>by
  by_cases hb:b=47
  ·subst hb;exact .inr ⟨[],s,rfl,by simp⟩
  ·rcases AgY s with h|⟨l,r,rfl,h⟩
   ·refine .inl fun c hc=>?_
    rcases List.mem_cons.1 hc with rfl|hc
    ·exact hb
    ·exact h c hc
   ·refine .inr ⟨b::l,r,rfl,fun c hc=>?_⟩
    rcases List.mem_cons.1 hc with rfl|hc
    ·exact hb
    ·exact h c hc
end Go.VS

/- Trees of files: in order, and none under another. -/
set_option linter.unusedVariables false
set_option linter.unusedSimpArgs false
namespace Go.VS
variable{P:Pg}
abbrev Aa0:=Bs×Bs
def Aa9:List Aa0→Bs→Option Bs
 |[],_=>none
 |f::r,p=>match Aa9 r p with
  |some v=>some v
  |none=>if p=f.1 then some f.2 else none
def AfA(l:List Aa0)(p:Bs):Bool:=(List.range p.length).any fun i=>(Aa9 l (p.take i)).isSome&&(p.getD i 0==47)
def AdK(l:List Aa0):Bool:=(List.range l.length).all fun i=>(i==0||Op.bytesLess (l.getD (i -1) ([],[])).1 (l.getD i ([],[])).1)&&!AfA l (l.getD i ([],[])).1
def Ac1(P:Pg):Prop:=∀l:List Aa0,l.length≤1000000→(∀f∈l,f.1.length≤140737488351232∧f.2.length≤140737488351232)→Fn P "mergelens/tree.ordered" AbX l fun(d:Bool) _=>d=AdK l
end Go.VS

/- The document's reader of paths. -/
set_option linter.unusedVariables false
set_option linter.unusedSimpArgs false
namespace Go.VS
variable{P:Pg}
theorem AfJ{s:Bs}{i:Nat}(h:i<s.length):s.drop i=s.getD i 0::s.drop (i+1):=by
 rw[List.drop_eq_getElem_cons h,List.getD_eq_getElem?_getD,List.getElem?_eq_getElem h,Option.getD_some]
theorem byI(b c:UInt8):(((b.toNat:Nat):Int)==((c.toNat:Nat):Int))=(b==c):=by
 by_cases h:b=c
 ·subst h;simp
 ·rw[show(b==c)=false from beq_eq_false_iff_ne.2 h,beq_eq_false_iff_ne]
  intro e
  exact h (UInt8.toNat_inj.1 (by omega))
theorem Ahr(b:UInt8):(((b.toNat:Nat):Int)==(47:Int))=(b==47):=byI b 47
theorem AbY.at(h:AbY P){s:Bs}(hs:s.length≤140737488351232){K:Int→Unit→Prop}(hk:K (AbK s) ()):Fn P XS AbA s K:=
 (h s hs).to fun(d:Int) _ hd=>by
  have hd:d=AbK s:=hd
  subst hd
  exact hk
end Go.VS

/- Numbers made of raw numbers; sets of bytes. -/
set_option linter.unusedVariables false
set_option linter.unusedSimpArgs false
namespace Go.VS
variable{P:Pg}
@[irreducible] def atX(raw:List Int)(k:Int):Int:=
 if((List.length raw:Nat):Int)>0 then(IntKind.u64.wrap ((BitVec.toNat (BitVec.ofInt IntKind.u64.bits (IntKind.u64.wrap ((IntKind.u64.wrap (IntKind.i64.wrap (k+(1:Int))))*(11400714819323198485:Int)))^^^BitVec.ofInt IntKind.u64.bits (IntKind.u64.wrap (List.getD raw (Int.toNat (Int.tmod k ((List.length raw:Nat):Int))) (0:Int)))):Nat):Int))
 else(IntKind.u64.wrap ((IntKind.u64.wrap (IntKind.i64.wrap (k+(1:Int))))*(11400714819323198485:Int)))
@[irreducible] def atY(d2:Int):Int:=IntKind.u64.wrap ((BitVec.toNat (BitVec.ofInt IntKind.u64.bits (IntKind.u64.wrap ((IntKind.u64.wrap ((BitVec.toNat (BitVec.ofInt IntKind.u64.bits d2^^^BitVec.ofInt IntKind.u64.bits (Int.fdiv d2 (2^(min (Int.toNat (31:Int)) IntKind.u64.bits)))):Nat):Int))*(13787848793156543929:Int)))^^^BitVec.ofInt IntKind.u64.bits (Int.fdiv (IntKind.u64.wrap ((IntKind.u64.wrap ((BitVec.toNat (BitVec.ofInt IntKind.u64.bits d2^^^BitVec.ofInt IntKind.u64.bits (Int.fdiv d2 (2^(min (Int.toNat (31:Int)) IntKind.u64.bits)))):Nat):Int))*(13787848793156543929:Int))) (2^(min (Int.toNat (29:Int)) IntKind.u64.bits)))):Nat):Int)
@[irreducible] def atF(raw:List Int)(k:Int):Int:=IntKind.i64.wrap (Int.fdiv (atY (atX raw k)) (2^(min (Int.toNat (1:Int)) IntKind.u64.bits)))
def OD(P:Pg):Prop:=∀x:List Int×Int,0≤x.2→Fn P zS2 BK x fun d _=>d=atF x.1 x.2
theorem Aax(h:Has P JL):OD P:=by
 intro x h1
 refine Vf h ?_
 unfold QI
 refine Av.mid (fun d=>d=atX x.1 x.2) ⟨fun hc=>?_,fun hc=>?_⟩ fun d hd=>⟨by decide,by decide,by decide,?_⟩
 ·have hc:((List.length x.1:Nat):Int)>0:=of_decide_eq_true hc
  have e1:(Int.tmod x.2 ((List.length x.1:Nat):Int))=x.2%(List.length x.1:Nat):=Int.tmod_eq_emod_of_nonneg h1
  have e2:=Int.emod_nonneg x.2 (show((List.length x.1:Nat):Int)≠0 by omega)
  have e3:=Int.emod_lt_of_pos x.2 hc
  refine⟨by omega,by omega,by omega,?_⟩
  unfold atX
  rw[if_pos hc]
 ·have hc:¬((List.length x.1:Nat):Int)>0:=of_decide_eq_false hc
  unfold atX
  rw[if_neg hc]
 ·subst hd;unfold atF atY;rfl
theorem OD.at(h:OD P){raw:List Int}{k:Int}(h1:0≤k){K:Int→Unit→Prop}(hk:K (atF raw k) ()):Fn P zS2 BK (raw,k) K:=(h (raw,k) h1).to fun(d:Int) e hd=>by
 have hd:d=atF raw k:=hd
 subst hd;exact hk
end Go.VS

/- The lines of a text. -/
set_option linter.unusedVariables false
set_option linter.unusedSimpArgs false
namespace Go.VS
variable{P:Pg}
def lnN(acc:Bs):Bs→List Bs
 |[]=>[]
 |b::r=>if b=10∨r=[]then(acc++[b])::lnN [] r else lnN (acc++[b]) r
def lnF(s:Bs):List Bs:=lnN [] s
def G7(P:Pg):Prop:=∀s:Bs,s.length≤100000000→Fn P XM AJ s fun(d:List Bs) _=>d=lnF s
theorem Aay{s:Bs}{i:Nat}(h:i<s.length):List.take (i+1) s=List.take i s++[s.getD i 0]:=by
 rw[List.take_add_one,List.getElem?_eq_getElem h,List.getD_eq_getElem?_getD,List.getElem?_eq_getElem h]
 rfl
theorem TP(h:Has P EE):G7 P:=by
 intro s hs
 refine M8 h ?_
 unfold IX
 refine Av.mid (fun q=>q=lnF s) ?_ fun q hq=>hq
 refine DD.of (fun q=>0≤q.2.1∧q.2.1≤q.2.2∧q.2.2≤s.length∧(q.1.length:Int)≤q.2.2∧q.1++lnN (List.drop q.2.1.toNat (List.take q.2.2.toNat s)) (s.drop q.2.2.toNat)=lnF s) (fun q=>(s.length -q.2.2).toNat) ⟨by decide,by decide,by dsimp only;omega,by simp,by simp[lnF]⟩ ?_
 rintro⟨o,f,i⟩ ⟨f0,f1,i1,ho,e⟩
 dsimp only at f0 f1 i1 ho e⊢
 refine⟨fun hc=>?_,fun hc=>?_⟩
 ·have hc:=of_decide_eq_true hc
  rw[w64 (n:=i+1) (by omega) (by omega)]
  have hi:i.toNat<s.length:=by omega
  have hd:s.drop i.toNat=s.getD i.toNat 0::s.drop (i.toNat+1):=by
   rw[List.drop_eq_getElem_cons hi,List.getD_eq_getElem?_getD,List.getElem?_eq_getElem hi,Option.getD_some]
  have e1:(i+1).toNat=i.toNat+1:=by omega
  have hdr:List.drop f.toNat (List.take (i.toNat+1) s)=List.drop f.toNat (List.take i.toNat s)++[s.getD i.toNat 0]:=by
   rw[Aay hi,List.drop_append_of_le_length (by rw[List.length_take];omega)]
  rw[hd,lnN]at e
  have hnil:s.drop (i.toNat+1)=[]↔i+1=s.length:=by
   rw[List.drop_eq_nil_iff];omega
  refine Av.mid (fun q=>0≤q.2∧q.2≤i+1∧(q.1.length:Int)≤i+1∧q.1++lnN (List.drop q.2.toNat (List.take (i.toNat+1) s)) (s.drop (i.toNat+1))=lnF s) ⟨⟨by omega,hc⟩,Av.of ⟨fun hb=>?_,fun hb=>?_⟩⟩ ?_
  ·rw[if_pos (by
    simp at hb
    rcases hb with hb|hb
    ·refine Or.inl ?_
     rw[List.getD_eq_getElem?_getD]
     exact UInt8.toNat_inj.1 (by rw[show(10:UInt8).toNat=10 from rfl];omega)
    ·exact Or.inr (hnil.2 hb))]at e
   refine⟨⟨f0,by omega,by omega⟩,by simp only[List.length_cons,List.length_nil];omega,by dsimp only;omega,by dsimp only;omega,?_,?_⟩
   ·simp only[List.length_append,List.length_cons,List.length_nil];omega
   ·dsimp only
    rw[e1,hdr,show List.drop (i.toNat+1) (List.take (i.toNat+1) s)=[]by rw[List.drop_eq_nil_iff,List.length_take];omega,←e]
    simp only[List.append_assoc,List.singleton_append]
  ·rw[if_neg (by
    simp at hb
    rintro(hh|hh)
    ·rw[List.getD_eq_getElem?_getD]at hh
     exact hb.1 (by rw[hh];rfl)
    ·exact hb.2 (hnil.1 hh))]at e
   refine⟨f0,by dsimp only;omega,by dsimp only;omega,?_⟩
   dsimp only
   rw[hdr]
   exact e
  ·rintro⟨o',f'⟩ ⟨k1,k2,k3,k4⟩
   dsimp only at k1 k2 k3 k4⊢
   exact⟨⟨k1,k2,by omega,k3,by rw[e1];exact k4⟩,by omega⟩
 ·have hc:=of_decide_eq_false hc
  rw[show i.toNat=s.length by omega,List.drop_length,lnN,List.append_nil]at e
  exact e
def Mo(P:Pg):Prop:=∀k:Int,Fn P V0 Ck k fun(d:Bs) _=>d.length≤3
theorem YH(h:Has P G1)(hM:Lb P):Mo P:=by
 intro k
 refine Q8 h ?_
 unfold ML
 refine hM.at (by decide) (by decide) ?_
 have hr:=Nv (a:=k) (n:=10) (by decide) (by decide)
 generalize Qg k 10=m at*
 refine⟨⟨by omega,by simp;omega⟩,by simp;omega,?_⟩
 have:m=0∨m=1∨m=2∨m=3∨m=4∨m=5∨m=6∨m=7∨m=8∨m=9:=by omega
 rcases this with rfl|rfl|rfl|rfl|rfl|rfl|rfl|rfl|rfl|rfl<;>decide
end Go.VS

/- Texts as the library cuts them into lines. -/
set_option linter.unusedVariables false
set_option linter.unusedSimpArgs false
namespace Go.VS
variable{P:Pg}
def saN(acc:Bs):Bs→List Bs
 |[]=>[acc]
 |b::r=>if b=10 then(acc++[b])::saN [] r else saN (acc++[b]) r
def saF(s:Bs):List Bs:=saN [] s
def Kb(s:Bs):Bool:=([10]:Bs).isSuffixOf s
def Fy(P:Pg):Prop:=∀s:Bs,Fn P "strings.Count" CU (s,[10]) fun(d:Int) _=>d=((s.count 10:Nat):Int)
def ET(P:Pg):Prop:=∀s:Bs,s.length≤140737488351232→Fn P "strings.HasSuffix" BP (s,[10]) fun(d:Bool) _=>d=Kb s
def CV(P:Pg):Prop:=∀s:Bs,s.length≤4000000000→Fn P "strings.SplitAfter" Cd (s,[10]) fun(d:List Bs) _=>d=saF s
theorem Fy.at(h:Fy P){s:Bs}{K:Int→Unit→Prop}(hk:K ((s.count 10:Nat):Int) ()):Fn P "strings.Count" CU (s,[10]) K:=
 (h s).to fun(d:Int) _ hd=>by
  have hd:d=((s.count 10:Nat):Int):=hd
  subst hd
  exact hk
theorem ET.at(h:ET P){s:Bs}(hs:s.length≤140737488351232){K:Bool→Unit→Prop}(hk:K (Kb s) ()):Fn P "strings.HasSuffix" BP (s,[10]) K:=
 (h s hs).to fun(d:Bool) _ hd=>by
  have hd:d=Kb s:=hd
  subst hd
  exact hk
theorem CV.at(h:CV P){s:Bs}(hs:s.length≤4000000000){K:List Bs→Unit→Prop}(hk:K (saF s) ()):Fn P "strings.SplitAfter" Cd (s,[10]) K:=
 (h s hs).to fun(d:List Bs) _ hd=>by
  have hd:d=saF s:=hd
  subst hd
  exact hk
theorem Qr:∀(s acc:Bs),saN acc s≠[]
 |[],_=>by simp[saN]
 |b::r,acc=>by
  rw[saN]
  split
  ·simp
  ·exact Qr r _
theorem Vl{α:Type}(a:α)(l:List α)(d:α)(h:l≠[]):(a::l).getD ((a::l).length -1) d=l.getD (l.length -1) d:=by
 cases l with
 |nil=>exact absurd rfl h
 |cons b l=>rfl
theorem MY{α:Type}(a:α)(l:List α)(h:l≠[]):(a::l).dropLast=a::l.dropLast:=by
 cases l with
 |nil=>exact absurd rfl h
 |cons b l=>rfl
theorem Tj:∀(s acc:Bs),(s=[]→acc=[])→lnN acc s=if(saN acc s).getD ((saN acc s).length -1) []=[]then(saN acc s).dropLast else saN acc s
 |[],acc,h=>by
  rw[h rfl]
  rfl
 |b::r,acc,h=>by
  rw[lnN,saN]
  by_cases hb:b=10
  ·have ih:=Tj r [] fun _=>rfl
   rw[if_pos (.inl hb),if_pos hb,Vl _ _ _ (Qr r []),MY _ _ (Qr r []),ih]
   split<;>rfl
  ·rw[if_neg hb]
   by_cases hr:r=[]
   ·subst hr
    rw[if_pos (.inr rfl)]
    simp[saN,lnN]
   ·rw[if_neg (by rintro(h1|h1);exact hb h1;exact hr h1)]
    exact Tj r (acc++[b]) fun h1=>absurd h1 hr
theorem Xc(s:Bs):lnF s=if(saF s).getD ((saF s).length -1) []=[]then(saF s).dropLast else saF s:=Tj s [] fun _=>rfl
theorem Lr(l:Bs)(b:UInt8):Kb (l++[b])=(b==10):=by
 unfold Kb
 by_cases h:b=10
 ·subst h
  rw[show((10:UInt8)==10)=true from rfl,List.isSuffixOf_iff_suffix]
  exact List.suffix_append ..
 ·rw[show(b==10)=false by simpa using h,Bool.eq_false_iff]
  intro hs
  rw[List.isSuffixOf_iff_suffix]at hs
  obtain⟨t,ht⟩:=hs
  have:=congrArg List.getLast? ht
  simp at this
  exact h this.symm
theorem Qd:∀(s acc:Bs),(lnN acc s).length=s.count 10+(if s≠[]∧Kb s=false then 1 else 0)
 |[],acc=>by rw[if_neg (by simp)];rfl
 |b::r,acc=>by
  rw[lnN]
  rcases List.eq_nil_or_concat r with rfl|⟨l,c,rfl⟩
  ·rw[if_pos (.inr rfl),show[b]=([]:Bs)++[b]from rfl,Lr]
   by_cases hb:b=10
   ·subst hb;rfl
   ·rw[show(b==10)=false by simpa using hb]
    simp[lnN,hb]
  ·have e1:Kb (b::l.concat c)=Kb (l.concat c):=by
    rw[List.concat_eq_append,←List.cons_append,Lr,Lr]
   have hne:l.concat c≠[]:=by simp
   by_cases hb:b=10
   ·subst hb
    rw[if_pos (.inl rfl),List.length_cons,Qd (l.concat c) [],e1,List.count_cons_self]
    simp only[ne_eq,hne,not_false_eq_true,true_and,List.cons_ne_nil]
    omega
   ·rw[if_neg (by rintro(h1|h1);exact hb h1;exact hne h1),Qd (l.concat c) _,e1,List.count_cons_of_ne (by simpa using hb)]
    simp only[ne_eq,hne,not_false_eq_true,true_and,List.cons_ne_nil]
theorem Yl(s:Bs):(lnF s).length=s.count 10+(if s≠[]∧Kb s=false then 1 else 0):=Qd s []
def Lf(P:Pg):Prop:=∀s:Bs,s.length≤140737488351232→Fn P XQ Cf s fun(d:Bool) _=>d=Kb s
theorem VN(h:Has P E9)(hS:ET P):Lf P:=by
 intro s hs
 refine Oi h ?_
 unfold JQ
 exact hS.at hs rfl
def Df(s:Bs):Int:=if s.length>1048576∨(lnF s).length>4096 then 1 else 0
def Ld(P:Pg):Prop:=∀s:Bs,s.length≤140737488351232→Fn P V1 Ce s fun(d:Int) _=>d=Df s
theorem VM(h:Has P E8)(hC:Fy P)(hE:Lf P):Ld P:=by
 intro s hs
 refine Oh h ?_
 unfold JP
 refine hC.at ?_
 have hcl:=List.count_le_length (a:=(10:UInt8)) (l:=s)
 have hl:=Yl s
 refine Av.mid (fun d=>(!(s==([]:Bs)))=true→d=Kb s) ⟨fun _=>(hE s hs).to fun(d:Bool) _ hd _=>hd,(by intro hc hc2;rw[hc]at hc2;cases hc2),trivial⟩ ?_
 intro d hd
 have hfin:∀n:Int,n=((lnF s).length:Nat)→((cond (decide (((List.length s:Nat):Int)>(1048576:Int))) true (decide (n>(4096:Int))))=true→(1:Int)=Df s)∧((cond (decide (((List.length s:Nat):Int)>(1048576:Int))) true (decide (n>(4096:Int))))=false→(0:Int)=Df s):=by
  rintro n rfl
  unfold Df
  by_cases h1:s.length>1048576
  ·have e1:decide (((List.length s:Nat):Int)>(1048576:Int))=true:=decide_eq_true (by omega)
   rw[e1,if_pos (.inl h1)]
   exact⟨fun _=>rfl,fun h=>nomatch h⟩
  ·have e1:decide (((List.length s:Nat):Int)>(1048576:Int))=false:=decide_eq_false (by omega)
   rw[e1,cond_false]
   by_cases h2:(lnF s).length>4096
   ·rw[if_pos (.inr h2),show decide ((((lnF s).length:Nat):Int)>4096)=true from decide_eq_true (by omega)]
    exact⟨fun _=>rfl,fun h=>nomatch h⟩
   ·rw[if_neg (by omega),show decide ((((lnF s).length:Nat):Int)>4096)=false from decide_eq_false (by omega)]
    exact⟨(fun h=>nomatch h),fun _=>rfl⟩
 refine Av.mid (fun n=>n=((lnF s).length:Nat)) ⟨fun hc=>?_,fun hc=>?_⟩ hfin
 ·by_cases hn:s=[]
  ·subst hn;cases hc
  ·have hb:(!(s==([]:Bs)))=true:=by simpa using hn
   rw[hb,cond_true]at hc
   have he:Kb s=false:=by rw[←hd hb];simpa using hc
   rw[w64 (by omega) (by omega),hl,if_pos ⟨hn,he⟩]
   omega
 ·by_cases hn:s=[]
  ·subst hn;rfl
  ·have hb:(!(s==([]:Bs)))=true:=by simpa using hn
   rw[hb,cond_true]at hc
   have he:Kb s=true:=by rw[←hd hb];simpa using hc
   rw[hl,if_neg (by rw[he];simp)]
   omega
def GF(P:Pg):Prop:=∀s:Bs,s.length≤140737488351232→Fn P XR Bu s fun(d:List Bs×Int) _=>d=if Df s=0 then(lnF s,0)else([],1)
theorem VO(h:Has P Fa)(hC:Ld P)(hS:CV P):GF P:=by
 intro s hs
 refine Oj h ?_
 unfold JR
 refine(hC s hs).to ?_
 rintro(d:Int) _ hd
 have hd:d=Df s:=hd
 subst hd
 refine⟨fun hc=>?_,fun hc=>?_⟩
 ·have hc:Df s≠0:=by simpa using hc
  rw[if_neg hc]
  unfold Df at hc⊢
  split
  ·rfl
  ·rename_i h1;rw[if_neg h1]at hc;exact absurd rfl hc
 ·have hc:Df s=0:=by simpa using hc
  rw[if_pos hc]
  have hl:s.length≤1048576:=by
   unfold Df at hc
   split at hc
   ·cases hc
   ·omega
  refine hS.at (by omega) ?_
  have hne:=Qr s []
  have hpos:0<(saF s).length:=List.length_pos_iff.2 hne
  have hlen:(saF s).length≤s.length+1:=by
   have:∀(s acc:Bs),(saN acc s).length≤s.length+1:=by
    intro s
    induction s with
    |nil=>intro acc;simp[saN]
    |cons b r ih=>
     intro acc
     rw[saN]
     split
     ·have:=ih [];simp only[List.length_cons];omega
     ·have:=ih (acc++[b]);simp only[List.length_cons];omega
   exact this s []
  rw[w64 (n:=((saF s).length:Int) -1) (by omega) (by omega)]
  have e1:(((saF s).length:Int) -1).toNat=(saF s).length -1:=by omega
  rw[e1]
  refine⟨⟨by omega,by omega⟩,by omega,Av.of ⟨fun hb=>⟨⟨by omega,by omega⟩,by omega,?_⟩,fun hb=>?_⟩⟩
  ·have hb:(saF s).getD ((saF s).length -1) []=[]:=by simpa using hb
   rw[Xc,if_pos hb,List.drop_zero,List.dropLast_eq_take]
  ·have hb:¬(saF s).getD ((saF s).length -1) []=[]:=by simpa using hb
   rw[Xc,if_neg hb]
theorem GF.at(h:GF P){s:Bs}(hs:s.length≤140737488351232){K:List Bs×Int→Unit→Prop}(hk:K (if Df s=0 then(lnF s,0)else([],1)) ()):Fn P XR Bu s K:=
 (h s hs).to fun(d:List Bs×Int) _ hd=>by
  have hd:d=if Df s=0 then(lnF s,0)else([],1):=hd
  subst hd
  exact hk
end Go.VS

/- Trees: which are valid. -/
set_option linter.unusedVariables false
set_option linter.unusedSimpArgs false
namespace Go.VS
variable{P:Pg}
theorem Abo:∀x:Bs,Op.bytesLess x x=false
 |[]=>rfl
 |a::x=>by
  unfold Op.bytesLess
  rw[Abo x]
  simp
theorem AbN:∀{x y z:Bs},Op.bytesLess x y=true→Op.bytesLess y z=true→Op.bytesLess x z=true
 |x,y,[],_,h2=>by unfold Op.bytesLess at h2;cases y<;>cases h2
 |x,[],c::z,h1,_=>by unfold Op.bytesLess at h1;cases x<;>cases h1
 |[],b::y,c::z,_,_=>rfl
 |a::x,b::y,c::z,h1,h2=>by
  unfold Op.bytesLess at h1 h2⊢
  simp only[Bool.or_eq_true,Bool.and_eq_true,decide_eq_true_eq,beq_iff_eq]at h1 h2⊢
  rcases h1 with h1|⟨rfl,h1⟩
  ·rcases h2 with h2|⟨rfl,h2⟩
   ·exact .inl (UInt8.lt_trans h1 h2)
   ·exact .inl h1
  ·rcases h2 with h2|⟨rfl,h2⟩
   ·exact .inl h2
   ·exact .inr ⟨rfl,AbN h1 h2⟩
theorem Acr:∀{x y:Bs},x≠y→Op.bytesLess x y=true∨Op.bytesLess y x=true
 |[],[],h=>absurd rfl h
 |[],b::y,_=>.inl rfl
 |a::x,[],_=>.inr rfl
 |a::x,b::y,h=>by
  unfold Op.bytesLess
  simp only[Bool.or_eq_true,Bool.and_eq_true,decide_eq_true_eq,beq_iff_eq]
  by_cases hab:a=b
  ·subst hab
   rcases Acr (x:=x) (y:=y) (fun e=>h (by rw[e]))with h1|h1
   ·exact .inl (.inr ⟨rfl,h1⟩)
   ·exact .inr (.inr ⟨rfl,h1⟩)
  ·rcases UInt8.lt_or_lt_of_ne hab with h1|h1
   ·exact .inl (.inl h1)
   ·exact .inr (.inl h1)
theorem Ad5:∀(x:Bs) (b:UInt8) (r:Bs),Op.bytesLess x (x++b::r)=true
 |[],b,r=>rfl
 |a::x,b,r=>by
  rw[List.cons_append]
  unfold Op.bytesLess
  rw[Ad5 x b r]
  simp
theorem AgB{p:Bs}{j:Nat}(h:j<p.length):Op.bytesLess (p.take j) p=true:=by
 have:=Ad5 (p.take j) (p.getD j 0) (p.drop (j+1))
 rwa [←AfJ h,List.take_append_drop]at this
def Ael(a b:Bs):Bool:=cond (cond (decide (((List.length b:Nat):Int)>((List.length a:Nat):Int))) ((List.take (Int.toNat ((List.length a:Nat):Int)) b)==a) false) (((UInt8.toNat (List.getD b (Int.toNat ((List.length a:Nat):Int)) 0):Nat):Int)==(47:Int)) false
theorem Ad4{a b:Bs}:Ael a b=true↔a.length<b.length∧b.take a.length=a∧b.getD a.length 0=47:=by
 unfold Ael
 rw[show Int.toNat ((List.length a:Nat):Int)=a.length from rfl,Ahr]
 by_cases h:a.length<b.length
 ·rw[show decide (((List.length b:Nat):Int)>((List.length a:Nat):Int))=true from decide_eq_true (by omega),cond_true]
  by_cases h2:b.take a.length=a
  ·rw[h2,show(a==a)=true from beq_self_eq_true a,cond_true]
   simp[h]
  ·rw[show(List.take a.length b==a)=false from beq_eq_false_iff_ne.2 h2]
   simp[h2]
 ·rw[show decide (((List.length b:Nat):Int)>((List.length a:Nat):Int))=false from decide_eq_false (by omega)]
  simp[h]
theorem AbS:∀(l:List Aa0) (p:Bs),(Aa9 l p).isSome=true↔∃f∈l,f.1=p
 |[],p=>by simp[Aa9]
 |f::r,p=>by
  have ih:=AbS r p
  rw[Aa9]
  cases hb:Aa9 r p with
  |some v=>
   rw[hb]at ih
   simp only[Option.isSome_some,true_iff]at ih⊢
   obtain⟨g,hg,e⟩:=ih
   exact⟨g,List.mem_cons_of_mem _ hg,e⟩
  |none=>
   rw[hb]at ih
   dsimp only
   by_cases hp:p=f.1
   ·rw[if_pos hp]
    simp only[Option.isSome_some,true_iff]
    exact⟨f,List.mem_cons_self ..,hp.symm⟩
   ·rw[if_neg hp]
    simp only[Option.isSome_none,Bool.false_eq_true,false_iff]
    rintro⟨g,hg,e⟩
    rcases List.mem_cons.1 hg with rfl|hg
    ·exact hp e.symm
    ·have:=ih.2 ⟨g,hg,e⟩
     cases this
abbrev pth(l:List Aa0)(i:Nat):Bs:=(l.getD i ([],[])).1
def Acn(l:List Aa0):Prop:=∀i,i<l.length→∀k,k<i→Op.bytesLess (pth l k) (pth l i)=true∧Ael (pth l k) (pth l i)=false
theorem AeO(l:List Aa0):AdK l=true↔Acn l:=by
 unfold AdK
 rw[List.all_eq_true]
 constructor
 ·intro h
  have hadj:∀i,0<i→i<l.length→Op.bytesLess (pth l (i -1)) (pth l i)=true:=fun i h0 hi=>by
   have:=h i (List.mem_range.2 hi)
   simp only[Bool.and_eq_true,Bool.or_eq_true,beq_iff_eq]at this
   rcases this.1 with h1|h1
   ·omega
   ·exact h1
  have hch:∀i,i<l.length→∀k,k<i→Op.bytesLess (pth l k) (pth l i)=true:=by
   intro i
   induction i with
   |zero=>intro _ k hk;omega
   |succ i ih=>
    intro hi k hk
    have h1:=hadj (i+1) (by omega) hi
    rw[Nat.add_sub_cancel]at h1
    by_cases hki:k=i
    ·subst hki;exact h1
    ·exact AbN (ih (by omega) k (by omega)) h1
  intro i hi k hk
  refine⟨hch i hi k hk,?_⟩
  rw[Bool.eq_false_iff]
  intro ha
  obtain⟨a1,a2,a3⟩:=Ad4.1 ha
  have hn:=h i (List.mem_range.2 hi)
  simp only[Bool.and_eq_true,Bool.not_eq_true']at hn
  have hn:=hn.2
  unfold AfA at hn
  rw[List.any_eq_false]at hn
  refine hn (pth l k).length (List.mem_range.2 a1) ?_
  rw[Bool.and_eq_true]
  refine⟨(AbS l _).2 ⟨l.getD k ([],[]),Rk (by omega),a2.symm⟩,beq_iff_eq.2 a3⟩
 ·intro h i hi
  have hi:=List.mem_range.1 hi
  simp only[Bool.and_eq_true,Bool.or_eq_true,beq_iff_eq,Bool.not_eq_true']
  refine⟨?_,?_⟩
  ·by_cases h0:i=0
   ·exact .inl h0
   ·exact .inr (h i hi (i -1) (by omega)).1
  ·unfold AfA
   rw[List.any_eq_false]
   intro j hj hb
   have hj:j<(pth l i).length:=List.mem_range.1 hj
   rw[Bool.and_eq_true]at hb
   obtain⟨hb1,hb2⟩:=hb
   obtain⟨f,hf,hfe⟩:=(AbS l _).1 hb1
   obtain⟨m,hm⟩:=List.getElem?_of_mem hf
   have hml:m<l.length:=(List.getElem?_eq_some_iff.1 hm).1
   have hpm:pth l m=(pth l i).take j:=by
    unfold pth
    rw[List.getD_eq_getElem?_getD,hm]
    exact hfe
   have hlen:((pth l i).take j).length=j:=by rw[List.length_take];exact Nat.min_eq_left (by omega)
   rcases Nat.lt_trichotomy m i with h1|h1|h1
   ·have:=(h i hi m h1).2
    rw[Bool.eq_false_iff]at this
    refine this (Ad4.2 ⟨by rw[hpm,hlen];exact hj,by rw[hpm,hlen],by rw[hpm,hlen];exact beq_iff_eq.1 hb2⟩)
   ·subst h1
    have:=congrArg List.length hpm
    rw[hlen]at this
    exact absurd hj (by rw[this];exact Nat.lt_irrefl _)
   ·have h2:=(h m hml i h1).1
    have h3:=AgB hj
    rw[←hpm]at h3
    have h4:=Abo (pth l i)
    rw[AbN h2 h3]at h4
    cases h4
def AcN(l:List Aa0):Int:=
 if l.length>200 then 1 else if l.all (fun f=>AbK f.1==0)=false then 210 else if AdK l=false then 211 else if l.all (fun f=>Df f.2==0)=false then 1 else 0
def AbD(l:List Aa0):Prop:=l.length≤1000000∧∀f∈l,f.1.length≤140737488351232∧f.2.length≤140737488351232
theorem AbD.at{l:List Aa0}(h:AbD l){i:Nat}(hi:i<l.length):(l.getD i ([],[])).1.length≤140737488351232∧(l.getD i ([],[])).2.length≤140737488351232:=h.2 _ (Rk hi)
def Ae3(P:Pg):Prop:=∀f:Aa0,f.1.length≤140737488351232→Fn P zS9 AbF f fun(d:Bool) _=>d=(AbK f.1 !=0)
theorem Ahc(h:Has P AbT)(hC:AbY P):Ae3 P:=by
 intro f hf
 refine Adt h ?_
 unfold AcI
 exact hC.at hf rfl
def Ae4(P:Pg):Prop:=∀f:Aa0,f.2.length≤140737488351232→Fn P Ua AbG f fun(d:Bool) _=>d=(Df f.2 !=0)
theorem Ahd(h:Has P AbU)(hC:Ld P):Ae4 P:=by
 intro f hf
 refine Adu h ?_
 unfold AcJ
 refine(hC _ hf).to ?_
 rintro(d:Int) _ hd
 have hd:d=Df f.2:=hd
 rw[hd]
def Ae5(P:Pg):Prop:=∀l:List Aa0,AbD l→Fn P zS5 Aa3 (l,()) fun(d:Int) _=>decide (d≥0)=l.any fun f=>AbK f.1 !=0
theorem Af5{α:Type}{l:List α}{p:α→Bool}{i:Nat}{d:α}(hi:i<l.length)(h:p (l.getD i d)=true):l.any p=true:=List.any_eq_true.2 ⟨_,Rk hi,h⟩
theorem Af7{α:Type}{l:List α}{p:α→Bool}{d:α}(h:∀j,j<l.length→p (l.getD j d)=false):l.any p=false:=by
 rw[List.any_eq_false]
 intro x hx
 obtain⟨j,hj⟩:=List.getElem?_of_mem hx
 have hl:j<l.length:=(List.getElem?_eq_some_iff.1 hj).1
 have:=h j hl
 rw[List.getD_eq_getElem?_getD,hj,Option.getD_some]at this
 rw[this];simp
theorem Ahe(h:Has P Aa7)(hC:Ae3 P):Ae5 P:=by
 intro l hl
 refine Abt h ?_
 unfold Abk
 dsimp only
 refine Av.mid (fun _=>(l.any fun f=>AbK f.1 !=0)=false) ?_ fun _ h=>by rw[h];rfl
 refine DD.of (fun q=>(0≤q.2∧q.2≤l.length)∧∀j,j<q.2.toNat→(AbK (l.getD j ([],[])).1 !=0)=false) (fun q=>(l.length -q.2).toNat) ⟨⟨Int.le_refl _,by dsimp only;omega⟩,fun j hj=>absurd hj (by simp)⟩ ?_
 rintro⟨q,i⟩ ⟨⟨i0,i1⟩,hq⟩
 dsimp only at i0 i1 hq⊢
 have hln:=hl.1
 refine⟨fun hi=>?_,fun hi=>?_⟩
 ·have hi:=of_decide_eq_true hi
  have hi2:i.toNat<l.length:=by omega
  refine Av.mid (fun _=>(AbK (l.getD i.toNat ([],[])).1 !=0)=false) ⟨⟨i0,hi⟩,hi2,(hC _ (hl.at hi2).1).to ?_⟩ fun _ hn=>?_
  ·rintro(d:Bool) _ hd
   have hd:d=_:=hd
   subst hd
   refine⟨fun hb=>?_,fun hb=>hb⟩
   rw[Af5 (d:=([],[])) hi2 hb,decide_eq_true (by omega)]
  ·rw[w64 (by omega) (by omega)]
   refine⟨⟨⟨by omega,by omega⟩,fun j hj=>?_⟩,by omega⟩
   by_cases hji:j=i.toNat
   ·subst hji;exact hn
   ·exact hq j (by omega)
 ·have hi:=of_decide_eq_false hi
  exact Af7 (d:=([],[])) fun j hj=>hq j (by omega)
def Ae6(P:Pg):Prop:=∀l:List Aa0,AbD l→Fn P zS5 Aa4 (l,()) fun(d:Int) _=>decide (d≥0)=l.any fun f=>Df f.2 !=0
theorem Ahf(h:Has P Aa8)(hC:Ae4 P):Ae6 P:=by
 intro l hl
 refine Abu h ?_
 unfold Abl
 dsimp only
 refine Av.mid (fun _=>(l.any fun f=>Df f.2 !=0)=false) ?_ fun _ h=>by rw[h];rfl
 refine DD.of (fun q=>(0≤q.2∧q.2≤l.length)∧∀j,j<q.2.toNat→(Df (l.getD j ([],[])).2 !=0)=false) (fun q=>(l.length -q.2).toNat) ⟨⟨Int.le_refl _,by dsimp only;omega⟩,fun j hj=>absurd hj (by simp)⟩ ?_
 rintro⟨q,i⟩ ⟨⟨i0,i1⟩,hq⟩
 dsimp only at i0 i1 hq⊢
 have hln:=hl.1
 refine⟨fun hi=>?_,fun hi=>?_⟩
 ·have hi:=of_decide_eq_true hi
  have hi2:i.toNat<l.length:=by omega
  refine Av.mid (fun _=>(Df (l.getD i.toNat ([],[])).2 !=0)=false) ⟨⟨i0,hi⟩,hi2,(hC _ (hl.at hi2).2).to ?_⟩ fun _ hn=>?_
  ·rintro(d:Bool) _ hd
   have hd:d=_:=hd
   subst hd
   refine⟨fun hb=>?_,fun hb=>hb⟩
   rw[Af5 (d:=([],[])) hi2 hb,decide_eq_true (by omega)]
  ·rw[w64 (by omega) (by omega)]
   refine⟨⟨⟨by omega,by omega⟩,fun j hj=>?_⟩,by omega⟩
   by_cases hji:j=i.toNat
   ·subst hji;exact hn
   ·exact hq j (by omega)
 ·have hi:=of_decide_eq_false hi
  exact Af7 (d:=([],[])) fun j hj=>hq j (by omega)
def Ae7(P:Pg):Prop:=∀l:List Aa0,AbD l→Fn P zS6 Aa1 (l,()) fun(d:Bool) _=>d=l.any fun f=>AbK f.1 !=0
theorem Ahg(h:Has P Aa5)(hI:Ae5 P):Ae7 P:=by
 intro l hl
 refine Abp h ?_
 unfold Abh
 exact(hI l hl).to fun(d:Int) _ hd=>hd
def Ae8(P:Pg):Prop:=∀l:List Aa0,AbD l→Fn P zS6 Aa2 (l,()) fun(d:Bool) _=>d=l.any fun f=>Df f.2 !=0
theorem Ahh(h:Has P Aa6)(hI:Ae6 P):Ae8 P:=by
 intro l hl
 refine Abq h ?_
 unfold Abi
 exact(hI l hl).to fun(d:Int) _ hd=>hd
theorem Af6{α:Type}(l:List α)(p:α→Int):(l.any fun f=>p f !=0)=!(l.all fun f=>p f==0):=by
 induction l with
 |nil=>rfl
 |cons a l ih=>rw[List.any_cons,List.all_cons,ih,Bool.not_and];rfl
def AbZ(P:Pg):Prop:=∀l:List Aa0,AbD l→Fn P zS8 Abz l fun(d:Int) _=>d=AcN l
theorem Aey(h:Has P Aca)(h1:Ae7 P)(hO:Ac1 P)(h2:Ae8 P):AbZ P:=by
 intro l hl
 refine AdW h ?_
 unfold Ac9
 unfold AcN
 refine Av.mid (fun _=>l.length≤200∧l.all (fun f=>AbK f.1==0)=true∧AdK l=true∧l.all (fun f=>Df f.2==0)=true) ?_ fun _ hh=>by
  obtain⟨a1,a2,a3,a4⟩:=hh
  rw[if_neg (by omega),if_neg (by rw[a2];simp),if_neg (by rw[a3];simp),if_neg (by rw[a4];simp)]
 refine⟨fun hc=>?_,fun hc=>?_⟩
 ·have hc:=of_decide_eq_true hc
  rw[if_pos (by omega)]
 have hc:=of_decide_eq_false hc
 rw[if_neg (by omega)]
 refine(h1 l hl).to ?_
 rintro(d:Bool) _ hd
 have hd:d=_:=hd
 rw[Af6 l fun f=>AbK f.1]at hd
 subst hd
 refine⟨fun hb=>?_,fun hb=>?_⟩
 ·rw[if_pos (by simpa using hb)]
 have hb:l.all (fun f=>AbK f.1==0)=true:=by simpa using hb
 rw[if_neg (by rw[hb];simp)]
 refine(hO l hl.1 hl.2).to ?_
 rintro(d:Bool) _ hd
 have hd:d=AdK l:=hd
 subst hd
 refine⟨fun hb2=>?_,fun hb2=>?_⟩
 ·rw[if_pos (by simpa using hb2)]
 have hb2:AdK l=true:=by simpa using hb2
 rw[if_neg (by rw[hb2];simp)]
 refine(h2 l hl).to ?_
 rintro(d:Bool) _ hd
 have hd:d=_:=hd
 rw[Af6 l fun f=>Df f.2]at hd
 subst hd
 refine⟨fun hb3=>?_,fun hb3=>?_⟩
 ·rw[if_pos (by simpa using hb3)]
 have hb3:l.all (fun f=>Df f.2==0)=true:=by simpa using hb3
 exact⟨by omega,hb,hb2,hb3⟩
theorem AbZ.at(h:AbZ P){l:List Aa0}(hl:AbD l){K:Int→Unit→Prop}(hk:K (AcN l) ()):Fn P zS8 Abz l K:=
 (h l hl).to fun(d:Int) _ hd=>by
  have hd:d=AcN l:=hd
  subst hd
  exact hk
end Go.VS

/- The differences of two trees: what they are, and that they are one list. -/
set_option linter.unusedVariables false
set_option linter.unusedSimpArgs false
namespace Go.VS
variable{P:Pg}
abbrev Abd:=Bs×Int
def Adq(a b:List Aa0)(p:Bs):Option Int:=match Aa9 a p,Aa9 b p with
 |none,some _=>some 1
 |some _,none=>some 2
 |some x,some y=>if x=y then none else some 3
 |none,none=>none
def Ahm(l:List Abd):Prop:=l.Pairwise fun x y=>Op.bytesLess x.1 y.1=true
def Acy(a b:List Aa0)(d:List Abd):Prop:=Ahm d∧∀p k,(p,k)∈d↔Adq a b p=some k
def Acs(a b:List Aa0):Int:=if AcN a≠0 then AcN a else AcN b
def Af4(P:Pg):Prop:=∀x:List Aa0×List Aa0,AbD x.1→AbD x.2→Fn P "mergelens/tree.Diff" AeA x fun(d:List Abd×Int) _=>d.2=Acs x.1 x.2∧(d.2≠0→d.1=[])∧(d.2=0→Acy x.1 x.2 d.1)
end Go.VS

/- The document's trees. -/
set_option linter.unusedVariables false
set_option linter.unusedSimpArgs false
namespace Go.VS
variable{P:Pg}
def findF:List Aa0→Bs→Bs×Bool
 |[],_=>([],false)
 |f::r,p=>if f.1=p then(f.2,true)else findF r p
theorem Ad9{l:List Aa0}{i:Nat}(hi:i<l.length)(p:Bs):findF (l.drop i) p=if(l.getD i ([],[])).1=p then((l.getD i ([],[])).2,true)else findF (l.drop (i+1)) p:=by
 rw[List.drop_eq_getElem_cons hi,findF,getD_eq hi]
def AcH(P:Pg):Prop:=∀x:List Aa0×Bs,x.1.length≤1000000→Fn P zS7 AbC x fun(d:Bs×Bool) _=>d=findF x.1 x.2
theorem Agu(h:Has P Ack):AcH P:=by
 rintro⟨l,p⟩ hl
 dsimp only at hl
 refine Aep h ?_
 unfold Adk
 dsimp only
 refine Av.mid (fun _=>findF l p=([],false)) ?_ fun _ h=>h.symm
 refine DD.of (fun q=>(0≤q.2.2∧q.2.2≤l.length)∧findF (l.drop q.2.2.toNat) p=findF l p) (fun q=>(l.length -q.2.2).toNat) ⟨⟨Int.le_refl _,by dsimp only;omega⟩,rfl⟩ ?_
 rintro⟨q1,q2,i⟩ ⟨⟨i0,i1⟩,hq⟩
 dsimp only at i0 i1 hq⊢
 refine⟨fun hi=>?_,fun hi=>?_⟩
 ·have hi:=of_decide_eq_true hi
  have hi2:i.toNat<l.length:=by omega
  rw[Ad9 hi2]at hq
  refine Av.mid (fun _=>(l.getD i.toNat ([],[])).1≠p) ⟨⟨i0,hi⟩,hi2,fun hb=>?_,fun hb=>beq_eq_false_iff_ne.1 hb⟩ fun _ hn=>?_
  ·rw[if_pos (eq_of_beq hb)]at hq
   exact hq
  ·rw[if_neg hn]at hq
   rw[w64 (by omega) (by omega),show(i+1).toNat=i.toNat+1 by omega]
   exact⟨⟨⟨by omega,by omega⟩,hq⟩,by omega⟩
 ·have hi:=of_decide_eq_false hi
  rw[List.drop_of_length_le (by omega)]at hq
  exact hq.symm
def AcG(P:Pg):Prop:=∀x:List Aa0×Bs,x.1.length≤1000000→Fn P zS3 Abm x fun(d:Bs×Bool) _=>d=findF x.1 x.2
theorem Ags(h:Has P Ab9):AcG P:=by
 rintro⟨l,p⟩ hl
 dsimp only at hl
 refine AdV h ?_
 unfold Ac8
 dsimp only
 refine Av.mid (fun _=>findF l p=([],false)) ?_ fun _ h=>h.symm
 refine DD.of (fun q=>(0≤q.2.2∧q.2.2≤l.length)∧findF (l.drop q.2.2.toNat) p=findF l p) (fun q=>(l.length -q.2.2).toNat) ⟨⟨Int.le_refl _,by dsimp only;omega⟩,rfl⟩ ?_
 rintro⟨q1,q2,i⟩ ⟨⟨i0,i1⟩,hq⟩
 dsimp only at i0 i1 hq⊢
 refine⟨fun hi=>?_,fun hi=>?_⟩
 ·have hi:=of_decide_eq_true hi
  have hi2:i.toNat<l.length:=by omega
  rw[Ad9 hi2]at hq
  refine Av.mid (fun _=>(l.getD i.toNat ([],[])).1≠p) ⟨⟨i0,hi⟩,hi2,fun hb=>⟨⟨i0,hi⟩,hi2,?_⟩,fun hb=>beq_eq_false_iff_ne.1 hb⟩ fun _ hn=>?_
  ·rw[if_pos (eq_of_beq hb)]at hq
   exact hq
  ·rw[if_neg hn]at hq
   rw[w64 (by omega) (by omega),show(i+1).toNat=i.toNat+1 by omega]
   exact⟨⟨⟨by omega,by omega⟩,hq⟩,by omega⟩
 ·have hi:=of_decide_eq_false hi
  rw[List.drop_of_length_le (by omega)]at hq
  exact hq.symm
theorem AcH.at(h:AcH P){l:List Aa0}{p:Bs}(hl:l.length≤1000000){K:Bs×Bool→Unit→Prop}(hk:K (findF l p) ()):Fn P zS7 AbC (l,p) K:=
 (h (l,p) hl).to fun(d:Bs×Bool) _ hd=>by
  have hd:d=findF l p:=hd
  subst hd
  exact hk
theorem AcG.at(h:AcG P){l:List Aa0}{p:Bs}(hl:l.length≤1000000){K:Bs×Bool→Unit→Prop}(hk:K (findF l p) ()):Fn P zS3 Abm (l,p) K:=
 (h (l,p) hl).to fun(d:Bs×Bool) _ hd=>by
  have hd:d=findF l p:=hd
  subst hd
  exact hk
end Go.VS

/- The document's differences. -/
set_option linter.unusedVariables false
set_option linter.unusedSimpArgs false
namespace Go.VS
variable{P:Pg}
def Ac6(P:Pg):Prop:=∀x:List Aa0×List Aa0,AbD x.1→AbD x.2→Fn P "mergelens/tree.both" Ab5 x fun(d:Int) _=>d=Acs x.1 x.2
theorem Agt(h:Has P Acl)(hT:AbZ P):Ac6 P:=by
 rintro⟨a,b⟩ ha hb
 dsimp only at ha hb
 refine Aeq h ?_
 unfold Adl Acs
 dsimp only
 refine hT.at ha ⟨fun hc=>?_,fun hc=>?_⟩
 ·rw[if_pos (by simpa using hc)]
 ·rw[if_neg (by simpa using hc)]
  exact hT.at hb rfl
theorem Acn.mono{l:List Aa0}(h:Acn l){i k:Nat}(hk:k<l.length)(hi:i<k):Op.bytesLess (pth l i) (pth l k)=true:=(h k hk i hi).1
end Go.VS

/- The document's list of differences. -/
set_option linter.unusedVariables false
set_option linter.unusedSimpArgs false
namespace Go.VS
variable{P:Pg}
theorem Ad8:∀{l:List Aa0},l.Pairwise (fun x y=>x.1≠y.1)→∀p,findF l p=match Aa9 l p with|some v=>(v,true)|none=>([],false)
 |[],_,p=>rfl
 |f::r,h,p=>by
  have h2:=List.pairwise_cons.1 h
  have ih:=Ad8 h2.2 p
  rw[findF,Aa9]
  by_cases e:f.1=p
  ·rw[if_pos e]
   have hn:Aa9 r p=none:=by
    cases hb:Aa9 r p with
    |none=>rfl
    |some v=>
     obtain⟨g,hg,hgp⟩:=(AbS r p).1 (by rw[hb];rfl)
     exact absurd (e.trans hgp.symm) (h2.1 g hg)
   rw[hn,if_pos e.symm]
  ·rw[if_neg e,ih]
   cases hb:Aa9 r p with
   |some v=>rfl
   |none=>rw[if_neg (fun h=>e h.symm)]
theorem Acn.ne{l:List Aa0}(h:Acn l):l.Pairwise (fun x y=>x.1≠y.1):=by
 rw[List.pairwise_iff_getElem]
 intro i j hi hj hij e
 have h1:=(h j hj i hij).1
 have h2:pth l i=pth l j:=by
  unfold pth
  rw[getD_eq hi,getD_eq hj]
  exact e
 rw[h2,Abo]at h1
 cases h1
end Go.VS

/- What tree.Diff gathers, and that it is the differences once sorted. -/
set_option linter.unusedVariables false
set_option linter.unusedSimpArgs false
namespace Go.VS
variable{P:Pg}
def Acb(b:List Aa0)(f:Aa0):Option Abd:=match Aa9 b f.1 with
 |none=>some (f.1,2)
 |some v=>if v=f.2 then none else some (f.1,3)
def AcK(a:List Aa0)(f:Aa0):Option Abd:=match Aa9 a f.1 with
 |none=>some (f.1,1)
 |some _=>none
def AcQ(a b:List Aa0):List Abd:=a.filterMap (Acb b)++b.filterMap (AcK a)
theorem AdM{b:List Aa0}{f:Aa0}{t:Abd}(h:Acb b f=some t):t.1=f.1:=by
 unfold Acb at h
 split at h
 ·cases h;rfl
 ·split at h
  ·cases h
  ·cases h;rfl
theorem AdA{a:List Aa0}{f:Aa0}{t:Abd}(h:AcK a f=some t):t.1=f.1∧Aa9 a f.1=none:=by
 unfold AcK at h
 split at h
 ·rename_i h1;cases h;exact⟨rfl,h1⟩
 ·cases h
theorem Acn.blob{l:List Aa0}(h:Acn l){f:Aa0}(hf:f∈l):Aa9 l f.1=some f.2:=by
 have h1:=h.ne
 clear h
 induction l with
 |nil=>cases hf
 |cons g r ih=>
  have h2:=List.pairwise_cons.1 h1
  rw[Aa9]
  rcases List.mem_cons.1 hf with rfl|hf
  ·cases hb:Aa9 r f.1 with
   |none=>dsimp only;rw[if_pos rfl]
   |some v=>
    obtain⟨g,hg,he⟩:=(AbS r f.1).1 (by rw[hb];rfl)
    exact absurd he.symm (h2.1 g hg)
  ·rw[ih hf h2.2]
theorem Acn.AeM{l:List Aa0}(h:Acn l){p v:Bs}:Aa9 l p=some v↔(p,v)∈l:=by
 constructor
 ·intro hb
  obtain⟨f,hf,rfl⟩:=(AbS l p).1 (by rw[hb];rfl)
  have:=h.blob hf
  rw[this]at hb
  cases hb
  exact hf
 ·intro hf
  exact h.blob hf
theorem Agf{a b:List Aa0}(ha:Acn a)(hb:Acn b)(p:Bs)(k:Int):(p,k)∈AcQ a b↔Adq a b p=some k:=by
 unfold AcQ Adq
 rw[List.mem_append,List.mem_filterMap,List.mem_filterMap]
 constructor
 ·rintro(⟨f,hf,h⟩|⟨f,hf,h⟩)
  ·have h1:=AdM h
   have h1:p=f.1:=h1
   subst h1
   rw[ha.blob hf]
   unfold Acb at h
   split at h
   ·rename_i h2;rw[h2];cases h;rfl
   ·rename_i v h2
    rw[h2]
    split at h
    ·cases h
    ·rename_i h3
     cases h
     dsimp only
     rw[if_neg (fun e=>h3 e.symm)]
  ·obtain⟨h1,h2⟩:=AdA h
   have h1:p=f.1:=h1
   subst h1
   rw[h2,hb.blob hf]
   unfold AcK at h
   rw[h2]at h
   cases h;rfl
 ·intro h
  cases h1:Aa9 a p with
  |none=>
   cases h2:Aa9 b p with
   |none=>rw[h1,h2]at h;cases h
   |some v=>
    rw[h1,h2]at h
    cases h
    exact .inr ⟨(p,v),hb.AeM.1 h2,by unfold AcK;rw[h1]⟩
  |some u=>
   refine .inl ⟨(p,u),ha.AeM.1 h1,?_⟩
   unfold Acb
   cases h2:Aa9 b p with
   |none=>rw[h1,h2]at h;cases h;rfl
   |some v=>
    rw[h1,h2]at h
    dsimp only at h⊢
    split at h
    ·cases h
    ·rename_i h3
     cases h
     rw[if_neg (fun e=>h3 e.symm)]
theorem AeQ{l:List Aa0}(h:l.Pairwise fun x y=>x.1≠y.1){g:Aa0→Option Abd}(hg:∀f t,g f=some t→t.1=f.1):(l.filterMap g).Pairwise fun x y=>x.1≠y.1:=
 h.filterMap g fun x y hxy t ht u hu=>by rw[hg x t ht,hg y u hu];exact hxy
theorem AgC{a b:List Aa0}(ha:Acn a)(hb:Acn b):(AcQ a b).Pairwise fun x y=>x.1≠y.1:=by
 unfold AcQ
 refine List.pairwise_append.2 ⟨AeQ ha.ne fun _ _ h=>AdM h,AeQ hb.ne fun _ _ h=>(AdA h).1,fun x hx y hy e=>?_⟩
 obtain⟨f,hf,h1⟩:=List.mem_filterMap.1 hx
 obtain⟨g,hg,h2⟩:=List.mem_filterMap.1 hy
 obtain⟨h3,h4⟩:=AdA h2
 rw[←h3,←e,AdM h1,ha.blob hf]at h4
 cases h4
theorem AeD(a b:List Aa0):(AcQ a b).length≤a.length+b.length:=by
 unfold AcQ
 rw[List.length_append]
 exact Nat.add_le_add (List.length_filterMap_le ..) (List.length_filterMap_le ..)
theorem Adp{a b:List Aa0}(ha:Acn a)(hb:Acn b){d:List Abd}(hp:d.Perm (AcQ a b))(hs:d.Pairwise fun x y=>Op.bytesLess y.1 x.1=false):Acy a b d:=by
 refine⟨?_,fun p k=>by rw[hp.mem_iff,Agf ha hb]⟩
 have hn:d.Pairwise fun x y=>x.1≠y.1:=hp.symm.pairwise (AgC ha hb) fun h e=>h e.symm
 unfold Ahm
 refine(hs.and hn).imp ?_
 rintro x y ⟨h1,h2⟩
 rcases Acr h2 with h3|h3
 ·exact h3
 ·rw[h3]at h1;cases h1
end Go.VS

/- What performing differences gives, and that it is one tree. -/
set_option linter.unusedVariables false
set_option linter.unusedSimpArgs false
namespace Go.VS
variable{P:Pg}
theorem Adi{α:Type}[DecidableEq α]:∀{l m:List α},l.Nodup→(∀x∈l,x∈m)→l.length≤m.length
 |[],_,_,_=>Nat.zero_le _
 |a::l,m,hn,hs=>by
  have h2:=List.nodup_cons.1 hn
  have ha:=hs a (List.mem_cons_self ..)
  have ih:=Adi (m:=m.erase a) h2.2 fun x hx=>(List.mem_erase_of_ne (show x≠a from fun e=>h2.1 (by rw[←e];exact hx))).2 (hs x (List.mem_cons_of_mem _ hx))
  rw[List.length_erase_of_mem ha]at ih
  have:=List.length_pos_of_mem ha
  rw[List.length_cons]
  omega
end Go.VS
