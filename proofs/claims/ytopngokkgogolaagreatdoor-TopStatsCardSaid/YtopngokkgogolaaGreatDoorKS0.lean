/- Contracts of the functions. -/
import Derived.Test.YtopngokkgogolaaGreatDoorFwD
import Derived.IntWalk
import Derived.Test.YtopngokkgogolaaGreatDoorKGf0
import Derived.Test.YtopngokkgogolaaGreatDoorKGf1
import Derived.Test.YtopngokkgogolaaGreatDoorKGf2
import Derived.Lib.ItoaNum
import Derived.KernelRfl
set_option linter.unusedVariables false
set_option linter.unusedSimpArgs false
set_option linter.unusedSectionVars false
open Int renaming le_refl → Qa0, natCast_nonneg → Qa1, toNat → Qb3, zero_add → Qc0, tmod_eq_emod_of_nonneg → Qc4, fdiv → Qd7, le_of_lt → Qe8
open List renaming mem_cons_of_mem → Qa2, length_cons → Qa3, length → Qa4, take_of_length_le → Qa5, mem_cons_self → Qa6, length_append → Qa7, getD_eq_getElem?_getD → Qa9, drop_of_length_le → Qb0, getElem?_eq_getElem → Qb2, pairwise_iff_getElem → Qb4, map_append → Qb5, take_append_drop → Qb6, length_map → Qb7, getElem?_of_mem → Qb8, length_take → Qb9, count_append → Qc1, nodup_iff_pairwise_ne → Qc5, drop_eq_getElem_cons → Qc6, length_nil → Qc7, getElem?_take_of_lt → Qc8, range → Qc9, count_cons_self → Qd0, count_le_length → Qd1, mem_of_getElem? → Qd4, mem_of_mem_take → Qd6, replicate → Qd8, take → Qe0, map_cons → Qe1, any_eq_false → Qe2, pairwise_map → Qe3, getElem?_eq_some_iff → Qe4, cons_append → Qe5, all_eq_true → Qe6, length_drop → Qe9, drop → Qf0, length_set → Qf2, append_nil → Qf3, drop_eq_nil_of_le → Qf4, count_cons_of_ne → Qf5, length_singleton → Qf6, drop_drop → Qf7, mem_erase_of_ne → Qf8, getD → Qf9, Perm → Qg0
open BitVec renaming ofInt → Qa8, toNat → Qc2
open Nat renaming le_refl → Qb1, not_lt_zero → Qd2, le_trans → Qd3, pow_le_pow_right → Qd5, zero_le → Qd9
open Bool renaming and_eq_true → Qc3, cond_eq_ite → Qe7, or_eq_true → Qf1
namespace Go.VS
theorem Ac.of{D:Type}{body:(D→Prop)→Prop}{rest:D→Prop}(h:body rest):Ac body rest:=⟨rest,h,fun _ h=>h⟩
theorem Ac.mid{D:Type}{body:(D→Prop)→Prop}{rest:D→Prop}(J:D→Prop)(h:body J)(h2:∀d,J d→rest d):Ac body rest:=⟨J,h,h2⟩
theorem AJ.of{D:Type}{x:D}{body:D→(D→Prop)→Prop}(I:D→Prop)(m:D→Nat)(h0:I x)(hs:∀d,I d→body d fun d'=>I d'∧m d'<m d):AJ x body:=by
 refine⟨fun n d=>I d∧m d=n,⟨_,h0,rfl⟩,?_⟩;rintro n d ⟨hI,rfl⟩
 have:(fun d'=>∃k,k<m d∧I d'∧m d'=k)=fun d'=>I d'∧m d'<m d:=by
  grind
 grind
theorem Fn.to{P:Pg}{nm:String}{S:Sig}{x:DP S.ps}{K K':DP S.rs→DP (ptrs S.ps)→Prop}(h:Fn P nm S x K)(hk:∀d e,K d e→K' d e):Fn P nm S x K':=h.mono hk
theorem w64{n:Int}(h1:-9223372036854775808≤n)(h2:n≤9223372036854775807):IntKind.i64.wrap n=n:=by grind [IntKind.wrap_i64]
theorem Art{n:Int}(h1:0≤n)(h2:n≤18446744073709551615):IntKind.u64.wrap n=n:=by grind [IntKind.wrap_u64]
theorem getD_eq{α:Type}{l:List α}{i:Nat}{d:α}(h:i<l.length):l.getD i d=l[i]:=zg
theorem Be{α:Type}{l:List α}{i:Nat}{d:α}(h:i<l.length):l.getD i d∈l:=zg
theorem FU{α:Type}{l:List α}{i j:Nat}{x d:α}(h:i<l.length):(l.set i x).getD j d=if i=j then x else l.getD j d:=by
 grind
theorem T9{α:Type}{l m:List α}{i:Nat}{d:α}(h:i<l.length):(l++m).getD i d=l.getD i d:=by
 grind
theorem AkF{α:Type}(d:α){l m:List α}(h:l.length=m.length)(hi:∀i,i<l.length→l.getD i d=m.getD i d):l=m:=by
 grind [List.ext_getElem,getD_eq]
variable{P:Pg}
@[irreducible] def HU(a n:Int):Int:=IntKind.i64.wrap (Int.tmod (IntKind.u64.wrap a) (IntKind.u64.wrap n))
theorem Aat(n:Int):0≤IntKind.u64.wrap n∧IntKind.u64.wrap n≤18446744073709551615:=by grind [IntKind.wrap_u64]
theorem Ew{a n:Int}(h1:1≤n)(h2:n≤9223372036854775807):0≤HU a n∧HU a n<n:=by
 unfold HU;rw[Art (n:=n) zm zm];have h:=Aat a;rw[Qc4 h.1];have e1:=Int.emod_nonneg (IntKind.u64.wrap a) (show n≠0 by omega);have e2:=Int.emod_lt_of_pos (IntKind.u64.wrap a) (show 0<n by omega)
 grind [w64]
def Ng(P:Pg):Prop:=∀x:Int×Int,1≤x.2→x.2≤9223372036854775807→Fn P zS2 B8 x fun d _=>d=HU x.1 x.2
theorem Aqg(h:Hq P Ps):Ng P:=by
 intro x h1 h2<;>grind [Afr,Zv,Art,HU]
theorem Ng.at(h:Ng P){a n:Int}(h1:1≤n)(h2:n≤9223372036854775807){K:Int→Unit→Prop}(hk:K (HU a n) ()):Fn P zS2 B8 (a,n) K:=(h (a,n) h1 h2).to fun(d:Int) e hd=>by
 have hd:d=HU a n:=hd;subst hd;exact hk
abbrev Bs:=List UInt8
def spN(acc:Bs):Bs→List Bs
 |[]=>[acc]
 |b::r=>if b=47 then acc::spN [] r else spN (acc++[b]) r
def UT(n:Bs):Bool:=!(n==[]||n==[46]||n==[46,46])
def Gq(s:Bs):Int:=if s.length>200∨(0:UInt8)∈s then 210 else if(spN [] s).all UT then 0 else 210
def HK(P:Pg):Prop:=∀s:Bs,s.length≤140737488351232→Fn P AqC ED s fun(d:Int) _=>d=Gq s
theorem Aeb:∀(l acc r:Bs),(∀b∈l,b≠47)→spN acc (l++47::r)=(acc++l)::spN [] r
 |[],acc,r,h=>by rw[List.nil_append,spN,if_pos rfl];simp
 |b::l,acc,r,h=>by
  rw[Qe5,spN,if_neg (h b (Qa6 ..)),Aeb l _ r fun c hc=>h c (Qa2 _ hc)];simp
theorem AlJ:∀(l acc:Bs),(∀b∈l,b≠47)→spN acc l=[acc++l]
 |[],acc,h=>by simp[spN]
 |b::l,acc,h=>by
  rw[spN,if_neg (h b (Qa6 ..)),AlJ l _ fun c hc=>h c (Qa2 _ hc)];simp
theorem AoP:∀s:Bs,(∀b∈s,b≠47)∨∃l r,s=l++47::r∧∀b∈l,b≠47
 |[]=>.inl zsz
 |b::s=>by
  by_cases hb:b=47
  ·subst hb;exact .inr ⟨[],s,rfl,zsz⟩
  ·rcases AoP s with h|⟨l,r,rfl,h⟩<;>grind
abbrev Av:=Bs×Bs
def B7:List Av→Bs→Option Bs
 |[],_=>none
 |f::r,p=>match B7 r p with
  |some v=>some v
  |none=>if p=f.1 then some f.2 else none
def Ahq(l:List Av)(p:Bs):Bool:=(Qc9 p.length).any fun i=>(B7 l (p.take i)).isSome&&(p.getD i 0==47)
def XV(l:List Av):Bool:=(Qc9 l.length).all fun i=>(i==0||Op.bytesLess (l.getD (i -1) ([],[])).1 (l.getD i ([],[])).1)&&!Ahq l (l.getD i ([],[])).1
def QL(P:Pg):Prop:=∀l:List Av,l.length≤1000000→(∀f∈l,f.1.length≤140737488351232∧f.2.length≤140737488351232)→Fn P "mergelens/tree.ordered" HI l fun(d:Bool) _=>d=XV l
theorem Aih{s:Bs}{i:Nat}(h:i<s.length):s.drop i=s.getD i 0::s.drop (i+1):=by
 simp_all
theorem byI(b c:UInt8):(((b.toNat:Nat):Int)==((c.toNat:Nat):Int))=(b==c):=by
 grind [beq_eq_false_iff_ne,UInt8.toNat_inj]
theorem Ary(b:UInt8):(((b.toNat:Nat):Int)==(47:Int))=(b==47):=byI b 47
theorem HK.at(h:HK P){s:Bs}(hs:s.length≤140737488351232){K:Int→Unit→Prop}(hk:K (Gq s) ()):Fn P AqC ED s K:=
 (h s hs).to fun(d:Int) _ hd=>by
  have hd:d=Gq s:=hd;subst hd;exact hk
@[irreducible] def atX(raw:List Int)(k:Int):Int:=
 if((Qa4 raw:Nat):Int)>0 then(IntKind.u64.wrap ((Qc2 (Qa8 IntKind.u64.bits (IntKind.u64.wrap ((IntKind.u64.wrap (IntKind.i64.wrap (k+(1:Int))))*(11400714819323198485:Int)))^^^Qa8 IntKind.u64.bits (IntKind.u64.wrap (Qf9 raw (Qb3 (Int.tmod k ((Qa4 raw:Nat):Int))) (0:Int)))):Nat):Int))
 else(IntKind.u64.wrap ((IntKind.u64.wrap (IntKind.i64.wrap (k+(1:Int))))*(11400714819323198485:Int)))
@[irreducible] def atY(d2:Int):Int:=IntKind.u64.wrap ((Qc2 (Qa8 IntKind.u64.bits (IntKind.u64.wrap ((IntKind.u64.wrap ((Qc2 (Qa8 IntKind.u64.bits d2^^^Qa8 IntKind.u64.bits (Qd7 d2 (2^(min (Qb3 (31:Int)) IntKind.u64.bits)))):Nat):Int))*(13787848793156543929:Int)))^^^Qa8 IntKind.u64.bits (Qd7 (IntKind.u64.wrap ((IntKind.u64.wrap ((Qc2 (Qa8 IntKind.u64.bits d2^^^Qa8 IntKind.u64.bits (Qd7 d2 (2^(min (Qb3 (31:Int)) IntKind.u64.bits)))):Nat):Int))*(13787848793156543929:Int))) (2^(min (Qb3 (29:Int)) IntKind.u64.bits)))):Nat):Int)
@[irreducible] def atF(raw:List Int)(k:Int):Int:=IntKind.i64.wrap (Qd7 (atY (atX raw k)) (2^(min (Qb3 (1:Int)) IntKind.u64.bits)))
theorem Ah0(raw:List Int)(k:Int):0≤atF raw k∧atF raw k≤9223372036854775807:=by
 unfold atF
 have e:((2:Int)^(min (Qb3 (1:Int)) IntKind.u64.bits))=2:=zdz
 rw[e]
 have h:=Aat ((Qc2 (Qa8 IntKind.u64.bits (IntKind.u64.wrap ((IntKind.u64.wrap ((Qc2 (Qa8 IntKind.u64.bits (atX raw k)^^^Qa8 IntKind.u64.bits (Qd7 (atX raw k) (2^(min (Qb3 (31:Int)) IntKind.u64.bits)))):Nat):Int))*(13787848793156543929:Int)))^^^Qa8 IntKind.u64.bits (Qd7 (IntKind.u64.wrap ((IntKind.u64.wrap ((Qc2 (Qa8 IntKind.u64.bits (atX raw k)^^^Qa8 IntKind.u64.bits (Qd7 (atX raw k) (2^(min (Qb3 (31:Int)) IntKind.u64.bits)))):Nat):Int))*(13787848793156543929:Int))) (2^(min (Qb3 (29:Int)) IntKind.u64.bits)))):Nat):Int)
 grind [atY,atX,w64]
def Qd(P:Pg):Prop:=∀x:List Int×Int,0≤x.2→Fn P zS0 BC x fun d _=>d=atF x.1 x.2
theorem Ark(h:Hq P Rp):Qd P:=by
 intro x h1;refine Aiq h ?_;unfold Ab1
 refine Ac.mid (fun d=>d=atX x.1 x.2) ⟨fun hc=>?_,fun hc=>?_⟩ fun d hd=>⟨zdz,zdz,zdz,?_⟩
 ·have hc:((Qa4 x.1:Nat):Int)>0:=of_decide_eq_true hc;have e1:(Int.tmod x.2 ((Qa4 x.1:Nat):Int))=x.2%(Qa4 x.1:Nat):=Qc4 h1;have e2:=Int.emod_nonneg x.2 (show((Qa4 x.1:Nat):Int)≠0 by omega);have e3:=Int.emod_lt_of_pos x.2 hc
  grind [atX]
 ·grind [atX]
 grind [atF,atY]
theorem Qd.at(h:Qd P){raw:List Int}{k:Int}(h1:0≤k){K:Int→Unit→Prop}(hk:K (atF raw k) ()):Fn P zS0 BC (raw,k) K:=(h (raw,k) h1).to fun(d:Int) e hd=>by
 have hd:d=atF raw k:=hd;subst hd;exact hk
def lnN(acc:Bs):Bs→List Bs
 |[]=>[]
 |b::r=>if b=10∨r=[]then(acc++[b])::lnN [] r else lnN (acc++[b]) r
def lnF(s:Bs):List Bs:=lnN [] s
def Nf(P:Pg):Prop:=∀s:Bs,s.length≤100000000→Fn P AjF Da s fun(d:List Bs) _=>d=lnF s
theorem Agq(h:Hq P IH):Nf P:=by
 intro s hs;refine W9 h ?_;unfold Qh
 refine Ac.mid (fun q=>q=lnF s) ?_ fun q hq=>hq
 refine AJ.of (fun q=>0≤q.2.1∧q.2.1≤q.2.2∧q.2.2≤s.length∧(q.1.length:Int)≤q.2.2∧q.1++lnN (Qf0 q.2.1.toNat (Qe0 q.2.2.toNat s)) (s.drop q.2.2.toNat)=lnF s) (fun q=>(s.length -q.2.2).toNat) ⟨zdz,zdz,zg,zsz,by rfl⟩ ?_;rintro⟨o,f,i⟩ ⟨f0,f1,i1,ho,e⟩;dsimp only at f0 f1 i1 ho e⊢;refine⟨fun hc=>?_,fun hc=>?_⟩
 ·have hc:=of_decide_eq_true hc;rw[w64 (n:=i+1) zm zm]
  have hi:i.toNat<s.length:=zm
  have hd:s.drop i.toNat=s.getD i.toNat 0::s.drop (i.toNat+1):=by
   simp_all
  have e1:(i+1).toNat=i.toNat+1:=zm
  have hdr:Qf0 f.toNat (Qe0 (i.toNat+1) s)=Qf0 f.toNat (Qe0 i.toNat s)++[s.getD i.toNat 0]:=by
   grind
  rw[hd,lnN]at e
  have hnil:s.drop (i.toNat+1)=[]↔i+1=s.length:=by
   rw[List.drop_eq_nil_iff];omega
  refine Ac.mid (fun q=>0≤q.2∧q.2≤i+1∧(q.1.length:Int)≤i+1∧q.1++lnN (Qf0 q.2.toNat (Qe0 (i.toNat+1) s)) (s.drop (i.toNat+1))=lnF s) ⟨⟨zm,hc⟩,Ac.of ⟨fun hb=>?_,fun hb=>?_⟩⟩ ?_
  ·rw[if_pos (by
    simp at hb
    rcases hb with hb|hb
    ·refine Or.inl ?_;rw[Qa9];exact UInt8.toNat_inj.1 zg
    grind)]at e
   grind
  ·rw[if_neg (by
    simp at hb;rintro(hh|hh)
    ·simp_all
    grind)]at e
   grind
  grind
 grind [of_decide_eq_false,List.drop_length,lnN]
def saN(acc:Bs):Bs→List Bs
 |[]=>[acc]
 |b::r=>if b=10 then(acc++[b])::saN [] r else saN (acc++[b]) r
def saF(s:Bs):List Bs:=saN [] s
def RW(s:Bs):Bool:=([10]:Bs).isSuffixOf s
def AgY(s:Bs):Bs:=if RW s=true then s.take (s.length -1)else s
def G7(P:Pg):Prop:=∀s:Bs,Fn P "strings.Count" Ds (s,[10]) fun(d:Int) _=>d=((s.count 10:Nat):Int)
def FP(P:Pg):Prop:=∀s:Bs,s.length≤140737488351232→Fn P "strings.HasSuffix" CF (s,[10]) fun(d:Bool) _=>d=RW s
def JM(P:Pg):Prop:=∀s:Bs,s.length≤140737488351232→Fn P "strings.TrimSuffix" Dc (s,[10]) fun(d:Bs) _=>d=AgY s
def Du(P:Pg):Prop:=∀s:Bs,s.length≤4000000000→Fn P "strings.SplitAfter" Cu (s,[10]) fun(d:List Bs) _=>d=saF s
theorem G7.at(h:G7 P){s:Bs}{K:Int→Unit→Prop}(hk:K ((s.count 10:Nat):Int) ()):Fn P "strings.Count" Ds (s,[10]) K:=
 (h s).to fun(d:Int) _ hd=>by
  have hd:d=((s.count 10:Nat):Int):=hd;subst hd;exact hk
theorem FP.at(h:FP P){s:Bs}(hs:s.length≤140737488351232){K:Bool→Unit→Prop}(hk:K (RW s) ()):Fn P "strings.HasSuffix" CF (s,[10]) K:=
 (h s hs).to fun(d:Bool) _ hd=>by
  have hd:d=RW s:=hd;subst hd;exact hk
theorem JM.at(h:JM P){s:Bs}(hs:s.length≤140737488351232){K:Bs→Unit→Prop}(hk:K (AgY s) ()):Fn P "strings.TrimSuffix" Dc (s,[10]) K:=
 (h s hs).to fun(d:Bs) _ hd=>by
  have hd:d=AgY s:=hd;subst hd;exact hk
theorem Du.at(h:Du P){s:Bs}(hs:s.length≤4000000000){K:List Bs→Unit→Prop}(hk:K (saF s) ()):Fn P "strings.SplitAfter" Cu (s,[10]) K:=
 (h s hs).to fun(d:List Bs) _ hd=>by
  have hd:d=saF s:=hd;subst hd;exact hk
theorem Age:∀(s acc:Bs),saN acc s≠[]
 |[],_=>by simp[saN]
 |b::r,acc=>by
  rw[saN];split
  ·simp
  ·exact Age r _
theorem Aiy{α:Type}(a:α)(l:List α)(d:α)(h:l≠[]):(a::l).getD ((a::l).length -1) d=l.getD (l.length -1) d:=by
 grind
theorem WK{α:Type}(a:α)(l:List α)(h:l≠[]):(a::l).dropLast=a::l.dropLast:=by
 cases l<;>grind
theorem AfE:∀(s acc:Bs),(s=[]→acc=[])→lnN acc s=if(saN acc s).getD ((saN acc s).length -1) []=[]then(saN acc s).dropLast else saN acc s
 |[],acc,h=>by
  rw[h rfl];rfl
 |b::r,acc,h=>by
  rw[lnN,saN]
  by_cases hb:b=10
  ·have ih:=AfE r [] fun _=>rfl
   grind [Aiy,Age,WK]
  ·rw[if_neg hb]
   by_cases hr:r=[]
   ·simp_all [saN,lnN]
   ·rw[if_neg zg]
    exact AfE r (acc++[b]) fun h1=>absurd h1 hr
theorem Ak5(s:Bs):lnF s=if(saF s).getD ((saF s).length -1) []=[]then(saF s).dropLast else saF s:=AfE s [] fun _=>rfl
theorem ZI(l:Bs)(b:UInt8):RW (l++[b])=(b==10):=by
 unfold RW
 by_cases h:b=10
 ·grind
 ·rw[show(b==10)=false by grind,Bool.eq_false_iff]
  intro hs<;>simp_all
theorem Abh:∀(s acc:Bs),(lnN acc s).length=s.count 10+(if s≠[]∧RW s=false then 1 else 0)
 |[],acc=>by rfl
 |b::r,acc=>by
  rw[lnN]
  rcases List.eq_nil_or_concat r with rfl|⟨l,c,rfl⟩
  ·rw[if_pos (.inr rfl),show[b]=([]:Bs)++[b]from rfl,ZI]<;>grind [lnN]
  ·have e1:RW (b::l.concat c)=RW (l.concat c):=by
    grind [ZI]
   have hne:l.concat c≠[]:=zsz
   by_cases hb:b=10
   ·subst hb
    rw[if_pos (.inl rfl),Qa3,Abh (l.concat c) [],e1,Qd0]<;>grind
   ·rw[if_neg (by rintro(h1|h1);exact hb h1;exact hne h1),Abh (l.concat c) _,e1,Qf5 (by simpa using hb)]<;>grind
theorem Abf(s:Bs):(lnF s).length=s.count 10+(if s≠[]∧RW s=false then 1 else 0):=Abh s []
def Pw(P:Pg):Prop:=∀s:Bs,s.length≤140737488351232→Fn P Amh Eo s fun(d:Bool) _=>d=RW s
theorem Ajm(h:Hq P F7)(hS:FP P):Pw P:=by
 intro s hs;refine Y0 h ?_;unfold RH;exact hS.at hs rfl
def DC(s:Bs):Int:=if s.length>1048576∨(lnF s).length>4096 then 1 else 0
def Pv(P:Pg):Prop:=∀s:Bs,s.length≤140737488351232→Fn P Ami En s fun(d:Int) _=>d=DC s
theorem Ajl(h:Hq P F6)(hC:G7 P)(hE:Pw P):Pv P:=by
 intro s hs;refine YZ h ?_;unfold RG;refine hC.at ?_;have hcl:=Qd1 (a:=(10:UInt8)) (l:=s);have hl:=Abf s;refine Ac.mid (fun d=>(!(s==([]:Bs)))=true→d=RW s) ⟨fun _=>(hE s hs).to fun(d:Bool) _ hd _=>hd,zg,trivial⟩ ?_;intro d hd
 have hfin:∀n:Int,n=((lnF s).length:Nat)→((cond (decide (((Qa4 s:Nat):Int)>(1048576:Int))) true (decide (n>(4096:Int))))=true→(1:Int)=DC s)∧((cond (decide (((Qa4 s:Nat):Int)>(1048576:Int))) true (decide (n>(4096:Int))))=false→(0:Int)=DC s):=by
  grind [DC,lnF]
 refine Ac.mid (fun n=>n=((lnF s).length:Nat)) ⟨fun hc=>?_,fun hc=>?_⟩ hfin
 ·by_cases hn:s=[]
  ·grind
  ·have hb:(!(s==([]:Bs)))=true:=by grind
   grind [RW,w64]
 grind
def JL(P:Pg):Prop:=∀s:Bs,s.length≤140737488351232→Fn P zS6 BP s fun(d:List Bs×Int) _=>d=if DC s=0 then(lnF s,0)else([],1)
theorem Ajn(h:Hq P F8)(hC:Pv P)(hS:Du P):JL P:=by
 intro s hs;refine Y1 h ?_;unfold RI;refine(hC s hs).to ?_;rintro(d:Int) _ hd;have hd:d=DC s:=hd;subst hd;refine⟨fun hc=>?_,fun hc=>?_⟩
 ·grind [DC]
 ·have hc:DC s=0:=by grind
  rw[if_pos hc]
  have hl:s.length≤1048576:=by
   grind [DC]
  refine hS.at zm ?_;have hne:=Age s [];have hpos:0<(saF s).length:=List.length_pos_iff.2 hne
  have hlen:(saF s).length≤s.length+1:=by
   have:∀(s acc:Bs),(saN acc s).length≤s.length+1:=by
    intro s
    induction s<;>grind [saN]
   exact this s []
  rw[w64 (n:=((saF s).length:Int) -1) zm zm]
  have e1:(((saF s).length:Int) -1).toNat=(saF s).length -1:=zm
  rw[e1];refine⟨⟨zm,zm⟩,zm,Ac.of ⟨fun hb=>⟨⟨zm,zm⟩,zm,?_⟩,fun hb=>?_⟩⟩
  ·have hb:(saF s).getD ((saF s).length -1) []=[]:=by grind
   rw[Ak5,if_pos hb,List.drop_zero,List.dropLast_eq_take]
  grind [saF,Ak5]
theorem JL.at(h:JL P){s:Bs}(hs:s.length≤140737488351232){K:List Bs×Int→Unit→Prop}(hk:K (if DC s=0 then(lnF s,0)else([],1)) ()):Fn P zS6 BP s K:=
 (h s hs).to fun(d:List Bs×Int) _ hd=>by
  have hd:d=if DC s=0 then(lnF s,0)else([],1):=hd
  subst hd;exact hk
theorem Ip:∀x:Bs,Op.bytesLess x x=false
 |[]=>rfl
 |a::x=>by
  unfold Op.bytesLess;rw[Ip x];simp
theorem Mv:∀{x y z:Bs},Op.bytesLess x y=true→Op.bytesLess y z=true→Op.bytesLess x z=true
 |x,y,[],_,h2=>by grind [Op.bytesLess]
 |x,[],c::z,h1,_=>by grind [Op.bytesLess]
 |[],b::y,c::z,_,_=>rfl
 |a::x,b::y,c::z,h1,h2=>by
  unfold Op.bytesLess at h1 h2⊢;simp only[Qf1,Qc3,decide_eq_true_eq,beq_iff_eq]at h1 h2⊢
  rcases h1 with h1|⟨rfl,h1⟩
  ·grind
  ·rcases h2 with h2|⟨rfl,h2⟩
   ·grind
   ·exact .inr ⟨rfl,Mv h1 h2⟩
theorem WE:∀{x y:Bs},x≠y→Op.bytesLess x y=true∨Op.bytesLess y x=true
 |[],[],h=>absurd rfl h
 |[],b::y,_=>.inl rfl
 |a::x,[],_=>.inr rfl
 |a::x,b::y,h=>by
  unfold Op.bytesLess;simp only[Qf1,Qc3,decide_eq_true_eq,beq_iff_eq]
  by_cases hab:a=b
  ·subst hab
   rcases WE (x:=x) (y:=y) (fun e=>h (by rw[e]))with h1|h1<;>grind
  grind
theorem Zz:∀(x:Bs) (b:UInt8) (r:Bs),Op.bytesLess x (x++b::r)=true
 |[],b,r=>rfl
 |a::x,b,r=>by
  rw[Qe5];unfold Op.bytesLess;rw[Zz x b r];simp
theorem AmK{p:Bs}{j:Nat}(h:j<p.length):Op.bytesLess (p.take j) p=true:=by
 grind [Zz,Aih,Qb6]
def AaA(a b:Bs):Bool:=cond (cond (decide (((Qa4 b:Nat):Int)>((Qa4 a:Nat):Int))) ((Qe0 (Qb3 ((Qa4 a:Nat):Int)) b)==a) false) (((UInt8.toNat (Qf9 b (Qb3 ((Qa4 a:Nat):Int)) 0):Nat):Int)==(47:Int)) false
theorem Zw{a b:Bs}:AaA a b=true↔a.length<b.length∧b.take a.length=a∧b.getD a.length 0=47:=by
 grind [AaA,Ary]
theorem JN:∀(l:List Av) (p:Bs),(B7 l p).isSome=true↔∃f∈l,f.1=p
 |[],p=>by simp[B7]
 |f::r,p=>by
  have ih:=JN r p
  grind [B7]
abbrev pth(l:List Av)(i:Nat):Bs:=(l.getD i ([],[])).1
def P8(l:List Av):Prop:=∀i,i<l.length→∀k,k<i→Op.bytesLess (pth l k) (pth l i)=true∧AaA (pth l k) (pth l i)=false
theorem Adw(l:List Av):XV l=true↔P8 l:=by
 unfold XV;rw[Qe6];constructor
 ·intro h
  have hadj:∀i,0<i→i<l.length→Op.bytesLess (pth l (i -1)) (pth l i)=true:=fun i h0 hi=>by
   grind
  have hch:∀i,i<l.length→∀k,k<i→Op.bytesLess (pth l k) (pth l i)=true:=by
   intro i
   induction i<;>grind [Mv]
  intro i hi k hk;refine⟨hch i hi k hk,?_⟩;rw[Bool.eq_false_iff];intro ha;obtain⟨a1,a2,a3⟩:=Zw.1 ha;have hn:=h i (List.mem_range.2 hi);simp only[Qc3,Bool.not_eq_true']at hn;have hn:=hn.2;unfold Ahq at hn;rw[Qe2]at hn
  refine hn (pth l k).length (List.mem_range.2 a1) ?_<;>grind [JN,Be]
 ·intro h i hi;have hi:=List.mem_range.1 hi;simp only[Qc3,Qf1,beq_iff_eq,Bool.not_eq_true'];refine⟨?_,?_⟩
  ·by_cases h0:i=0
   ·grind
   ·exact .inr (h i hi (i -1) zm).1
  ·unfold Ahq;rw[Qe2];intro j hj hb;have hj:j<(pth l i).length:=List.mem_range.1 hj;rw[Qc3]at hb;obtain⟨hb1,hb2⟩:=hb;obtain⟨f,hf,hfe⟩:=(JN l _).1 hb1;obtain⟨m,hm⟩:=Qb8 hf;have hml:m<l.length:=(List.getElem?_eq_some_iff.1 hm).1
   have hpm:pth l m=(pth l i).take j:=by
    grind
   have hlen:((pth l i).take j).length=j:=zg
   rcases Nat.lt_trichotomy m i with h1|h1|h1
   ·have:=(h i hi m h1).2
    grind [Zw]
   ·grind
   ·have h2:=(h m hml i h1).1;have h3:=AmK hj;rw[←hpm]at h3;have h4:=Ip (pth l i)
    grind [Mv]
def Ic(l:List Av):Int:=
 if l.length>200 then 1 else if l.all (fun f=>Gq f.1==0)=false then 210 else if XV l=false then 211 else if l.all (fun f=>DC f.2==0)=false then 1 else 0
def Gp(l:List Av):Prop:=l.length≤1000000∧∀f∈l,f.1.length≤140737488351232∧f.2.length≤140737488351232
theorem Gp.at{l:List Av}(h:Gp l){i:Nat}(hi:i<l.length):(l.getD i ([],[])).1.length≤140737488351232∧(l.getD i ([],[])).2.length≤140737488351232:=h.2 _ (Be hi)
def AeP(P:Pg):Prop:=∀f:Av,f.1.length≤140737488351232→Fn P Aod FL f fun(d:Bool) _=>d=(Gq f.1 !=0)
theorem Aqh(h:Hq P Hz)(hC:HK P):AeP P:=by
 intro f hf;refine Vq h ?_;unfold Oz;exact hC.at hf rfl
def AeQ(P:Pg):Prop:=∀f:Av,f.2.length≤140737488351232→Fn P Aoe FM f fun(d:Bool) _=>d=(DC f.2 !=0)
theorem Aqi(h:Hq P HA)(hC:Pv P):AeQ P:=by
 intro f hf;refine Vr h ?_;unfold OA
 refine(hC _ hf).to ?_<;>simp_all
def AeR(P:Pg):Prop:=∀l:List Av,Gp l→Fn P zS9 AO (l,()) fun(d:Int) _=>decide (d≥0)=l.any fun f=>Gq f.1 !=0
theorem AjW{α:Type}{l:List α}{p:α→Bool}{i:Nat}{d:α}(hi:i<l.length)(h:p (l.getD i d)=true):l.any p=true:=List.any_eq_true.2 ⟨_,Be hi,h⟩
theorem AjX{α:Type}{l:List α}{p:α→Bool}{d:α}(h:∀j,j<l.length→p (l.getD j d)=false):l.any p=false:=by
 rw[Qe2]
 grind [Qb8,Qe4]
theorem Aqj(h:Hq P A7)(hC:AeP P):AeR P:=by
 intro l hl;refine DQ h ?_;unfold Cb;dsimp only
 refine Ac.mid (fun _=>(l.any fun f=>Gq f.1 !=0)=false) ?_ fun _ h=>zg
 refine AJ.of (fun q=>(0≤q.2∧q.2≤l.length)∧∀j,j<q.2.toNat→(Gq (l.getD j ([],[])).1 !=0)=false) (fun q=>(l.length -q.2).toNat) ⟨⟨Qa0 _,zg⟩,fun j hj=>absurd hj zsz⟩ ?_;rintro⟨q,i⟩ ⟨⟨i0,i1⟩,hq⟩;dsimp only at i0 i1 hq⊢;have hln:=hl.1;refine⟨fun hi=>?_,fun hi=>?_⟩
 ·have hi:=of_decide_eq_true hi
  have hi2:i.toNat<l.length:=zm
  refine Ac.mid (fun _=>(Gq (l.getD i.toNat ([],[])).1 !=0)=false) ⟨⟨i0,hi⟩,hi2,(hC _ (hl.at hi2).1).to ?_⟩ fun _ hn=>?_<;>grind [AjW,w64]
 ·have hi:=of_decide_eq_false hi
  exact AjX (d:=([],[])) fun j hj=>hq j zm
def AeS(P:Pg):Prop:=∀l:List Av,Gp l→Fn P zS9 AP (l,()) fun(d:Int) _=>decide (d≥0)=l.any fun f=>DC f.2 !=0
theorem Aqk(h:Hq P A8)(hC:AeQ P):AeS P:=by
 intro l hl;refine DR h ?_;unfold Cc;dsimp only
 refine Ac.mid (fun _=>(l.any fun f=>DC f.2 !=0)=false) ?_ fun _ h=>zg
 refine AJ.of (fun q=>(0≤q.2∧q.2≤l.length)∧∀j,j<q.2.toNat→(DC (l.getD j ([],[])).2 !=0)=false) (fun q=>(l.length -q.2).toNat) ⟨⟨Qa0 _,zg⟩,fun j hj=>absurd hj zsz⟩ ?_;rintro⟨q,i⟩ ⟨⟨i0,i1⟩,hq⟩;dsimp only at i0 i1 hq⊢;have hln:=hl.1;refine⟨fun hi=>?_,fun hi=>?_⟩
 ·have hi:=of_decide_eq_true hi
  have hi2:i.toNat<l.length:=zm
  refine Ac.mid (fun _=>(DC (l.getD i.toNat ([],[])).2 !=0)=false) ⟨⟨i0,hi⟩,hi2,(hC _ (hl.at hi2).2).to ?_⟩ fun _ hn=>?_<;>grind [AjW,w64]
 ·have hi:=of_decide_eq_false hi
  exact AjX (d:=([],[])) fun j hj=>hq j zm
def AeT(P:Pg):Prop:=∀l:List Av,Gp l→Fn P Aez AK (l,()) fun(d:Bool) _=>d=l.any fun f=>Gq f.1 !=0
theorem Aql(h:Hq P A0)(hI:AeR P):AeT P:=by
 intro l hl;refine Dx h ?_;unfold B3
 exact(hI l hl).to fun(d:Int) _ hd=>hd
def AeU(P:Pg):Prop:=∀l:List Av,Gp l→Fn P Aez AL (l,()) fun(d:Bool) _=>d=l.any fun f=>DC f.2 !=0
theorem Aqm(h:Hq P A4)(hI:AeS P):AeU P:=by
 intro l hl;refine Dy h ?_;unfold B4
 exact(hI l hl).to fun(d:Int) _ hd=>hd
theorem Ao9{α:Type}(l:List α)(p:α→Int):(l.any fun f=>p f !=0)=!(l.all fun f=>p f==0):=by
 grind
def Gb(P:Pg):Prop:=∀l:List Av,Gp l→Fn P AeA CA l fun(d:Int) _=>d=Ic l
theorem AbM(h:Hq P Hy)(h1:AeT P)(hO:QL P)(h2:AeU P):Gb P:=by
 intro l hl;refine Qo h ?_;unfold Ni;unfold Ic
 refine Ac.mid (fun _=>l.length≤200∧l.all (fun f=>Gq f.1==0)=true∧XV l=true∧l.all (fun f=>DC f.2==0)=true) ?_ fun _ hh=>by
  grind
 refine⟨fun hc=>?_,fun hc=>?_⟩
 ·grind
 have hc:=of_decide_eq_false hc;rw[if_neg zm];refine(h1 l hl).to ?_;rintro(d:Bool) _ hd;have hd:d=_:=hd;rw[Ao9 l fun f=>Gq f.1]at hd;subst hd;refine⟨fun hb=>?_,fun hb=>?_⟩
 ·grind
 have hb:l.all (fun f=>Gq f.1==0)=true:=zg
 rw[if_neg zg];refine(hO l hl.1 hl.2).to ?_;rintro(d:Bool) _ hd;have hd:d=XV l:=hd;subst hd;refine⟨fun hb2=>?_,fun hb2=>?_⟩
 ·grind
 have hb2:XV l=true:=zg
 rw[if_neg zg]
 refine(h2 l hl).to ?_<;>grind
theorem Gb.at(h:Gb P){l:List Av}(hl:Gp l){K:Int→Unit→Prop}(hk:K (Ic l) ()):Fn P AeA CA l K:=
 (h l hl).to fun(d:Int) _ hd=>by
  have hd:d=Ic l:=hd;subst hd;exact hk
abbrev BF:=Bs×Int
def Ac2(a b:List Av)(p:Bs):Option Int:=match B7 a p,B7 b p with
 |none,some _=>some 1
 |some _,none=>some 2
 |some x,some y=>if x=y then none else some 3
 |none,none=>none
def An2(l:List BF):Prop:=l.Pairwise fun x y=>Op.bytesLess x.1 y.1=true
theorem AhI:∀{l m:List BF},An2 l→An2 m→(∀t,t∈l↔t∈m)→l=m
 |[],[],_,_,_=>rfl
 |[],b::m,_,_,h=>by grind [Qa6]
 |a::l,[],_,_,h=>by grind [Qa6]
 |a::l,b::m,hl,hm,h=>by
  have hl2:=List.pairwise_cons.1 hl;have hm2:=List.pairwise_cons.1 hm
  have hab:a=b:=by
   grind [Mv,Ip]
  subst hab
  rw[AhI hl2.2 hm2.2 fun t=>⟨fun ht=>?_,fun ht=>?_⟩]<;>grind [Ip]
def Qx(a b:List Av)(d:List BF):Prop:=An2 d∧∀p k,(p,k)∈d↔Ac2 a b p=some k
theorem UY{a b:List Av}{d e:List BF}(hd:Qx a b d)(he:Qx a b e):d=e:=
 AhI hd.1 he.1 fun t=>by
  obtain⟨p,k⟩:=t;rw[hd.2,he.2]
def OI(a b:List Av):Int:=if Ic a≠0 then Ic a else Ic b
def Mo(P:Pg):Prop:=∀x:List Av×List Av,Gp x.1→Gp x.2→Fn P Aok Hc x fun(d:List BF×Int) _=>d.2=OI x.1 x.2∧(d.2≠0→d.1=[])∧(d.2=0→Qx x.1 x.2 d.1)
def findF:List Av→Bs→Bs×Bool
 |[],_=>([],false)
 |f::r,p=>if f.1=p then(f.2,true)else findF r p
theorem Aip{l:List Av}{i:Nat}(hi:i<l.length)(p:Bs):findF (l.drop i) p=if(l.getD i ([],[])).1=p then((l.getD i ([],[])).2,true)else findF (l.drop (i+1)) p:=by
 rw[Qc6 hi,findF,getD_eq hi]
def Mp(P:Pg):Prop:=∀x:List Av×Bs,x.1.length≤1000000→Fn P zS5 Ca x fun(d:Bs×Bool) _=>d=findF x.1 x.2
theorem AlX(h:Hq P Hb):Mp P:=by
 rintro⟨l,p⟩ hl;dsimp only at hl;refine AaY h ?_;unfold UH;dsimp only
 refine Ac.mid (fun _=>findF l p=([],false)) ?_ fun _ h=>h.symm
 refine AJ.of (fun q=>(0≤q.2.2∧q.2.2≤l.length)∧findF (l.drop q.2.2.toNat) p=findF l p) (fun q=>(l.length -q.2.2).toNat) ⟨⟨Qa0 _,zg⟩,rfl⟩ ?_;rintro⟨q1,q2,i⟩ ⟨⟨i0,i1⟩,hq⟩;dsimp only at i0 i1 hq⊢;refine⟨fun hi=>?_,fun hi=>?_⟩
 ·have hi:=of_decide_eq_true hi
  have hi2:i.toNat<l.length:=zm
  rw[Aip hi2]at hq
  refine Ac.mid (fun _=>(l.getD i.toNat ([],[])).1≠p) ⟨⟨i0,hi⟩,hi2,fun hb=>?_,fun hb=>beq_eq_false_iff_ne.1 hb⟩ fun _ hn=>?_<;>grind [w64]
 ·have hi:=of_decide_eq_false hi;rw[Qb0 zm]at hq;exact hq.symm
theorem Mp.at(h:Mp P){l:List Av}{p:Bs}(hl:l.length≤1000000){K:Bs×Bool→Unit→Prop}(hk:K (findF l p) ()):Fn P zS5 Ca (l,p) K:=
 (h (l,p) hl).to fun(d:Bs×Bool) _ hd=>by
  have hd:d=findF l p:=hd;subst hd;exact hk
def Wn(P:Pg):Prop:=∀x:List Av×List Av,Gp x.1→Gp x.2→Fn P "mergelens/tree.both" LA x fun(d:Int) _=>d=OI x.1 x.2
theorem AlW(h:Hq P Lr)(hT:Gb P):Wn P:=by
 rintro⟨a,b⟩ ha hb;dsimp only at ha hb;refine AaZ h ?_;unfold UI OI;dsimp only;refine hT.at ha ⟨fun hc=>?_,fun hc=>?_⟩
 ·grind
 ·rw[if_neg zg];exact hT.at hb rfl
theorem P8.mono{l:List Av}(h:P8 l){i k:Nat}(hk:k<l.length)(hi:i<k):Op.bytesLess (pth l i) (pth l k)=true:=(h k hk i hi).1
theorem P8.ne{l:List Av}(h:P8 l):l.Pairwise (fun x y=>x.1≠y.1):=by
 rw[Qb4];intro i j hi hj hij e;have h1:=(h j hj i hij).1;simp_all [pth,getD_eq,Ip]
def Mg{α:Type}(f:α→Int):List α→Int
 |[]=>0
 |x::l=>f x+Mg f l
theorem Hi{α:Type}(f:α→Int):∀l m:List α,Mg f (l++m)=Mg f l+Mg f m
 |[],m=>by simp[Mg]
 |x::l,m=>by rw[Qe5,Mg,Mg,Hi f l m];omega
abbrev Al:=List Int×(Int×List Av)
def Bf(g:List Al)(c:Int):List Int:=(g.getD c.toNat ([],(0,[]))).1
def inR(g:List Al)(c:Int):Prop:=0≤c∧c<g.length
def YK(g:List Al):Prop:=∀c,inR g c→∀p∈Bf g c,inR g p
inductive Rch (g:List Al):Int→Int→Prop
 |refl (c:Int):Rch g c c
 |step {c p x:Int} (h:p∈Bf g c) (t:Rch g p x):Rch g c x
theorem Rch.trans{g:List Al}{a b c:Int}(h:Rch g a b)(k:Rch g b c):Rch g a c:=by
 induction h with
 |refl=>exact k
 |step h _ ih=>exact .step h (ih k)
theorem Rch.snoc{g:List Al}{a b p:Int}(h:Rch g a b)(k:p∈Bf g b):Rch g a p:=h.trans (.step k (.refl p))
theorem Rch.inR{g:List Al}(hv:YK g){a b:Int}(h:Rch g a b)(ha:inR g a):Go.VS.inR g b:=by
 induction h with
 |refl=>exact ha
 |step h _ ih=>exact ih (hv _ ha _ h)
def JG(b:List Av)(f:Av):Option BF:=match B7 b f.1 with
 |none=>some (f.1,2)
 |some v=>if v=f.2 then none else some (f.1,3)
def OD(a:List Av)(f:Av):Option BF:=match B7 a f.1 with
 |none=>some (f.1,1)
 |some _=>none
def Qp(a b:List Av):List BF:=a.filterMap (JG b)++b.filterMap (OD a)
theorem Yb{b:List Av}{f:Av}{t:BF}(h:JG b f=some t):t.1=f.1:=by
 grind [JG]
theorem Wu{a:List Av}{f:Av}{t:BF}(h:OD a f=some t):t.1=f.1∧B7 a f.1=none:=by
 grind [OD]
theorem P8.blob{l:List Av}(h:P8 l){f:Av}(hf:f∈l):B7 l f.1=some f.2:=by
 have h1:=h.ne;clear h
 induction l with
 |nil=>cases hf
 |cons g r ih=>
  have h2:=List.pairwise_cons.1 h1
  grind [B7,JN]
theorem P8.Adk{l:List Av}(h:P8 l){p v:Bs}:B7 l p=some v↔(p,v)∈l:=by
 constructor
 ·intro hb;obtain⟨f,hf,rfl⟩:=(JN l p).1 zg;have:=h.blob hf
  grind
 ·intro hf;exact h.blob hf
theorem Ak9{a b:List Av}(ha:P8 a)(hb:P8 b)(p:Bs)(k:Int):(p,k)∈Qp a b↔Ac2 a b p=some k:=by
 unfold Qp Ac2;rw[List.mem_append,List.mem_filterMap,List.mem_filterMap];constructor
 ·rintro(⟨f,hf,h⟩|⟨f,hf,h⟩)
  ·have h1:=Yb h;have h1:p=f.1:=h1;subst h1
   rw[ha.blob hf]<;>grind [JG]
  ·obtain⟨h1,h2⟩:=Wu h;have h1:p=f.1:=h1;subst h1
   rw[h2,hb.blob hf]<;>grind [OD]
 ·intro h
  cases h1:B7 a p with
  |none=>
   cases h2:B7 b p with
   |none=>grind
   |some v=>
    rw[h1,h2]at h;cases h;exact .inr ⟨(p,v),hb.Adk.1 h2,by grind [OD]⟩
  |some u=>
   refine .inl ⟨(p,u),ha.Adk.1 h1,?_⟩<;>grind [JG,B7]
theorem AdG{l:List Av}(h:l.Pairwise fun x y=>x.1≠y.1){g:Av→Option BF}(hg:∀f t,g f=some t→t.1=f.1):(l.filterMap g).Pairwise fun x y=>x.1≠y.1:=
 h.filterMap g fun x y hxy t ht u hu=>zg
theorem AmZ{a b:List Av}(ha:P8 a)(hb:P8 b):(Qp a b).Pairwise fun x y=>x.1≠y.1:=by
 unfold Qp;refine List.pairwise_append.2 ⟨AdG ha.ne fun _ _ h=>Yb h,AdG hb.ne fun _ _ h=>(Wu h).1,fun x hx y hy e=>?_⟩;obtain⟨f,hf,h1⟩:=List.mem_filterMap.1 hx;obtain⟨g,hg,h2⟩:=List.mem_filterMap.1 hy;obtain⟨h3,h4⟩:=Wu h2;rw[←h3,←e,Yb h1,ha.blob hf]at h4;cases h4
theorem AkQ(a b:List Av):(Qp a b).length≤a.length+b.length:=by
 grind [Qp]
theorem Ac0{a b:List Av}(ha:P8 a)(hb:P8 b){d:List BF}(hp:d.Perm (Qp a b))(hs:d.Pairwise fun x y=>Op.bytesLess y.1 x.1=false):Qx a b d:=by
 refine⟨?_,fun p k=>by grind [Ak9]⟩
 have hn:d.Pairwise fun x y=>x.1≠y.1:=hp.symm.pairwise (AmZ ha hb) fun h e=>h e.symm
 unfold An2
 refine(hs.and hn).imp ?_<;>grind [WE]
theorem EH{α:Type}[DecidableEq α]:∀{l m:List α},l.Nodup→(∀x∈l,x∈m)→l.length≤m.length
 |[],_,_,_=>Qd9 _
 |a::l,m,hn,hs=>by
  have h2:=List.nodup_cons.1 hn;have ha:=hs a (Qa6 ..)
  have ih:=EH (m:=m.erase a) h2.2 fun x hx=>(Qf8 (show x≠a from fun e=>h2.1 zg)).2 (hs x (Qa2 _ hx))
  grind
def rng(n:Nat):List Int:=(Qc9 n).map fun(i:Nat)=>(i:Int)
theorem Ea{n:Nat}{x:Int}:x∈rng n↔0≤x∧x<n:=by
 unfold rng;rw[List.mem_map];constructor
 ·grind
 ·intro h;exact⟨x.toNat,List.mem_range.2 zm,zm⟩
theorem Ul(n:Nat):(rng n).Nodup:=by
 unfold rng;rw[Qc5,Qe3]
 exact(List.nodup_iff_pairwise_ne.1 List.nodup_range).imp fun h e=>h zm
theorem GZ(n:Nat):(rng n).length=n:=by simp[rng]
theorem AdZ(n:Nat):rng (n+1)=rng n++[(n:Int)]:=by
 grind [rng,List.range_succ]
def Dw(g:List Al)(L:List Int)(p:Int):Nat:=(L.map fun c=>(Bf g c).count p).sum
def ndG(g:List Al):Prop:=∀c,inR g c→(Bf g c).Nodup
theorem Aks(g:List Al)(L M:List Int)(p:Int):Dw g (L++M) p=Dw g L p+Dw g M p:=by
 grind [Dw]
theorem VV{g:List Al}{p:Int}:∀{L:List Int},(∀c∈L,(Bf g c).count p≤1)→Dw g L p≤L.length
 |[],_=>Qb1 _
 |c::L,h=>by
  have h1:=h c (Qa6 ..)
  have h2:=VV (g:=g) (p:=p) (L:=L) fun x hx=>h x (Qa2 _ hx)
  grind [Dw]
theorem JO{g:List Al}{p:Int}:∀{L:List Int},Dw g L p=0↔∀c∈L,p∉Bf g c
 |[]=>by simp[Dw]
 |c::L=>by
  have ih:=JO (g:=g) (p:=p) (L:=L)
  grind [Dw,Bf]
def Lj(g:List Al)(Q:List Int):List Int:=(rng g.length).filter fun c=>!decide (c∈Q)
theorem Abl{g:List Al}{Q:List Int}{c:Int}:c∈Lj g Q↔inR g c∧c∉Q:=by
 grind [Lj,Ea,inR]
theorem QS(g:List Al)(Q:List Int)(c p:Int)(hq:c∉Q):∀{R:List Int},R.Nodup→c∈R→Dw g (R.filter fun x=>!decide (x∈Q)) p=Dw g (R.filter fun x=>!decide (x∈Q++[c])) p+(Bf g c).count p
 |[],_,h=>nomatch h
 |a::R,hn,h=>by
  have hn2:=List.nodup_cons.1 hn
  by_cases e:a=c
  ·grind [List.filter_congr,List.filter_cons_of_pos,List.filter_cons_of_neg,Dw]
  ·have hc:c∈R:=(List.mem_cons.1 h).resolve_left fun h=>e h.symm
   have ih:=QS g Q c p hq hn2.2 hc
   grind [Dw]
theorem Aie{g:List Al}{Q:List Int}{c:Int}(p:Int)(hq:c∉Q)(hc:inR g c):Dw g (Lj g Q) p=Dw g (Lj g (Q++[c])) p+(Bf g c).count p:=
 QS g Q c p hq (Ul _) (Ea.2 hc)
theorem AnQ(g:List Al):Lj g []=rng g.length:=by
 simp_all [Lj]
structure UpG(g:List Al)(d:List Int):Prop where
 nd:d.Nodup
 rn:∀p∈d,inR g p
 ord:∀i,i<d.length→∀c,inR g c→d.getD i 0∈Bf g c→c∈d.take i
 rem:∀p,inR g p→p∉d→∃c,inR g c∧c∉d∧p∈Bf g c
def OL(g:List Al):Prop:=∃c,inR g c∧∃p∈Bf g c,Rch g p c
theorem UpG.len{g:List Al}{d:List Int}(h:UpG g d):d.length≤g.length:=by
 have:=EH h.nd (m:=rng g.length) fun x hx=>Ea.2 (h.rn x hx)
 grind [GZ]
theorem UpG.all{g:List Al}{d:List Int}(h:UpG g d)(hl:g.length≤d.length){p:Int}(hp:inR g p):p∈d:=by
 by_cases e:p∈d
 ·exact e
 ·have:=EH h.nd (m:=(rng g.length).erase p) fun x hx=>(Qf8 (show x≠p from fun e2=>e zg)).2 (Ea.2 (h.rn x hx))
  have hm:=Ea.2 hp
  grind [GZ]
theorem Acv{g:List Al}{d:List Int}(h:UpG g d):∀(m:Nat) (x:Int) (L:List Int),g.length -(x::L).length<m→(x::L).Nodup→(∀y∈x::L,inR g y∧Rch g x y)→x∉d→OL g
 |0,_,_,h0,_,_,_=>absurd h0 (Qd2 _)
 |m+1,x,L,hm,hn,hr,hx=>by
  obtain⟨c,hc,hcd,hp⟩:=h.rem x (hr x (Qa6 ..)).1 hx
  by_cases e:c∈x::L
  ·exact⟨c,hc,x,hp,(hr c e).2⟩
  ·have hl:=EH (List.nodup_cons.2 ⟨e,hn⟩) (m:=rng g.length) fun y hy=>by
    rcases List.mem_cons.1 hy with rfl|hy
    ·exact Ea.2 hc
    ·exact Ea.2 (hr y hy).1
   rw[GZ]at hl;simp only[Qa3]at hl hm;refine Acv h m c (x::L) zg (List.nodup_cons.2 ⟨e,hn⟩) (fun y hy=>?_) hcd
   rcases List.mem_cons.1 hy with rfl|hy
   ·exact⟨hc,.refl _⟩
   ·exact⟨(hr y hy).1,.step hp (hr y hy).2⟩
theorem Aqs{g:List Al}{d:List Int}(hv:YK g)(h:UpG g d):d.length<g.length↔OL g:=by
 constructor
 ·intro hl
  have:∃p,inR g p∧p∉d:=by
   by_cases e:∃p,inR g p∧p∉d
   ·exact e
   ·have:=EH (Ul g.length) (m:=d) fun x hx=>by
     by_cases e2:x∈d
     ·exact e2
     ·exact absurd ⟨x,Ea.1 hx,e2⟩ e
    grind [GZ]
  obtain⟨p,hp,hpd⟩:=this;refine Acv h (g.length+1) p [] zg zsz (fun y hy=>?_) hpd;rw[List.mem_singleton.1 hy];exact⟨hp,.refl _⟩
 ·rintro⟨c,hc,p,hp,hr⟩
  by_cases hl:d.length<g.length
  ·exact hl
  exfalso
  have hall:=fun{x:Int} (hx:inR g x)=>h.all zm hx
  have hidx:∀{x:Int},inR g x→∃i,∃hi:i<d.length,d[i]=x:=fun hx=>List.getElem_of_mem (hall hx)
  have hinj:∀{i j:Nat} (hi:i<d.length) (hj:j<d.length),d[i]=d[j]→i=j:=fun{i j} hi hj e=>by
   grind [Qb4,h.nd,Nat.lt_trichotomy,e.symm]
  have hstep:∀{a b:Int} {i j:Nat} (hi:i<d.length) (hj:j<d.length),inR g a→d[i]=a→d[j]=b→b∈Bf g a→i<j:=fun{a b i j} hi hj ha e1 e2 hb=>by
   have h1:=h.ord j hj a ha zg
   grind [List.getElem_of_mem,Qb9]
  have hmono:∀{a b:Int},Rch g a b→inR g a→∀{i j:Nat} (hi:i<d.length) (hj:j<d.length),d[i]=a→d[j]=b→i≤j:=by
   intro a b hab
   induction hab with
   |refl c=>grind
   |step hq _ ih=>
    intro ha i j hi hj e1 e2;have hqr:=hv _ ha _ hq
    obtain⟨k,hk,hke⟩:=hidx hqr<;>grind
  have hpr:=hv c hc p hp
  grind
structure Up3(g:List Al)(ch out:List Int)(k:Nat):Prop where
 len:ch.length=g.length
 cnt:∀p,inR g p→ch.getD p.toNat 0=((Dw g (Lj g (out.take k)) p:Nat):Int)
 mem:∀p,inR g p→(p∈out↔ch.getD p.toNat 0=0)
 rn:∀p∈out,inR g p
 nd:out.Nodup
 ord:∀i,i<out.length→∀c,inR g c→out.getD i 0∈Bf g c→c∈out.take i
 kl:k≤out.length
structure Up4(g:List Al)(c:Int)(Q ch out:List Int)(k j:Nat):Prop where
 len:ch.length=g.length
 cnt:∀p,inR g p→ch.getD p.toNat 0=((Dw g (Lj g Q) p+((Bf g c).drop j).count p:Nat):Int)
 mem:∀p,inR g p→(p∈out↔ch.getD p.toNat 0=0)
 rn:∀p∈out,inR g p
 nd:out.Nodup
 ord:∀i,i<out.length→∀c,inR g c→out.getD i 0∈Bf g c→c∈out.take i
 pre:out.take (k+1)=Q
 kl:k<out.length
theorem Abr{g:List Al}{out:List Int}(nd:out.Nodup)(rn:∀p∈out,inR g p):out.length≤g.length:=by
 have:=EH nd (m:=rng g.length) fun x hx=>Ea.2 (rn x hx)
 grind [GZ]
theorem AmS{l:List Int}(hn:l.Nodup){j:Nat}(hj:j<l.length):l.drop j=l.getD j 0::l.drop (j+1)∧(l.drop (j+1)).count (l.getD j 0)=0:=by
 grind [Qc6,getD_eq,List.count_eq_zero,List.Nodup.sublist,List.drop_sublist,List.nodup_cons]
def Ty(P:Pg):Prop:=∀g:List Al,g.length≤1000000→YK g→ndG g→(∀c,inR g c→(Bf g c).length≤1000000)→Fn P Aop HD g fun(d:List Int) _=>UpG g d
theorem Ajr(h:Hq P Jq):Ty P:=by
 intro g hn hv hnd hpl;refine YS h ?_;unfold Ry;dsimp only;refine⟨⟨Qa1 _,Qa0 _,zm⟩,?_⟩
 have hc1:∀(L:List Int) (p:Int),(∀c∈L,inR g c)→Dw g L p≤L.length:=fun L p hL=>VV fun c hc=>List.nodup_iff_count.1 (hnd c (hL c hc)) p
 have hrl:∀(i:Nat) (p:Int),i≤g.length→Dw g (rng i) p≤i:=fun i p hi=>by
  have:=hc1 (rng i) p fun c hc=>⟨(Ea.1 hc).1,by grind [Ea]⟩
  grind [GZ]
 refine Ac.mid (fun ch=>ch.length=g.length∧∀p,inR g p→ch.getD p.toNat 0=((Dw g (rng g.length) p:Nat):Int)) ?_ ?_
 ·refine AJ.of (fun q=>(0≤q.2∧q.2≤g.length)∧q.1.length=g.length∧∀p,inR g p→q.1.getD p.toNat 0=((Dw g (rng q.2.toNat) p:Nat):Int)) (fun q=>(g.length -q.2).toNat) ⟨⟨Qa0 _,Qa1 _⟩,zsz,fun p hp=>by
   grind⟩ ?_
  rintro⟨ch,i⟩ ⟨⟨i0,i1⟩,hl,hcn⟩;dsimp only at i0 i1 hl hcn⊢;refine⟨fun hi=>?_,fun hi=>?_⟩
  ·have hi:=of_decide_eq_true hi
   have hi2:i.toNat<g.length:=zm
   have hir:inR g i:=⟨i0,hi⟩
   have hpc:=hpl i hir
   have hit:((i.toNat:Nat):Int)=i:=zm
   refine Ac.mid (fun ch=>ch.length=g.length∧∀p,inR g p→ch.getD p.toNat 0=((Dw g (rng (i.toNat+1)) p:Nat):Int)) ⟨⟨i0,hi⟩,hi2,?_⟩ ?_
   ·refine Ac.mid (fun ch=>ch.length=g.length∧∀p,inR g p→ch.getD p.toNat 0=((Dw g (rng (i.toNat+1)) p:Nat):Int)) ?_ fun _ h=>h
    have hnx:∀p,Dw g (rng (i.toNat+1)) p=Dw g (rng i.toNat) p+(Bf g i).count p:=fun p=>by
     grind [AdZ,Aks,Dw]
    show AJ _ _
    refine AJ.of (fun q=>(0≤q.2∧q.2≤(Bf g i).length)∧q.1.length=g.length∧∀p,inR g p→q.1.getD p.toNat 0=((Dw g (rng i.toNat) p+((Bf g i).take q.2.toNat).count p:Nat):Int)) (fun q=>((Bf g i).length -q.2).toNat) ⟨⟨Qa0 _,Qa1 _⟩,hl,fun p hp=>by
     grind⟩ ?_
    rintro⟨ch,j⟩ ⟨⟨j0,j1⟩,hl,hcn⟩;dsimp only at j0 j1 hl hcn⊢;refine⟨fun hj=>?_,fun hj=>?_⟩
    ·have hj:j<(Bf g i).length:=of_decide_eq_true hj
     have hj2:j.toNat<(Bf g i).length:=zm
     have hqm:(Bf g i).getD j.toNat 0∈Bf g i:=Be hj2
     have htk:(Bf g i).take (j.toNat+1)=(Bf g i).take j.toNat++[(Bf g i).getD j.toNat 0]:=by
      simp_all
     have hqr:=hv i hir _ hqm;have hcq:=hcn _ hqr;have hd1:=hrl i.toNat ((Bf g i).getD j.toNat 0) zm;have hd2:((Bf g i).take j.toNat).count ((Bf g i).getD j.toNat 0)≤1000000:=Qd3 Qd1 zg;show Ac _ _;have hqe:(g.getD i.toNat Am).1.getD j.toNat 0=(Bf g i).getD j.toNat 0:=rfl;rw[hqe]
     generalize(Bf g i).getD j.toNat 0=q at hqm htk hqr hcq hd1 hd2⊢
     have hql:q.toNat<ch.length:=by have:=hqr.1;have:=hqr.2;omega
     have hqlt:q<((ch.length:Nat):Int):=zg
     refine Ac.mid (fun t=>t=ch.set q.toNat (ch.getD q.toNat 0+1)) ⟨⟨j0,hj⟩,hj2,⟨hqr.1,hqlt⟩,hql,⟨hqr.1,hqlt⟩,hql,by rw[w64 zm zm]⟩ ?_;rintro t rfl;rw[w64 zm zm];refine⟨⟨⟨zm,zm⟩,zg,fun p hp=>?_⟩,zm⟩;rw[FU hql,show(j+1).toNat=j.toNat+1 by omega,htk,Qc1,List.count_singleton];have hp0:=hp.1
     have hq0:=hqr.1
     grind
    grind [Bf,of_decide_eq_false,Qa5]
   ·rintro t ⟨ht,htc⟩;rw[w64 zm zm];exact⟨⟨⟨zm,zm⟩,ht,by rw[show(i+1).toNat=i.toNat+1 by omega];grind⟩,zm⟩
  ·have hi:=of_decide_eq_false hi
   rw[show i.toNat=g.length by omega]at hcn<;>grind
 rintro ch ⟨hl,hcn⟩;refine Ac.mid (fun out=>Up3 g ch out 0) ?_ ?_
 ·refine AJ.of (fun q=>(0≤q.2∧q.2≤g.length)∧q.1.Nodup∧∀x,x∈q.1↔(0≤x∧x<q.2)∧ch.getD x.toNat 0=0) (fun q=>(g.length -q.2).toNat) ⟨⟨Qa0 _,Qa1 _⟩,List.nodup_nil,fun x=>⟨fun h=>(nomatch h),fun h=>zg⟩⟩ ?_;rintro⟨out,i⟩ ⟨⟨i0,i1⟩,hnd2,hm⟩;dsimp only at i0 i1 hnd2 hm⊢
  have hol:out.length≤g.length:=Abr hnd2 fun p hp=>⟨((hm p).1 hp).1.1,zg⟩
  refine⟨fun hi=>?_,fun hi=>?_⟩
  ·have hi:=of_decide_eq_true hi
   have hi2:i.toNat<ch.length:=zm
   refine Ac.mid (fun t=>t.Nodup∧∀x,x∈t↔(0≤x∧x<i+1)∧ch.getD x.toNat 0=0) ⟨⟨i0,hi⟩,hi2,?_⟩ fun t ht=>?_
   ·refine Ac.mid (fun t=>t.Nodup∧∀x,x∈t↔(0≤x∧x<i+1)∧ch.getD x.toNat 0=0) ⟨fun hz=>⟨by simp only[Qa3,Qc7];omega,?_,fun x=>?_⟩,fun hz=>⟨hnd2,fun x=>?_⟩⟩ fun _ h=>h<;>grind
   grind [w64]
  ·have hi:=of_decide_eq_false hi;refine⟨hl,fun p hp=>?_,fun p hp=>?_,fun p hp=>?_,hnd2,fun k hk c hc hp=>?_,Qd9 _⟩
   ·grind [AnQ]
   ·rw[hm p];exact⟨fun h=>h.2,fun h=>⟨⟨hp.1,by have:=hp.2;omega⟩,h⟩⟩
   ·exact⟨((hm p).1 hp).1.1,zg⟩
   grind [Be,inR,Dw,rng,JO,Ea]
 intro out0 hU0
 refine Ac.mid (fun out=>UpG g out) ?_ fun _ h=>h
 refine AJ.of (fun q=>0≤q.2.2∧Up3 g q.1 q.2.1 q.2.2.toNat) (fun q=>(g.length -q.2.2).toNat) ⟨Qa0 _,hU0⟩ ?_;rintro⟨ch,out,k⟩ ⟨k0,hU⟩;dsimp only at k0 hU⊢;have hol:=Abr hU.nd hU.rn;have hkl:=hU.kl;refine⟨fun hk=>?_,fun hk=>?_⟩
 ·have hk:=of_decide_eq_true hk
  have hk2:k.toNat<out.length:=zm
  have hcm:out.getD k.toNat 0∈out:=Be hk2;have hcr:=hU.rn _ hcm
  have hpre:out.take (k.toNat+1)=out.take k.toNat++[out.getD k.toNat 0]:=by simp_all
  have hcn2:out.getD k.toNat 0∉out.take k.toNat:=fun hm=>by
   grind [List.Nodup.sublist,List.take_sublist,hU.nd,List.nodup_append,List.mem_singleton]
  generalize hc:out.getD k.toNat 0=c at hcm hcr hpre hcn2
  have hcl:c.toNat<g.length:=by have:=hcr.1;have:=hcr.2;omega
  have hpc:=hpl c hcr
  refine Ac.mid (fun q=>Up3 g q.1 q.2 (k.toNat+1)) ⟨⟨k0,hk⟩,hk2,?_⟩ fun q hq=>?_
  ·refine⟨⟨hcr.1,hcr.2⟩,hcl,?_⟩
   refine Ac.mid (fun q=>Up3 g q.1 q.2 (k.toNat+1)) ?_ fun _ h=>h
   show AJ _ _;refine AJ.of (fun q=>(0≤q.2.2∧q.2.2≤(Bf g c).length)∧Up4 g c (out.take (k.toNat+1)) q.1 q.2.1 k.toNat q.2.2.toNat) (fun q=>((Bf g c).length -q.2.2).toNat) ⟨⟨Qa0 _,Qa1 _⟩,hU.len,fun p hp=>?_,hU.mem,hU.rn,hU.nd,hU.ord,rfl,hk2⟩ ?_
   ·rw[hU.cnt p hp,Aie p hcn2 hcr,←hpre];rfl
   rintro⟨ch,out',j⟩ ⟨⟨j0,j1⟩,hV⟩;dsimp only at j0 j1 hV⊢;have hol':=Abr hV.nd hV.rn;refine⟨fun hj=>?_,fun hj=>?_⟩
   ·have hj:j<(Bf g c).length:=of_decide_eq_true hj
    have hj2:j.toNat<(Bf g c).length:=zm
    have hqm:(Bf g c).getD j.toNat 0∈Bf g c:=Be hj2;have hqr:=hv c hcr _ hqm;obtain⟨hdr,hdz⟩:=AmS (hnd c hcr) hj2;show Ac _ _;have hqe:(g.getD c.toNat Am).1.getD j.toNat 0=(Bf g c).getD j.toNat 0:=rfl;rw[hqe];generalize(Bf g c).getD j.toNat 0=q at hqm hqr hdr hdz⊢
    have hql:q.toNat<ch.length:=by have:=hqr.1;have:=hqr.2;grind [hV.len]
    have hqlt:q<((ch.length:Nat):Int):=zg
    have hcq:=hV.cnt q hqr
    have hdb:Dw g (Lj g (out.take (k.toNat+1))) q≤g.length:=by
     refine Qd3 (hc1 _ q fun x hx=>(Abl.1 hx).1) ?_<;>grind [Lj,GZ]
    rw[hdr,Qd0,hdz]at hcq
    have hw:IntKind.i64.wrap (ch.getD q.toNat 0 -1)=((Dw g (Lj g (out.take (k.toNat+1))) q:Nat):Int):=by grind [w64]
    rw[hw]
    have hgs:(ch.set q.toNat ((Dw g (Lj g (out.take (k.toNat+1))) q:Nat):Int)).getD q.toNat 0=((Dw g (Lj g (out.take (k.toNat+1))) q:Nat):Int):=zg
    rw[hgs];have hls:(ch.set q.toNat ((Dw g (Lj g (out.take (k.toNat+1))) q:Nat):Int)).length=ch.length:=Qf2
    have hqno:q∉out':=fun hm=>by
     have:=(hV.mem q hqr).1 hm;omega
    have hcnt:∀p,inR g p→(ch.set q.toNat ((Dw g (Lj g (out.take (k.toNat+1))) q:Nat):Int)).getD p.toNat 0=((Dw g (Lj g (out.take (k.toNat+1))) p+((Bf g c).drop (j.toNat+1)).count p:Nat):Int):=fun p hp=>by
     rw[FU hql];have hp0:=hp.1;have hq0:=hqr.1
     by_cases e:p=q
     ·grind
     ·rw[if_neg zm,hV.cnt p hp,hdr,Qf5 (fun h=>e h.symm)]
    have hgo:∀p,inR g p→p≠q→(ch.set q.toNat ((Dw g (Lj g (out.take (k.toNat+1))) q:Nat):Int)).getD p.toNat 0=ch.getD p.toNat 0:=fun p hp e=>by
     rw[FU hql];have hp0:=hp.1;have hq0:=hqr.1
     grind
    have hkl:=hV.kl
    have hqp:∀c',inR g c'→Dw g (Lj g (out.take (k.toNat+1))) q=0→q∈Bf g c'→c'∈out':=fun c' hc' hz hq=>by
     grind [hV.pre,JO,Abl]
    generalize hch:ch.set q.toNat ((Dw g (Lj g (out.take (k.toNat+1))) q:Nat):Int)=ch' at*;refine Ac.mid (fun d=>Up4 g c (out.take (k.toNat+1)) d.1 d.2 k.toNat (j.toNat+1)) ⟨⟨j0,hj⟩,hj2,⟨hqr.1,hqlt⟩,hql,⟨hqr.1,hqlt⟩,hql,⟨hqr.1,zg⟩,zg,?_⟩ ?_
    ·refine Ac.mid (fun d=>Up4 g c (out.take (k.toNat+1)) ch' d k.toNat (j.toNat+1)) ⟨fun hz=>⟨zg,?_⟩,fun hz=>?_⟩ fun _ h=>h
     ·have hz:Dw g (Lj g (out.take (k.toNat+1))) q=0:=by
       grind
      refine⟨by grind [hV.len],hcnt,fun p hp=>?_,fun p hp=>?_,?_,fun i hi c' hc' hp=>?_,?_,zg⟩
      ·rw[List.mem_append,List.mem_singleton]
       by_cases e:p=q
       ·grind
       ·rw[hgo p hp e,←hV.mem p hp]<;>grind
      ·rcases List.mem_append.1 hp with hp|hp
       ·exact hV.rn p hp
       grind
      ·grind [hV.nd]
      ·by_cases e:i<out'.length
       ·rw[T9 e]at hp;rw[List.take_append_of_le_length zm];exact hV.ord i e c' hc' hp
       ·rw[Qa7]at hi
        simp only[Qa3,Qc7]at hi<;>grind
      grind [hV.pre]
     ·have hz:((Dw g (Lj g (out.take (k.toNat+1))) q:Nat):Int)≠0:=by grind
      refine⟨by grind [hV.len],hcnt,fun p hp=>?_,hV.rn,hV.nd,hV.ord,hV.pre,hV.kl⟩
      by_cases e:p=q
      ·grind
      ·rw[hgo p hp e];exact hV.mem p hp
    grind [w64]
   ·have hj:¬j<(Bf g c).length:=of_decide_eq_false hj;refine⟨hV.len,fun p hp=>?_,hV.mem,hV.rn,hV.nd,hV.ord,hV.kl⟩;rw[hV.cnt p hp,Qb0 zm,hV.pre];rfl
  grind [w64]
 ·have hk:=of_decide_eq_false hk;refine⟨hU.nd,hU.rn,hU.ord,fun p hp hpo=>?_⟩
  have h1:ch.getD p.toNat 0≠0:=fun h=>hpo ((hU.mem p hp).2 h)
  rw[hU.cnt p hp,Qa5 zm]at h1<;>grind [Dw,Lj,JO,inR,Bf,Abl]
def MN(g:List Al):Prop:=g.length≤300∧∀c∈g,c.1.length≤32
def AdW(n:Nat)(l:List Int)(j:Nat):Prop:=(0≤l.getD j 0∧l.getD j 0<(n:Int))∧l.getD j 0∉l.take j
def AdX(n:Nat)(l:List Int):Prop:=∀j,j<l.length→AdW n l j
def Mc(g:List Al):Prop:=∀c∈g,AdX g.length c.1
def TK(g:List Al):Prop:=∀c∈g,0≤c.2.1∧c.2.1≤2147483647
def LS:List Al→Int
 |[]=>0
 |c::g=>if Ic c.2.2≠0 then Ic c.2.2 else LS g
def Gy(g:List Al)(e:Int):Prop:=(¬MN g→e=1)∧(MN g→¬Mc g→e=230)∧(MN g→Mc g→OL g→e=231)∧(MN g→Mc g→¬OL g→¬TK g→e=3)∧(MN g→Mc g→¬OL g→TK g→e=LS g)
theorem Nv{g:List Al}{e d:Int}(h:Gy g e)(k:Gy g d):e=d:=by
 by_cases h1:MN g
 ·by_cases h2:Mc g
  ·by_cases h3:OL g
   ·rw[h.2.2.1 h1 h2 h3,k.2.2.1 h1 h2 h3]
   ·by_cases h4:TK g
    ·rw[h.2.2.2.2 h1 h2 h3 h4,k.2.2.2.2 h1 h2 h3 h4]
    ·rw[h.2.2.2.1 h1 h2 h3 h4,k.2.2.2.1 h1 h2 h3 h4]
  ·rw[h.2.1 h1 h2,k.2.1 h1 h2]
 ·rw[h.1 h1,k.1 h1]
theorem Apw{g:List Al}(h:¬MN g):Gy g 1:=⟨fun _=>rfl,fun k=>absurd k h,fun k=>absurd k h,fun k=>absurd k h,fun k=>absurd k h⟩
theorem Apx{g:List Al}(k:MN g)(h:¬Mc g):Gy g 230:=⟨fun h=>absurd k h,fun _ _=>rfl,fun _ k=>absurd k h,fun _ k=>absurd k h,fun _ k=>absurd k h⟩
theorem Apy{g:List Al}(k:MN g)(k2:Mc g)(h:OL g):Gy g 231:=⟨fun h=>absurd k h,fun _ h=>absurd k2 h,fun _ _ _=>rfl,fun _ _ k=>absurd h k,fun _ _ k=>absurd h k⟩
theorem Apz{g:List Al}(k:MN g)(k2:Mc g)(h:¬OL g)(h4:¬TK g):Gy g 3:=⟨fun h=>absurd k h,fun _ h=>absurd k2 h,fun _ _ k=>absurd k h,fun _ _ _ _=>rfl,fun _ _ _ k=>absurd k h4⟩
theorem Abc{g:List Al}(k:MN g)(k2:Mc g)(h:¬OL g)(h4:TK g){e:Int}(he:e=LS g):Gy g e:=⟨fun h=>absurd k h,fun _ h=>absurd k2 h,fun _ _ k=>absurd k h,fun _ _ _ k=>absurd h4 k,fun _ _ _ _=>he⟩
theorem GK{g:List Al}{i:Nat}(hi:i<g.length):g.getD i ([],(0,[]))∈g:=Be hi
theorem Alx{g:List Al}{i j:Nat}(hi:i<g.length)(hj:j<(g.getD i ([],(0,[]))).1.length)(h:¬AdW g.length (g.getD i ([],(0,[]))).1 j):¬Mc g:=fun k=>h (k _ (GK hi) j hj)
theorem FQ{α:Type}{l:List α}{d:α}{p:α→Prop}(h:∀j,j<l.length→p (l.getD j d)):∀x∈l,p x:=by
 grind [Qb8,Qe4]
theorem HZ{g:List Al}(h:Mc g):YK g:=by
 intro c hc p hp;obtain⟨j,hj⟩:=Qb8 hp;have hl:j<(Bf g c).length:=(List.getElem?_eq_some_iff.1 hj).1;have:=(h _ (GK (g:=g) (i:=c.toNat) (by have:=hc.1;have:=hc.2;omega)) j hl).1
 have e:(Bf g c).getD j 0=p:=zg
 have this:0≤(Bf g c).getD j 0∧(Bf g c).getD j 0<(g.length:Int):=this;rw[e]at this;trivial
theorem AhA{g:List Al}(h:Mc g):ndG g:=by
 intro c hc;have hr:AdX g.length (Bf g c):=h _ (GK (g:=g) (i:=c.toNat) (by have:=hc.1;have:=hc.2;omega))
 rw[Qc5,Qb4];intro i j hi hj hij e;refine(hr j hj).2 ?_;rw[Qa9,Qb2 hj,Option.getD_some,←e]
 refine Qd4 (i:=i) ?_<;>grind
theorem PH{g:List Al}(h:MN g):∀c,inR g c→(Bf g c).length≤1000000:=fun c hc=>by
 have:=h.2 _ (GK (g:=g) (i:=c.toNat) (by have:=hc.1;have:=hc.2;omega))
 grind [Bf]
theorem AgF{g:List Al}{i:Nat}(hi:i<g.length):LS (g.drop i)=if Ic (g.getD i ([],(0,[]))).2.2≠0 then Ic (g.getD i ([],(0,[]))).2.2 else LS (g.drop (i+1)):=by
 rw[Qc6 hi,Qa9,Qb2 hi,Option.getD_some];rfl
theorem Ahu(x:Int)(n:Nat):(cond (decide (x<0)) true (decide (x≥(n:Int))))=false↔(0≤x∧x<(n:Int)):=by
 grind
theorem AhC(x:Int):(cond (decide (x<(0:Int))) true (decide (x>(2147483647:Int))))=false↔(0≤x∧x≤2147483647):=by
 grind
def Aax(P:Pg):Prop:=∀x:List Int×Int,x.1.length≤1000000→Fn P "slices.Index[[]int,int]" Cz x fun(d:Int) _=>decide (d≥0)=true↔x.2∈x.1
theorem AnY(h:Hq P DH):Aax P:=by
 rintro⟨l,v⟩ hl;dsimp only at hl;refine MF h ?_;unfold HM;dsimp only
 refine Ac.mid (fun _=>v∉l) ?_ fun _ h=>⟨fun k=>absurd (of_decide_eq_true k) zm,fun k=>absurd k h⟩
 refine AJ.of (fun q=>(0≤q.2∧q.2≤l.length)∧∀j,j<q.2.toNat→l.getD j 0≠v) (fun q=>(l.length -q.2).toNat) ⟨⟨Qa0 _,zg⟩,fun j hj=>absurd hj zsz⟩ ?_;rintro⟨q,i⟩ ⟨⟨i0,i1⟩,hq⟩;dsimp only at i0 i1 hq⊢;refine⟨fun hi=>?_,fun hi=>?_⟩
 ·have hi:=of_decide_eq_true hi
  have hi2:i.toNat<l.length:=zm
  refine Ac.mid (fun _=>l.getD i.toNat 0≠v) ⟨⟨i0,hi⟩,hi2,fun hb=>?_,fun hb=>?_⟩ fun _ hn=>?_<;>grind [Be,w64]
 ·have hi:=of_decide_eq_false hi
  exact fun hv=>FQ (p:=fun x=>x≠v) (d:=0) (fun j hj=>hq j zm) v hv rfl
def Wd(P:Pg):Prop:=∀x:List Int×Int,x.1.length≤1000000→Fn P "slices.Contains[[]int,int]" Cg x fun(d:Bool) _=>d=true↔x.2∈x.1
theorem AlM(h:Hq P CL)(hI:Aax P):Wd P:=by
 intro x hx;refine Ku h ?_;unfold Gm
 exact(hI x hx).to fun(d:Int) _ hd=>hd
def AeK(P:Pg):Prop:=∀l:List Al,l.length≤1000000→Fn P zS7 AD (l,()) fun(d:Int) _=>decide (d≥0)=false↔∀c∈l,c.1.length≤32
theorem Aqa(h:Hq P AY)(h1:Hq P GQ):AeK P:=by
 intro l hl;refine Dd h ?_;unfold BX;dsimp only
 refine Ac.mid (fun _=>∀c∈l,c.1.length≤32) ?_ fun _ h=>⟨fun _=>h,fun _=>rfl⟩
 refine AJ.of (fun q=>(0≤q.2∧q.2≤l.length)∧∀j,j<q.2.toNat→(l.getD j ([],(0,[]))).1.length≤32) (fun q=>(l.length -q.2).toNat) ⟨⟨Qa0 _,zg⟩,fun j hj=>absurd hj zsz⟩ ?_;rintro⟨q,i⟩ ⟨⟨i0,i1⟩,hq⟩;dsimp only at i0 i1 hq⊢;refine⟨fun hi=>?_,fun hi=>?_⟩
 ·have hi:=of_decide_eq_true hi
  have hi2:i.toNat<l.length:=zm
  refine Ac.mid (fun _=>(l.getD i.toNat ([],(0,[]))).1.length≤32) ⟨⟨i0,hi⟩,hi2,TW h1 ⟨fun hb=>?_,fun hb=>?_⟩⟩ fun _ hn=>?_
  ·have hb:=of_decide_eq_true hb;have hb:(((l.getD i.toNat ([],(0,[]))).1.length:Nat):Int)>32:=hb
   grind
  ·have hb:=of_decide_eq_false hb;have hb:¬((((l.getD i.toNat ([],(0,[]))).1.length:Nat):Int)>32):=hb
   grind
  grind [w64]
 ·have hi:=of_decide_eq_false hi
  exact FQ (d:=([],(0,[]))) fun j hj=>hq j zm
def AeN(P:Pg):Prop:=∀l:List Al,l.length≤1000000→Fn P zS8 Ay (l,()) fun(d:Bool) _=>d=false↔∀c∈l,c.1.length≤32
theorem Aqd(h:Hq P AU)(hI:AeK P):AeN P:=by
 intro l hl;refine CQ h ?_;unfold BK
 exact(hI l hl).to fun(d:Int) _ hd=>hd
def QE(P:Pg):Prop:=∀l:List Al,Fn P Aon Gz l fun(d:Bool) _=>d=true↔MN l
theorem Agp(h:Hq P ID)(hX:AeN P):QE P:=by
 intro l;refine WY h ?_;unfold Qe
 refine Ac.mid (fun d=>l.length≤300→(d=false↔∀c∈l,c.1.length≤32)) ⟨fun hc=>?_,fun hc hl=>absurd (of_decide_eq_false hc) zm,trivial⟩ fun d hd=>?_
 ·have hc:=of_decide_eq_true hc
  exact(hX l zm).to fun(d:Bool) _ hd _=>hd
 grind [MN]
def AeL(P:Pg):Prop:=∀l:List Al,l.length≤1000000→Fn P zS7 AN (l,()) fun(d:Int) _=>decide (d≥0)=false↔TK l
theorem Aqb(h:Hq P A5)(h1:Hq P IC):AeL P:=by
 intro l hl;refine Dz h ?_;unfold B5;dsimp only
 refine Ac.mid (fun _=>TK l) ?_ fun _ h=>⟨fun _=>h,fun _=>rfl⟩
 refine AJ.of (fun q=>(0≤q.2∧q.2≤l.length)∧∀j,j<q.2.toNat→0≤(l.getD j ([],(0,[]))).2.1∧(l.getD j ([],(0,[]))).2.1≤2147483647) (fun q=>(l.length -q.2).toNat) ⟨⟨Qa0 _,zg⟩,fun j hj=>absurd hj zsz⟩ ?_;rintro⟨q,i⟩ ⟨⟨i0,i1⟩,hq⟩;dsimp only at i0 i1 hq⊢;refine⟨fun hi=>?_,fun hi=>?_⟩
 ·have hi:=of_decide_eq_true hi
  have hi2:i.toNat<l.length:=zm
  refine Ac.mid (fun _=>0≤(l.getD i.toNat ([],(0,[]))).2.1∧(l.getD i.toNat ([],(0,[]))).2.1≤2147483647) ⟨⟨i0,hi⟩,hi2,WX h1 ⟨fun hb=>?_,fun hb=>?_⟩⟩ fun _ hn=>?_
  ·refine⟨fun k=>absurd (of_decide_eq_false k) zm,fun k=>?_⟩;have:=(AhC _).2 (k _ (GK hi2));exact absurd (this.symm.trans hb) zsz
  ·exact(AhC _).1 hb
  grind [w64]
 ·have hi:=of_decide_eq_false hi
  exact FQ (d:=([],(0,[]))) (p:=fun c=>0≤c.2.1∧c.2.1≤2147483647) fun j hj=>hq j zm
def AeO(P:Pg):Prop:=∀l:List Al,l.length≤1000000→Fn P zS8 AB (l,()) fun(d:Bool) _=>d=false↔TK l
theorem Aqe(h:Hq P AX)(hI:AeL P):AeO P:=by
 intro l hl;refine Db h ?_;unfold BN
 exact(hI l hl).to fun(d:Int) _ hd=>hd
def QG(P:Pg):Prop:=∀g:List Al,MN g→Fn P Aoo GA g fun(d:Bool) _=>d=true↔Mc g
theorem Ags(h:Hq P IE)(hC:Wd P):QG P:=by
 intro g hlim;refine WZ h ?_;unfold Qf;have hg:=hlim.1
 refine Ac.mid (fun _=>Mc g) ?_ fun _ h=>⟨fun _=>h,fun _=>rfl⟩
 refine AJ.of (fun q=>(0≤q.2∧q.2≤g.length)∧∀j,j<q.2.toNat→AdX g.length (g.getD j ([],(0,[]))).1) (fun q=>(g.length -q.2).toNat) ⟨⟨Qa0 _,zg⟩,fun j hj=>absurd hj zsz⟩ ?_;rintro⟨q,i⟩ ⟨⟨i0,i1⟩,hq⟩;dsimp only at i0 i1 hq⊢;refine⟨fun hi=>?_,fun hi=>?_⟩
 ·have hi:=of_decide_eq_true hi
  have hi2:i.toNat<g.length:=zm
  have hl:(g.getD i.toNat ([],(0,[]))).1.length≤32:=hlim.2 _ (GK hi2)
  have hbad:∀j,j<(g.getD i.toNat ([],(0,[]))).1.length→¬AdW g.length (g.getD i.toNat ([],(0,[]))).1 j→¬Mc g:=fun j hj=>Alx hi2 hj
  refine Ac.mid (fun _=>AdX g.length (g.getD i.toNat ([],(0,[]))).1) ⟨⟨i0,hi⟩,hi2,?_⟩ fun _ hn=>?_
  ·show Ac (D:=Bool) _ _;have ez:g.getD i.toNat Am=g.getD i.toNat ([],(0,[])):=rfl;rw[ez];generalize(g.getD i.toNat ([],(0,[]))).1=l at hl hbad⊢
   refine Ac.mid (fun _=>AdX g.length l) ?_ fun _ h=>h
   refine AJ.of (fun q=>(0≤q.2∧q.2≤l.length)∧∀j,j<q.2.toNat→AdW g.length l j) (fun q=>(l.length -q.2).toNat) ⟨⟨Qa0 _,zg⟩,fun j hj=>absurd hj zsz⟩ ?_;rintro⟨r,k⟩ ⟨⟨k0,k1⟩,hk⟩;dsimp only at k0 k1 hk⊢;refine⟨fun hki=>?_,fun hki=>?_⟩
   ·have hki:=of_decide_eq_true hki
    have hk2:k.toNat<l.length:=zm
    have hou:=Ahu (l.getD k.toNat 0) g.length;generalize(cond (decide (l.getD k.toNat 0<0)) true (decide (l.getD k.toNat 0≥(g.length:Int))))=b at hou⊢
    refine Ac.mid (fun _=>AdW g.length l k.toNat) ⟨⟨k0,hki⟩,hk2,fun _=>⟨k0,zm⟩,?_⟩ fun _ hn=>?_
    ·refine Ac.mid (fun d=>b=false→(d=true↔l.getD k.toNat 0∈l.take k.toNat)) ⟨fun hc=>?_,fun hc h=>zg,trivial⟩ fun d hd=>⟨fun hb=>?_,fun hb=>?_⟩
     ·exact(hC (l.take k.toNat,l.getD k.toNat 0) zg).to fun(d:Bool) _ hd _=>hd
     ·refine⟨fun k=>(by cases k),fun hr=>absurd hr (hbad k.toNat hk2 fun ha=>?_)⟩;have hbf:=hou.2 ha.1;rw[hbf]at hb;exact ha.2 ((hd hbf).1 hb)
     ·cases b with
      |true=>cases hb
      |false=>exact⟨hou.1 rfl,fun hm=>zg⟩
    grind [w64]
   ·have hki:=of_decide_eq_false hki
    exact fun j hj=>hk j zm
  grind [w64]
 ·have hi:=of_decide_eq_false hi
  exact FQ (d:=([],(0,[]))) (p:=fun c=>AdX g.length c.1) fun j hj=>hq j zm
def Yq(g:List Al):Prop:=∀c∈g,∀f∈c.2.2,f.1.length≤140737488351232∧f.2.length≤140737488351232
def ArG(l:List Av):Prop:=∀f∈l,f.1.length≤140737488351232∧f.2.length≤140737488351232
def L5(P:Pg):Prop:=∀l:List Av,ArG l→Fn P AeA CA l fun(d:Int) _=>d=Ic l
theorem Zm(h:Hq P Hy)(hT:Gb P):L5 P:=by
 intro l hl
 by_cases hn:l.length≤1000000
 ·exact hT l ⟨hn,hl⟩
 ·refine Qo h ?_;unfold Ni
  refine Ac.mid (fun _=>False) ⟨fun hc=>?_,fun hc=>absurd (of_decide_eq_false hc) zm⟩ fun _ hh=>hh.elim<;>grind [Ic]
def I5(P:Pg):Prop:=∀g:List Al,Yq g→Fn P Aml EL g fun(d:Int) _=>Gy g d
theorem Aed(h:Hq P Ln)(hL:QE P)(hR:QG P)(hU:Ty P)(hX:AeO P)(hT:L5 P):I5 P:=by
 intro g hs;refine AaU h ?_;unfold UD
 refine Ac.mid (fun _=>MN g∧Mc g∧¬OL g∧TK g) ?_ fun d2 hh=>?_
 ·refine(hL g).to ?_;rintro(d:Bool) _ hd;have hd:d=true↔MN g:=hd;refine⟨fun hb=>Apw fun k=>zg,fun hb=>?_⟩;have k1:MN g:=hd.1 zg;clear hd hb;refine(hR g k1).to ?_;rintro(d:Bool) _ hd;have hd:d=true↔Mc g:=hd;refine⟨fun hb=>Apx k1 fun k=>zg,fun hb=>?_⟩;have k2:Mc g:=hd.1 zg;clear hd hb;have hg:=k1.1
  refine(hU g zm (HZ k2) (AhA k2) (PH k1)).to ?_;rintro(u:List Int) _ hu;have hu:UpG g u:=hu;have hcy:=Aqs (HZ k2) hu;refine⟨fun hb=>Apy k1 k2 (hcy.1 zg),fun hb=>?_⟩
  have k3:¬OL g:=fun k=>zg
  refine(hX g zm).to ?_<;>grind [TK,Apz]
 ·obtain⟨k1,k2,k3,k4⟩:=hh;have hg:=k1.1
  refine Ac.mid (fun _=>LS g=0) ?_ fun _ h=>Abc k1 k2 k3 k4 h.symm
  refine AJ.of (fun q=>(0≤q.2∧q.2≤g.length)∧LS g=LS (g.drop q.2.toNat)) (fun q=>(g.length -q.2).toNat) ⟨⟨Qa0 _,zg⟩,rfl⟩ ?_;rintro⟨q,i⟩ ⟨⟨i0,i1⟩,hq⟩;dsimp only at i0 i1 hq⊢;refine⟨fun hi=>?_,fun hi=>?_⟩
  ·have hi:=of_decide_eq_true hi
   have hi2:i.toNat<g.length:=zm
   rw[AgF hi2]at hq
   refine Ac.mid (fun _=>Ic (g.getD i.toNat ([],(0,[]))).2.2=0) ⟨⟨i0,hi⟩,hi2,(hT _ (hs _ (GK hi2))).to ?_⟩ fun _ hn=>?_
   ·rintro(d:Int) _ hd
    grind [Ic,Abc]
   grind [w64]
  grind [of_decide_eq_false,LS,Qb0]
theorem Ag1{l:List Av}(h:Ic l=0):P8 l:=by
 grind [Ic,Adw]
abbrev Aob:List Bs:=[([97]:List UInt8),([98]:List UInt8),([99]:List UInt8),([97,98]:List UInt8),([98,97]:List UInt8),([]:List UInt8),([97,97]:List UInt8),([98,32,97]:List UInt8),([120,43,121]:List UInt8),([92]:List UInt8)]
def U1(k:Int):Bs:=Aob.getD (HU k 10).toNat []
theorem Uj(k:Int):(U1 k).length≤3:=by
 have hr:=Ew (a:=k) (n:=10) zdz zdz;unfold U1;generalize HU k 10=m at*
 have:m=0∨m=1∨m=2∨m=3∨m=4∨m=5∨m=6∨m=7∨m=8∨m=9:=zm
 rcases this with rfl|rfl|rfl|rfl|rfl|rfl|rfl|rfl|rfl|rfl<;>decide
def Rs(P:Pg):Prop:=∀k:Int,Fn P Amg G6 k fun(d:Bs) _=>d=U1 k
theorem AlR(h:Hq P M4)(hM:Ng P):Rs P:=by
 intro k;refine AcC h ?_;unfold Wr;refine hM.at zdz zdz ?_;have hr:=Ew (a:=k) (n:=10) zdz zdz;exact⟨⟨zm,by simp;omega⟩,by simp;omega,rfl⟩
def I7(raw:List Int)(fr kinds:Int):Nat→Bs
 |0=>[]
 |k+1=>(I7 raw fr kinds k++U1 (HU (atF raw (fr+1+(k:Int))) kinds))++[10]
theorem Mx(raw:List Int)(fr kinds:Int):∀k,(I7 raw fr kinds k).length≤4*k
 |0=>Qb1 _
 |k+1=>by
  have h1:=Mx raw fr kinds k;have h2:=Uj (HU (atF raw (fr+1+(k:Int))) kinds);rw[I7,Qa7,Qa7];simp only[Qa3,Qc7];omega
def ZB(s:Bs)(z:Int):Bool:=cond (cond ((Int.tmod z (4:Int))==(0:Int)) (decide (((Qa4 s:Nat):Int)>(1:Int))) false) (((UInt8.toNat (Qf9 s (Qb3 (IntKind.i64.wrap (((Qa4 s:Nat):Int) -(2:Int)))) 0):Nat):Int) !=(10:Int)) false
def RN(raw:List Int)(fr mx kinds:Int):Bs:=
 if ZB (I7 raw fr kinds (HU (atF raw fr) (mx+1)).toNat) (atF raw (fr+90))=true then(I7 raw fr kinds (HU (atF raw fr) (mx+1)).toNat).take ((I7 raw fr kinds (HU (atF raw fr) (mx+1)).toNat).length -1)else I7 raw fr kinds (HU (atF raw fr) (mx+1)).toNat
theorem Ah9{raw:List Int}{fr mx kinds:Int}(h0:0≤mx)(h1:mx≤100):(RN raw fr mx kinds).length≤400:=by
 have hr:=Ew (a:=atF raw fr) (n:=mx+1) zm zm;have h2:=Mx raw fr kinds (HU (atF raw fr) (mx+1)).toNat;unfold RN;split
 ·rw[Qb9];omega
 ·omega
def Wc(P:Pg):Prop:=∀x:List Int×(Int×(Int×Int)),(0≤x.2.1∧x.2.1≤1000000)→(0≤x.2.2.1∧x.2.2.1≤100)→(1≤x.2.2.2∧x.2.2.2≤100000)→Fn P AjD FH x fun(d:Bs) _=>d=RN x.1 x.2.1 x.2.2.1 x.2.2.2
theorem AlK(h:Hq P M3)(hA:Qd P)(hM:Ng P)(hL:Rs P):Wc P:=by
 rintro⟨raw,fr,mx,kinds⟩ ⟨f0,f1⟩ ⟨m0,m1⟩ ⟨k0,k1⟩;dsimp only at f0 f1 m0 m1 k0 k1;refine AcB h ?_;unfold Wq;dsimp only;rw[w64 (n:=mx+1) zm zm,w64 (n:=fr+1) zm zm,w64 (n:=fr+90) zm zm];refine hA.at f0 (hM.at zm zm ?_);unfold RN;have hr:=Ew (a:=atF raw fr) (n:=mx+1) zm zm
 generalize HU (atF raw fr) (mx+1)=m at hr⊢
 refine Ac.mid (fun d=>d=I7 raw fr kinds m.toNat) ?_ fun d hd=>?_
 ·refine AJ.of (fun q=>(0≤q.2∧q.2≤m)∧q.1=I7 raw fr kinds q.2.toNat) (fun q=>(m -q.2).toNat) ⟨⟨Qa0 _,hr.1⟩,rfl⟩ ?_;rintro⟨s,i⟩ ⟨⟨i0,i1⟩,hs⟩;dsimp only at i0 i1 hs⊢;have hsl:=Mx raw fr kinds i.toNat;rw[←hs]at hsl;refine⟨fun hi=>?_,fun hi=>by have hi:=of_decide_eq_false hi;rw[hs,show i=m by omega]⟩
  have hi:=of_decide_eq_true hi
  have hnx:I7 raw fr kinds (i.toNat+1)=(s++U1 (HU (atF raw (fr+1+i)) kinds))++[10]:=by
   rw[I7,←hs,show((i.toNat:Nat):Int)=i by omega]
  have hll:=Uj (HU (atF raw (fr+1+i)) kinds)
  refine Ac.mid (fun d=>d=I7 raw fr kinds (i.toNat+1)) ?_ fun d hd=>?_
  ·rw[w64 zm zm];refine hA.at zm (hM.at k0 zm ((hL _).to ?_));rintro(ln:Bs) _ hln;have hln:ln=_:=hln;subst hln;refine⟨zm,by rw[Qa7];simp only[Qa3,Qc7];omega,hnx.symm⟩
  ·rw[w64 zm zm];exact⟨⟨⟨zm,zm⟩,by rw[hd,show(i+1).toNat=i.toNat+1 by omega]⟩,zm⟩
 ·subst hd;have hbl:=Mx raw fr kinds m.toNat;generalize I7 raw fr kinds m.toNat=d at hbl⊢;refine hA.at zm ⟨zdz,fun hc=>?_,?_⟩
  ·rw[Qe7]at hc;split at hc
   ·have h1:=of_decide_eq_true hc;rw[w64 zm zm];omega
   ·cases hc
  ·refine Ac.mid (fun e=>e=if ZB d (atF raw (fr+90))=true then d.take (d.length -1)else d) ⟨fun hc=>?_,fun hc=>?_⟩ fun _ h=>h
   ·have h1:1<d.length:=by
     rw[Qe7]at hc;split at hc
     ·rename_i h2;rw[Qe7]at h2;split at h2
      ·have:=of_decide_eq_true h2;omega
      ·cases h2
     ·cases hc
    rw[w64 zm zm];refine⟨⟨zm,zm⟩,?_⟩
    have hc:ZB d (atF raw (fr+90))=true:=by unfold ZB;exact hc
    rw[if_pos hc,show(((d.length:Nat):Int) -1).toNat=d.length -1 by omega]
   ·have hc:ZB d (atF raw (fr+90))=false:=by unfold ZB;exact hc
    rw[if_neg (by rw[hc];exact Bool.false_ne_true)]
theorem V2:∀(s acc:Bs),(lnN acc s).length≤s.length
 |[],acc=>by rw[lnN];exact Qb1 _
 |b::r,acc=>by
  rw[lnN];split
  ·have:=V2 r [];simp only[Qa3];omega
  ·have:=V2 r (acc++[b]);simp only[Qa3];omega
theorem Afa{s:Bs}(h:s.length≤4000):DC s=0:=by
 have h1:(lnF s).length≤s.length:=V2 s [];unfold DC;rw[if_neg zm]
abbrev Fu:List Bs:=[([97]:List UInt8),([98,47,120]:List UInt8),([98,47,121]:List UInt8),([99,32,100]:List UInt8)]
def Ain(raw:List Int)(fr lines:Int)(i:Nat):Option Av:=if atF raw (fr+(i:Int))%3>0 then some (Fu.getD i [],RN raw (fr+10+20*(i:Int)) lines 4)else none
def Vl(raw:List Int)(fr lines:Int)(k:Nat):List Av:=(Qc9 k).filterMap (Ain raw fr lines)
def Kr(raw:List Int)(fr lines:Int):List Av:=Vl raw fr lines 4
theorem Aio(raw:List Int)(fr lines:Int)(k:Nat):Vl raw fr lines (k+1)=Vl raw fr lines k++(Ain raw fr lines k).toList:=by
 unfold Vl;rw[List.range_succ,List.filterMap_append]
 cases h:Ain raw fr lines k with
 |none=>simp[h]
 |some v=>simp[h]
def AoL(l:List Av):Prop:=∃q:Nat→Option Bs,(∀i v,q i=some v→v.length≤4000)∧l=(Qc9 4).filterMap fun i=>(q i).map fun v=>(Fu.getD i [],v)
theorem Acu{raw:List Int}{fr lines:Int}(h0:0≤lines)(h1:lines≤100):AoL (Kr raw fr lines):=by
 refine⟨fun i=>if atF raw (fr+(i:Int))%3>0 then some (RN raw (fr+10+20*(i:Int)) lines 4)else none,fun i v hv=>?_,?_⟩
 ·dsimp only at hv;split at hv
  ·cases hv;have:=Ah9 (raw:=raw) (fr:=fr+10+20*(i:Int)) (kinds:=4) h0 h1;omega
  ·cases hv
 ·unfold Kr Vl
  congr 1
  funext i
  unfold Ain;dsimp only
  split<;>rfl
theorem Aes{l:List Av}(h:AoL l):∃a b c d:Option Bs,(∀v,a=some v∨b=some v∨c=some v∨d=some v→v.length≤4000)∧l=(a.map fun v=>(Fu.getD 0 [],v)).toList++((b.map fun v=>(Fu.getD 1 [],v)).toList++((c.map fun v=>(Fu.getD 2 [],v)).toList++(d.map fun v=>(Fu.getD 3 [],v)).toList)):=by
 obtain⟨q,hq,rfl⟩:=h;refine⟨q 0,q 1,q 2,q 3,fun v hv=>?_,?_⟩
 ·rcases hv with h|h|h|h
  ·exact hq _ _ h
  ·exact hq _ _ h
  ·exact hq _ _ h
  ·exact hq _ _ h
 ·show(Qc9 4).filterMap _=_;rw[show Qc9 4=[0,1,2,3]from rfl]
  cases h0:q 0<;>cases h1:q 1<;>cases h2:q 2<;>cases h3:q 3<;>simp[h0,h1,h2,h3,List.filterMap]
def Mm(P:Pg):Prop:=∀x:List Int×(Int×Int),(0≤x.2.1∧x.2.1≤100000)→(0≤x.2.2∧x.2.2≤100)→Fn P AjE EM x fun(d:List Av) _=>d=Kr x.1 x.2.1 x.2.2
theorem AlO(h:Hq P Lo)(hA:Qd P)(hB:Wc P):Mm P:=by
 rintro⟨raw,fr,lines⟩ ⟨f0,f1⟩ ⟨l0,l1⟩;dsimp only at f0 f1 l0 l1;refine AaV h ?_;unfold UE;dsimp only
 refine Ac.mid (fun d=>d=Kr raw fr lines) ?_ fun _ h=>h
 have hlen4:(Fu:List Bs).length=4:=rfl;unfold Kr
 have hsl:∀k,(Vl raw fr lines k).length≤k:=fun k=>by grind [Vl]
 refine AJ.of (fun q=>(0≤q.2∧q.2≤4)∧q.1=Vl raw fr lines q.2.toNat) (fun q=>(4 -q.2).toNat) ⟨⟨Qa0 _,zdz⟩,rfl⟩ ?_;rintro⟨o,i⟩ ⟨⟨i0,i1⟩,ho⟩;dsimp only at i0 i1 ho⊢;refine⟨fun hi=>?_,fun hi=>zg⟩;have hi:=of_decide_eq_true hi;have hnx:=Aio raw fr lines i.toNat;have hol:=hsl i.toNat;rw[←ho]at hnx hol;unfold Ain at hnx
 rw[show((i.toNat:Nat):Int)=i by omega]at hnx;have hr:=Ah0 raw (fr+i)
 have hi4:i<((Qa4 (Fu:List Bs):Nat):Int):=zg
 have hi5:i.toNat<Qa4 (Fu:List Bs):=zg
 have hsz:∀v:Bs,(o.length+([(Fu.getD i.toNat [],v)]:List Av).length)*32≤140737488355328:=fun v=>by
  grind
 refine Ac.mid (fun d=>d=Vl raw fr lines (i.toNat+1)) ?_ fun d hd=>?_
 ·rw[w64 (n:=fr+i) zm zm,w64 (n:=fr+10) zm zm,w64 (n:=20*i) zm zm,w64 (n:=fr+10+20*i) zm zm];refine hA.at zm ⟨zdz,?_⟩;rw[Qc4 hr.1]
  refine Ac.mid (fun d=>d=Vl raw fr lines (i.toNat+1)) ⟨fun hc=>?_,fun hc=>?_⟩ fun _ h=>h
  ·have hc:=of_decide_eq_true hc;rw[if_pos hc]at hnx
   have hbl:∀{K:Bs→Unit→Prop},K (RN raw (fr+10+20*i) lines 4) ()→Fn P AjD FH (raw,(fr+10+20*i,(lines,(4:Int)))) K:=fun{K} hk=>(hB (raw,(fr+10+20*i,(lines,(4:Int)))) ⟨zg,zg⟩ ⟨l0,l1⟩ ⟨(by decide:(1:Int)≤4),(by decide:(4:Int)≤100000)⟩).to fun(d:Bs) _ hd=>by
    have hd:d=_:=hd;subst hd;exact hk
   refine Ac.mid (fun d=>d=Vl raw fr lines (i.toNat+1)) zg fun _ h=>h
  simp_all
 grind [w64]
theorem Mm.at(h:Mm P){raw:List Int}{fr lines:Int}(f0:0≤fr)(f1:fr≤100000)(l0:0≤lines)(l1:lines≤100){K:List Av→Unit→Prop}(hk:K (Kr raw fr lines) ()):Fn P AjE EM (raw,(fr,lines)) K:=
 (h (raw,(fr,lines)) ⟨f0,f1⟩ ⟨l0,l1⟩).to fun(d:List Av) _ hd=>by
  have hd:d=Kr raw fr lines:=hd;subst hd;exact hk
def LW(a b:List Av)(d:List BF×Int):Prop:=d.2=OI a b∧(d.2≠0→d.1=[])∧(d.2=0→Qx a b d.1)
theorem Aig{a b:List Av}{d e:List BF×Int}(hd:LW a b d)(he:LW a b e):d=e:=by
 obtain⟨d1,d2,d3⟩:=hd
 obtain⟨e1,e2,e3⟩:=he<;>grind [OI,UY]
theorem XD{a b:List Av}{d:List BF}(h:Qx a b d):d.length≤a.length+b.length:=by
 have hn:(d.map (·.1)).Nodup:=by
  rw[Qc5,Qe3]
  refine h.1.imp fun{x y} hxy e=>?_<;>grind [Ip]
 have hs:∀p∈d.map (·.1),p∈(a++b).map (·.1):=fun p hp=>by
  obtain⟨t,ht,rfl⟩:=List.mem_map.1 hp;have:=(h.2 t.1 t.2).1 ht
  grind [Ac2,B7,JN]
 have:=EH hn hs
 grind
theorem Afj{a b:List Av}{d:List BF×Int}(h:LW a b d):d.1.length≤a.length+b.length:=by
 by_cases h0:d.2=0
 ·exact XD (h.2.2 h0)
 ·rw[h.2.1 h0]<;>grind
def D4(g:List Al)(c:Int):List Av:=(g.getD c.toNat ([],(0,[]))).2.2
def Cx(g:List Al)(c:Int):List (List Av):=if(Bf g c).length=0 then[[]]else(Bf g c).map fun p=>D4 g p
theorem E0{g:List Al}(h:Gy g 0):MN g∧Mc g∧¬OL g∧TK g∧LS g=0:=by
 have k1:MN g:=Classical.byContradiction fun k=>by have:=h.1 k;omega
 have k2:Mc g:=Classical.byContradiction fun k=>by have:=h.2.1 k1 k;omega
 have k3:¬OL g:=fun k=>by have:=h.2.2.1 k1 k2 k;omega
 have k4:TK g:=Classical.byContradiction fun k=>by have:=h.2.2.2.1 k1 k2 k3 k;omega
 exact⟨k1,k2,k3,k4,(h.2.2.2.2 k1 k2 k3 k4).symm⟩
theorem Ak1(g:List Al)(c:Int):(cond (decide (c≥(0:Int))) (decide (c<((Qa4 g:Nat):Int))) false)=true↔inR g c:=by
 grind [inR]
def Na(P:Pg):Prop:=∀x:List Al×Int,Yq x.1→Fn P Amn Dr x fun(d:Int) _=>∃e,Gy x.1 e∧(e≠0→d=e)∧(e=0→(inR x.1 x.2→d=0)∧(¬inR x.1 x.2→d=5))
theorem Agl(h:Hq P GP)(hI:Hq P Mi)(hD:I5 P):Na P:=by
 rintro⟨g,c⟩ hs;refine TR h ?_;unfold NS;dsimp only at hs⊢;refine(hD g hs).to ?_;rintro(e:Int) _ he
 grind [Gy,TU,Rx,Ak1]
theorem H6{α:Type}{l:List α}{k:Nat}{d:α}(h:k<l.length):l.take (k+1)=l.take k++[l.getD k d]:=by
 simp_all
def Kf(P:Pg):Prop:=∀x:List Al×Int,inR x.1 x.2→YK x.1→(Bf x.1 x.2).length≤1000000→Fn P zS4 Bh x fun(d:List (List Av)) _=>d=Cx x.1 x.2
theorem Agr(h:Hq P Dm):Kf P:=by
 rintro⟨g,c⟩ hc hv hl;dsimp only at hc hv hl;refine QT h ?_;unfold LC;dsimp only
 have hc2:c.toNat<g.length:=by have:=hc.1;have:=hc.2;omega
 have ez:(g.getD c.toNat Am).1=Bf g c:=rfl;have hv2:=hv c hc;rw[ez];refine⟨⟨hc.1,hc.2⟩,hc2,fun hb=>?_,fun hb=>⟨⟨hc.1,hc.2⟩,hc2,?_⟩⟩
 ·grind [Cx,Bf]
 ·have hb:¬((Bf g c).length:Int)=0:=by grind
  have et:Cx g c=(Bf g c).map fun p=>D4 g p:=by grind [Cx]
  rw[et];generalize Bf g c=l at hl hv2 hb⊢
  refine Ac.mid (fun d=>d=l.map fun p=>D4 g p) ?_ fun _ h=>h
  refine AJ.of (fun q=>(0≤q.2∧q.2≤l.length)∧q.1=(l.take q.2.toNat).map fun p=>D4 g p) (fun q=>(l.length -q.2).toNat) ⟨⟨Qa0 _,zg⟩,rfl⟩ ?_;rintro⟨q,i⟩ ⟨⟨i0,i1⟩,hq⟩;dsimp only at i0 i1 hq⊢;refine⟨fun hi=>?_,fun hi=>?_⟩
  ·have hi:=of_decide_eq_true hi
   have hi2:i.toNat<l.length:=zm
   have hp:=hv2 _ (Be (d:=0) hi2)
   have hql:q.length=i.toNat:=zg
   refine Ac.mid (fun d=>d=(l.take (i.toNat+1)).map fun p=>D4 g p) ⟨⟨i0,hi⟩,hi2,⟨hp.1,hp.2⟩,by have:=hp.1;have:=hp.2;omega,zg,?_⟩ fun d hn=>?_
   ·rw[H6 (d:=0) hi2,Qb5,hq];rfl
   grind [w64]
  grind [of_decide_eq_false,Qa5]
theorem AoR{α:Type}{q r:List α}{k:Nat}{d:α}(h:k<q.length):(q++r).getD k d=q.getD k d:=by
 grind
theorem AqW{α:Type}{q:List α}{v d:α}:(q++[v]).getD q.length d=v:=by
 grind
def Ao3(g:List Al)(c:Int)(d:List (List BF)):Prop:=d.length=(Cx g c).length∧∀k,k<d.length→∃e,LW ((Cx g c).getD k []) (D4 g c) (d.getD k [],e)
theorem NK{g:List Al}{c:Int}(hl:(Bf g c).length≤1000000):(Cx g c).length≤1000000∧0<(Cx g c).length:=by
 grind [Cx]
def AjQ(P:Pg):Prop:=∀x:List Al×Int,inR x.1 x.2→YK x.1→(Bf x.1 x.2).length≤1000000→(∀t∈Cx x.1 x.2,Gp t)→Gp (D4 x.1 x.2)→Fn P Aoj ET x fun(d:List (List BF)) _=>Ao3 x.1 x.2 d
theorem Arl(h:Hq P FY)(hP:Kf P)(hT:Mo P):AjQ P:=by
 rintro⟨g,c⟩ hc hv hl ht hf;dsimp only at hc hv hl ht hf;refine YR h ?_;unfold Rw;refine(hP (g,c) hc hv hl).to ?_;rintro(d:List (List Av)) _ hd;have hd:d=Cx g c:=hd;subst hd;dsimp only
 have hc2:c.toNat<g.length:=by have:=hc.1;have:=hc.2;omega
 have htl:=(NK hl).1;unfold Ao3;generalize Cx g c=T at ht htl⊢
 refine Ac.mid (fun d=>d.length=T.length∧∀k,k<d.length→∃e,LW (T.getD k []) (D4 g c) (d.getD k [],e)) ?_ fun _ h=>h
 refine AJ.of (fun q=>(0≤q.2∧q.2≤T.length)∧q.1.length=q.2.toNat∧∀k,k<q.1.length→∃e,LW (T.getD k []) (D4 g c) (q.1.getD k [],e)) (fun q=>(T.length -q.2).toNat) ⟨⟨Qa0 _,zg⟩,rfl,fun k hk=>absurd hk zsz⟩ ?_;rintro⟨q,i⟩ ⟨⟨i0,i1⟩,hql,hq⟩;dsimp only at i0 i1 hql hq⊢;refine⟨fun hi=>?_,fun hi=>?_⟩
 ·have hi:=of_decide_eq_true hi
  have hi2:i.toNat<T.length:=zm
  refine Ac.mid (fun d=>d.length=i.toNat+1∧∀k,k<d.length→∃e,LW (T.getD k []) (D4 g c) (d.getD k [],e)) ⟨⟨i0,hi⟩,hi2,⟨hc.1,hc.2⟩,hc2,(hT (T.getD i.toNat [],D4 g c) (ht _ (Be hi2)) hf).to ?_⟩ fun d hn=>?_
  ·rintro(d:List BF×Int) _ hd
   grind [LW,D4,AoR,AqW]
  grind [w64]
 grind
theorem Aaq:∀{g:List Al},LS g=0→∀c∈g,Ic c.2.2=0
 |[],_,c,hc=>(nomatch hc)
 |x::g,h,c,hc=>by
  rw[LS]at h
  by_cases hx:Ic x.2.2=0
  ·rw[if_neg zg]at h
   rcases List.mem_cons.1 hc with rfl|hc
   ·exact hx
   ·exact Aaq h c hc
  grind
theorem Acm{l:List Av}(h:Ic l=0):l.length≤200:=by
 grind [Ic]
theorem ME{g:List Al}(h0:Gy g 0)(hs:Yq g){c:Int}(hc:inR g c):Ic (D4 g c)=0∧Gp (D4 g c):=by
 have hm:=GK (g:=g) (i:=c.toNat) (by have:=hc.1;have:=hc.2;omega)
 have h1:=Aaq (E0 h0).2.2.2.2 _ hm
 refine⟨h1,?_,hs _ hm⟩<;>grind [Acm,D4]
theorem PW{g:List Al}(h0:Gy g 0)(hs:Yq g){c:Int}(hc:inR g c):∀t∈Cx g c,Ic t=0∧Gp t:=by
 intro t ht;unfold Cx at ht;split at ht
 ·have:t=[]:=by grind
  subst this;trivial
 ·obtain⟨p,hp,rfl⟩:=List.mem_map.1 ht;exact ME h0 hs (HZ (E0 h0).2.1 c hc p hp)
abbrev Zt:=Bs×Bs
structure AeD(g:List Al)(S A:List Int):Prop where
 nd:A.Nodup
 mem:∀c,c∈A↔∃s∈S,Rch g s c
theorem AeD.inR{g:List Al}{S A:List Int}(h:AeD g S A)(hv:YK g)(hs:∀s∈S,inR g s){c:Int}(hc:c∈A):inR g c:=by
 obtain⟨s,h1,h2⟩:=(h.mem c).1 hc;exact h2.inR hv (hs s h1)
theorem AeD.up{g:List Al}{S A:List Int}(h:AeD g S A){c p:Int}(hc:c∈A)(hp:p∈Bf g c):p∈A:=by
 obtain⟨s,h1,h2⟩:=(h.mem c).1 hc;exact(h.mem p).2 ⟨s,h1,h2.snoc hp⟩
def unl(A out:List Int):List Int:=A.filter fun x=>!decide (x∈out)
theorem Ahn{A out:List Int}{c:Int}:c∈unl A out↔c∈A∧c∉out:=by simp[unl]
theorem An6(A:List Int):unl A []=A:=by simp[unl]
structure KIn(g:List Al)(A C out Q L:List Int):Prop where
 len:C.length=g.length
 nd:(out++Q).Nodup
 sub:∀c∈out++Q,c∈A
 deg:∀p∈A,C.getD p.toNat 0=((Dw g (unl A out) p+L.count p:Nat):Int)
 zer:∀p∈A,p∈out++Q↔C.getD p.toNat 0=0
theorem KIn.perm{g:List Al}{A C out Q Q' L:List Int}(h:KIn g A C out Q L)(hp:Qg0 Q' Q):KIn g A C out Q' L:=
 ⟨h.len,(List.Perm.append_left out hp).nodup_iff.2 h.nd,fun c hc=>h.sub c ((List.Perm.append_left out hp).mem_iff.1 hc),h.deg,fun p hA=>by rw[(List.Perm.append_left out hp).mem_iff];exact h.zer p hA⟩
theorem KIn.start{g:List Al}{A C out Q:List Int}{c:Int}(hn:A.Nodup)(h:KIn g A C out (c::Q) []):KIn g A C (out++[c]) Q (Bf g c):=by
 have hcA:c∈A:=h.sub c zsz
 have hco:c∉out:=fun hc=>(List.nodup_append.1 h.nd).2.2 c hc c zsz rfl
 have e:(out++[c])++Q=out++c::Q:=zsz
 refine⟨h.len,by grind [h.nd],fun x hx=>h.sub x zg,fun p hp=>?_,fun p hp=>by rw[e];exact h.zer p hp⟩
 have:=QS g out c p hco hn hcA;have h1:=h.deg p hp
 grind [unl]
theorem KIn.pos{g:List Al}{A C out Q L:List Int}{p:Int}(h:KIn g A C out Q (p::L))(hp:p∈A):1≤C.getD p.toNat 0∧p∉out++Q:=by
 have h1:=h.deg p hp;rw[Qd0]at h1;refine⟨zm,fun hm=>?_⟩;have:=(h.zer p hp).1 hm;omega
theorem Kx{C:List Int}{i j:Nat}{x:Int}(hi:i<C.length):(C.set i x).getD j 0=if i=j then x else C.getD j 0:=by
 grind
theorem KIn.step{g:List Al}{A C out Q L:List Int}{p:Int}(h:KIn g A C out Q (p::L))(hA:∀c∈A,inR g c)(hp:p∈A):
  (C.getD p.toNat 0 -1=0→KIn g A (C.set p.toNat (C.getD p.toNat 0 -1)) out (p::Q) L)∧(C.getD p.toNat 0 -1≠0→KIn g A (C.set p.toNat (C.getD p.toNat 0 -1)) out Q L):=by
 obtain⟨h1,h2⟩:=h.pos hp;have hr:=hA p hp
 have hlt:p.toNat<C.length:=zg
 have hpm:Qg0 (out++p::Q) (p::(out++Q)):=List.perm_middle
 have hd:∀x∈A,(C.set p.toNat (C.getD p.toNat 0 -1)).getD x.toNat 0=((Dw g (unl A out) x+L.count x:Nat):Int):=by
  intro x hx;have h3:=h.deg x hx;rw[Kx hlt]
  by_cases e:x=p
  ·grind
  ·have:=(hA x hx).1;have:=hr.1
   grind
 have hz:∀x∈A,x≠p→((C.set p.toNat (C.getD p.toNat 0 -1)).getD x.toNat 0=0↔x∈out++Q):=by
  intro x hx e;have:=(hA x hx).1;have:=hr.1;rw[Kx hlt,if_neg zm];exact(h.zer x hx).symm
 have hs:(C.set p.toNat (C.getD p.toNat 0 -1)).getD p.toNat 0=C.getD p.toNat 0 -1:=by simp_all
 refine⟨fun h0=>⟨by grind [h.len],hpm.nodup_iff.2 (List.nodup_cons.2 ⟨h2,h.nd⟩),fun c hc=>?_,hd,fun x hx=>?_⟩,fun h0=>⟨by grind [h.len],h.nd,h.sub,hd,fun x hx=>?_⟩⟩
 ·rcases List.mem_cons.1 (hpm.mem_iff.1 hc)with rfl|hc
  ·exact hp
  ·exact h.sub c hc
 ·rw[hpm.mem_iff,List.mem_cons]
  by_cases e:x=p<;>grind
 ·by_cases e:x=p<;>grind
theorem KIn.room{g:List Al}{A C out Q L:List Int}(h:KIn g A C out Q L)(hA:∀c∈A,inR g c):out.length+Q.length≤g.length:=by
 have:=EH h.nd (m:=rng g.length) fun x hx=>Ea.2 (hA x (h.sub x hx))
 grind [GZ]
theorem KIn.chain{g:List Al}{A C out:List Int}(h:KIn g A C out [] [])(hA:∀c∈A,inR g c):∀(m:Nat) (x:Int) (L:List Int),g.length -(x::L).length<m→(x::L).Nodup→(∀y∈x::L,inR g y∧Rch g x y)→x∈A→x∉out→OL g
 |0,_,_,h0,_,_,_,_=>absurd h0 (Qd2 _)
 |m+1,x,L,hm,hn,hr,hxA,hx=>by
  have hd:=h.deg x hxA
  have hz:=(h.zer x hxA)
  rw[Qf3]at hz
  have hpos:Dw g (unl A out) x≠0:=fun e=>hx (hz.2 zg)
  have hne:¬∀c∈unl A out,x∉Bf g c:=fun k=>hpos (JO.2 k)
  obtain⟨c,hc⟩:=Classical.not_forall.1 hne;obtain⟨hc1,hp⟩:=Classical.not_imp.1 hc;have hp:=Classical.not_not.1 hp;obtain⟨hcA,hcd⟩:=Ahn.1 hc1
  by_cases e:c∈x::L
  ·exact⟨c,hA c hcA,x,hp,(hr c e).2⟩
  ·have hl:=EH (List.nodup_cons.2 ⟨e,hn⟩) (m:=rng g.length) fun y hy=>by
    rcases List.mem_cons.1 hy with rfl|hy
    ·exact Ea.2 (hA _ hcA)
    ·exact Ea.2 (hr y hy).1
   rw[GZ]at hl;simp only[Qa3]at hl hm;refine KIn.chain h hA m c (x::L) zg (List.nodup_cons.2 ⟨e,hn⟩) (fun y hy=>?_) hcA hcd
   rcases List.mem_cons.1 hy with rfl|hy
   ·exact⟨hA _ hcA,.refl _⟩
   ·exact⟨(hr y hy).1,.step hp (hr y hy).2⟩
def AjM(g:List Al)(S l:List Int):Prop:=l.Nodup∧∀c,c∈l↔∃s∈S,Rch g s c
theorem KIn.fin{g:List Al}{S A C out:List Int}(hS:AeD g S A)(h:KIn g A C out [] [])(hA:∀c∈A,inR g c)(hcy:¬OL g):AjM g S out:=by
 have hnd:=h.nd;have hsub:=h.sub;rw[Qf3]at hnd hsub;refine⟨hnd,fun c=>⟨fun hc=>(hS.mem c).1 (hsub c hc),fun hc=>?_⟩⟩;have hcA:=(hS.mem c).2 hc
 by_cases e:c∈out
 ·exact e
 ·exact absurd (h.chain hA _ c [] (Nat.lt_succ_self _) zsz (fun y hy=>by rw[List.mem_singleton.1 hy];exact⟨hA c hcA,.refl c⟩) hcA e) hcy
def Pr(g:List Al)(S C:List Int):Prop:=∃A,AeD g S A∧C.length=g.length∧(∀p∈A,C.getD p.toNat 0=(Dw g A p:Int))∧∀p,inR g p→p∉A→C.getD p.toNat 0=-1
theorem KIn.first{g:List Al}{S A C Q:List Int}(hS:AeD g S A)(hl:C.length=g.length)(h1:∀p∈A,C.getD p.toNat 0=(Dw g A p:Int))(h2:∀p,inR g p→p∉A→C.getD p.toNat 0=-1)(hA:∀c∈A,inR g c)
  (hQ:Qg0 Q ((rng g.length).filter fun c=>decide (C.getD c.toNat 0=0))):KIn g A C [] Q []:=by
 have hm:∀c,c∈Q↔inR g c∧C.getD c.toNat 0=0:=fun c=>by
  rw[hQ.mem_iff,List.mem_filter,Ea,decide_eq_true_eq];rfl
 refine⟨hl,hQ.nodup_iff.2 ((Ul _).filter _),fun c hc=>?_,fun p hp=>by rw[An6];simpa using h1 p hp,fun p hp=>?_⟩<;>grind
structure DI(g:List Al)(S C O U F R:List Int):Prop where
 len:C.length=g.length
 nd:(O++(U++F)).Nodup
 inr:∀c∈O++(U++F),inR g c
 seen:∀c,inR g c→(0≤C.getD c.toNat 0↔c∈O++(U++F))
 neg:∀c,inR g c→C.getD c.toNat 0<0→C.getD c.toNat 0=-1
 deg:∀c∈O++(U++F),C.getD c.toNat 0=((Dw g F c+R.count c:Nat):Int)
 clo:∀c∈F,∀p∈Bf g c,p∈O++(U++F)
 clr:∀p∈R,p∈O++(U++F)
 anc:∀c∈O++(U++F),∃s∈S,Rch g s c
theorem DI.AfD{g:List Al}{S C O U F R:List Int}(h:DI g S C O U F R):O.length+F.length≤g.length:=by
 have:=EH h.nd (m:=rng g.length) fun x hx=>Ea.2 (h.inr x hx)
 grind [GZ]
theorem DI.reach{g:List Al}{S C O U F R:List Int}{p:Int}(h:DI g S C O U F R)(hp:inR g p)(ha:∃s∈S,Rch g s p)(hn:C.getD p.toNat 0<0):DI g S (C.set p.toNat 0) (O++[p]) U F R:=by
 have hlt:p.toNat<C.length:=zg
 have hps:p∉O++(U++F):=fun k=>by have:=(h.seen p hp).2 k;omega
 have hpm:Qg0 ((O++[p])++(U++F)) (p::(O++(U++F))):=by
  grind
 have hm:∀c,c∈(O++[p])++(U++F)↔c=p∨c∈O++(U++F):=fun c=>zg
 have hz:∀c,inR g c→(C.set p.toNat 0).getD c.toNat 0=if c=p then 0 else C.getD c.toNat 0:=fun c hc=>by
  rw[Kx hlt];have:=hc.1;have:=hp.1
  grind
 refine⟨by grind [h.len],hpm.nodup_iff.2 (List.nodup_cons.2 ⟨hps,h.nd⟩),fun c hc=>?_,fun c hc=>?_,fun c hc=>?_,fun c hc=>?_,fun c hc q hq=>(hm q).2 (.inr (h.clo c hc q hq)),fun q hq=>(hm q).2 (.inr (h.clr q hq)),fun c hc=>?_⟩
 ·rcases(hm c).1 hc with rfl|hc
  ·exact hp
  ·exact h.inr c hc
 ·rw[hz c hc,hm]
  by_cases e:c=p
  ·grind
  ·rw[if_neg e,h.seen c hc]<;>grind
 ·rw[hz c hc];split
  ·grind
  ·exact h.neg c hc
 ·rcases(hm c).1 hc with rfl|hc
  ·rw[hz c hp,if_pos rfl]
   have d0:Dw g F c=0:=JO.2 fun f hf hq=>hps (h.clo f hf c hq)
   have r0:R.count c=0:=List.count_eq_zero.2 fun hq=>hps (h.clr c hq)
   grind
  ·have hne:c≠p:=fun e=>hps (e▸hc)
   rw[hz c (h.inr c hc),if_neg hne];exact h.deg c hc
 ·rcases(hm c).1 hc with rfl|hc
  ·exact ha
  ·exact h.anc c hc
theorem DI.inc{g:List Al}{S C O U F R:List Int}{p:Int}(h:DI g S C O U F R)(hp:p∈O++(U++F)):DI g S (C.set p.toNat (C.getD p.toNat 0+1)) O U F (R++[p]):=by
 have hr:=h.inr p hp
 have hlt:p.toNat<C.length:=by rw[h.len];have:=hr.1;have:=hr.2;omega
 have hz:∀c,inR g c→(C.set p.toNat (C.getD p.toNat 0+1)).getD c.toNat 0=if c=p then C.getD p.toNat 0+1 else C.getD c.toNat 0:=fun c hc=>by
  rw[Kx hlt];have:=hc.1;have:=hr.1
  grind
 have h0:=(h.seen p hr).2 hp;refine⟨by grind [h.len],h.nd,h.inr,fun c hc=>?_,fun c hc=>?_,fun c hc=>?_,h.clo,fun q hq=>?_,h.anc⟩
 ·rw[hz c hc]
  by_cases e:c=p
  ·grind
  ·rw[if_neg e];exact h.seen c hc
 ·rw[hz c hc];split
  ·grind
  ·exact h.neg c hc
 ·rw[hz c (h.inr c hc),Qc1];have hd:=h.deg c hc
  grind
 ·rcases List.mem_append.1 hq with hq|hq
  ·exact h.clr q hq
  grind
theorem DI.pop{g:List Al}{S C O F:List Int}{x:Int}(h:DI g S C (O++[x]) [] F []):DI g S C O [x] F []:=by
 have e:(O++[x])++([]++F)=O++([x]++F):=zsz
 obtain⟨a1,a2,a3,a4,a5,a6,a7,a8,a9⟩:=h;rw[e]at a2 a3 a6 a9;refine⟨a1,a2,a3,fun c hc=>zg,a5,a6,fun c hc p hp=>zg,(fun _ k=>nomatch k),a9⟩
theorem DI.done{g:List Al}{S C O F:List Int}{x:Int}(h:DI g S C O [x] F (Bf g x)):DI g S C O [] (x::F) []:=by
 have e:O++([x]++F)=O++([]++(x::F)):=zsz
 obtain⟨a1,a2,a3,a4,a5,a6,a7,a8,a9⟩:=h;rw[e]at a2 a3 a6 a9
 refine⟨a1,a2,a3,fun c hc=>by rw[←e];exact a4 c hc,a5,fun c hc=>?_,fun c hc p hp=>?_,(fun _ k=>nomatch k),a9⟩<;>grind [Dw]
theorem DI.fin{g:List Al}{S C F:List Int}(h:DI g S C [] [] F [])(hs:∀s∈S,s∈F):Pr g S C:=by
 have e:([]:List Int)++([]++F)=F:=zsz
 obtain⟨a1,a2,a3,a4,a5,a6,a7,a8,a9⟩:=h;rw[e]at a2 a3 a6 a7 a9;refine⟨F,⟨a2,fun c=>⟨a9 c,?_⟩⟩,a1,fun p hp=>zg,fun p hp hn=>a5 p hp ?_⟩
 ·rintro⟨s,h1,h2⟩;have:=hs s h1;clear h1 hs
  induction h2<;>grind
 grind
def QA(P:Pg):Prop:=∀x:Int×(List Int×List Int),(0≤x.1∧x.1<(x.2.1.length:Int))→x.2.2.length≤1000000→Fn P Ams BH x fun(_:Unit) (e:List Int×List Int)=>e=if x.2.1.getD x.1.toNat 0<0 then(x.2.1.set x.1.toNat 0,x.2.2++[x.1])else x.2
theorem Agm(h:Hq P CN):QA P:=by
 rintro⟨c,C,O⟩ hc hO;dsimp only at hc hO;refine Kv h ?_;unfold Gn;dsimp only
 have hlt:c.toNat<C.length:=zm
 refine⟨hc,hlt,Ac.mid (fun d=>d=if C.getD c.toNat 0<0 then(C.set c.toNat 0,O++[c])else(C,O)) ⟨fun k=>?_,fun k=>?_⟩ fun d hd=>hd⟩<;>grind
def Om(P:Pg):Prop:=∀x:List Al×List Int,x.1.length≤300→YK x.1→ndG x.1→(∀c,inR x.1 c→(Bf x.1 c).length≤1000000)→x.2.length≤1000000→(∀c∈x.2,inR x.1 c)→Fn P AqE Dq x fun(d:List Int) _=>Pr x.1 x.2 d
theorem Aec(h:Hq P Dp)(hR:QA P):Om P:=by
 rintro⟨g,S⟩ hn hv hnd hpl hSl hS;dsimp only at hn hv hnd hpl hSl hS;refine L8 h ?_;unfold Hd;dsimp only;refine⟨zm,Ac.mid (fun d=>d=Qd8 g.length (-1)) ?_ ?_⟩
 ·refine AJ.of (fun q=>(0≤q.1∧q.1≤g.length)∧q.2.length=g.length∧∀i,i<q.1.toNat→q.2.getD i 0=-1) (fun q=>(g.length -q.1).toNat) ⟨⟨Qa0 _,Qa1 _⟩,zsz,fun i hi=>absurd hi zsz⟩ ?_;rintro⟨i,C⟩ ⟨⟨i0,i1⟩,hl,hC⟩;dsimp only at i0 i1 hl hC⊢;refine⟨fun hi=>?_,fun hi=>?_⟩
  ·have hi:i<(g.length:Int):=by grind
   refine Ac.mid (fun d=>d=C.set i.toNat (-1)) ⟨⟨i0,zm⟩,zm,rfl⟩ ?_<;>grind [w64,Kx]
  ·have hi:¬i<(g.length:Int):=by grind
   refine AkF 0 (by simp[hl]) fun j hj=>?_<;>grind
 rintro C0 rfl
 have h00:DI g S (Qd8 g.length (-1)) [] [] [] []:=by
  have hz:∀c,inR g c→(Qd8 g.length (-1:Int)).getD c.toNat 0=-1:=fun c hc=>by
   have:=hc.1;have:=hc.2
   grind
  exact⟨zsz,zsz,(fun _ k=>nomatch k),fun c hc=>zg,fun c hc _=>hz c hc,(fun _ k=>nomatch k),(fun _ k=>nomatch k),(fun _ k=>nomatch k),(fun _ k=>nomatch k)⟩
 generalize Qd8 g.length (-1:Int)=C0 at h00;refine Ac.mid (fun d=>DI g S d.1 d.2 [] [] []∧∀s∈S,s∈d.2) ?_ ?_
 ·refine AJ.of (fun q=>(0≤q.1∧q.1≤S.length)∧DI g S q.2.1 q.2.2 [] [] []∧∀s∈S.take q.1.toNat,s∈q.2.2) (fun q=>(S.length -q.1).toNat) ⟨⟨Qa0 _,Qa1 _⟩,h00,fun s k=>zg⟩ ?_;rintro⟨i,C,O⟩ ⟨⟨i0,i1⟩,hD,hO⟩;dsimp only at i0 i1 hD hO⊢;refine⟨fun hi=>?_,fun hi=>?_⟩
  ·have hi:=of_decide_eq_true hi
   have hi2:i.toNat<S.length:=zm
   have hsm:=Be (d:=(0:Int)) hi2;have hsr:=hS _ hsm
   have htk:∀s∈S.take (i.toNat+1),s∈S.take i.toNat∨s=S.getD i.toNat 0:=fun s hs=>by
    grind [List.take_add_one,Qb2,getD_eq]
   have hol:=hD.AfD;refine Ac.mid (fun d=>DI g S d.1 d.2 [] [] []∧∀t∈S.take (i.toNat+1),t∈d.2) ⟨⟨i0,hi⟩,hi2,(hR (S.getD i.toNat 0,(C,O)) (by dsimp only;rw[hD.len];exact hsr) zg).to ?_⟩ ?_
   ·rintro _ (e:List Int×List Int) he;dsimp only at he;subst he;have hmem:=hD.seen _ hsr;simp only[Qf3]at hmem;split
    ·rename_i hneg
     refine⟨hD.reach hsr ⟨_,hsm,.refl _⟩ hneg,fun t ht=>?_⟩<;>grind
    grind
   grind [w64]
  grind [of_decide_eq_false,Qa5]
 rintro⟨C1,O1⟩ ⟨hD1,hO1⟩;dsimp only at hD1 hO1⊢
 refine Ac.mid (fun d=>Pr g S d) ?_ fun d hd=>hd
 refine⟨fun n q=>∃F,DI g S q.1 q.2 [] F []∧(∀s∈S,s∈q.2++F)∧n=g.length -F.length,⟨_,[],hD1,zg,rfl⟩,?_⟩;rintro n ⟨C,O⟩ ⟨F,hD,hO,rfl⟩;dsimp only at hD hO⊢;have hol:=hD.AfD;refine⟨fun hi=>?_,fun hi=>?_⟩
 ·have hi:=of_decide_eq_true hi
  obtain⟨O',x,rfl⟩:∃O' x,O=O'++[x]:=⟨O.dropLast,O.getLast zg,(List.dropLast_concat_getLast _).symm⟩
  rw[Qa7,Qf6]at hol
  have hw:IntKind.i64.wrap (((O'++[x]).length:Int) -1)=(O'.length:Int):=by
   grind [w64]
  have hgx:(O'++[x]).getD O'.length 0=x:=zsz
  have htk:Qe0 O'.length (Qf0 0 (O'++[x]))=O':=zsz
  have hxm:=hD.inr x zsz;have hxa:=hD.anc x zsz;have hD2:=hD.pop
  have hx2:x.toNat<g.length:=by have:=hxm.1;have:=hxm.2;omega
  simp only[hw,Int.toNat_natCast,hgx,htk]
  have hst0:∀s∈S,s∈O'++([x]++F):=fun s hs=>zg
  have hpl2:=hpl x hxm;refine Ac.mid (fun d=>DI g S d.1 d.2 [x] F (Bf g x)∧∀s∈S,s∈d.2++([x]++F)) ⟨zg,zsz,zg,zsz,hxm,hx2,?_⟩ ?_
  ·refine Ac.mid (fun d=>DI g S d.1 d.2 [x] F (Bf g x)∧∀s∈S,s∈d.2++([x]++F)) ?_ fun d hd=>hd
   refine AJ.of (fun q=>(0≤q.1∧q.1≤(Bf g x).length)∧DI g S q.2.1 q.2.2 [x] F ((Bf g x).take q.1.toNat)∧∀s∈S,s∈q.2.2++([x]++F)) (fun q=>((Bf g x).length -q.1).toNat) ⟨⟨Qa0 _,Qa1 _⟩,hD2,hst0⟩ ?_;rintro⟨i,C3,O3⟩ ⟨⟨i0,i1⟩,hD3,hst⟩;dsimp only at i0 i1 hD3 hst⊢;have hL:(Qf9 g x.toNat Am).1=Bf g x:=rfl
   refine⟨fun hi=>?_,fun hi=>?_⟩
   ·have hi:i<((Bf g x).length:Int):=of_decide_eq_true hi
    have hi2:i.toNat<(Bf g x).length:=zm
    have hpm:=Be (d:=(0:Int)) hi2;have hpr:=hv x hxm _ hpm
    have htk2:(Bf g x).take (i.toNat+1)=(Bf g x).take i.toNat++[(Bf g x).getD i.toNat 0]:=by
     simp_all
    have hpa:∃s∈S,Rch g s ((Bf g x).getD i.toNat 0):=by
     obtain⟨s,k1,k2⟩:=hxa;exact⟨s,k1,k2.snoc hpm⟩
    have hol3:=hD3.AfD;refine Ac.mid (fun d=>DI g S d.1 d.2 [x] F ((Bf g x).take (i.toNat+1))∧∀s∈S,s∈d.2++([x]++F)) ⟨⟨i0,hi⟩,hi2,(hR ((Bf g x).getD i.toNat 0,(C3,O3)) (by dsimp only;rw[hD3.len];exact hpr) zg).to ?_⟩ ?_
    ·rintro _ (e:List Int×List Int) he;dsimp only at he
     have hin:DI g S e.1 e.2 [x] F ((Bf g x).take i.toNat)∧(Bf g x).getD i.toNat 0∈e.2++([x]++F)∧∀s∈S,s∈e.2++([x]++F):=by
      by_cases hneg:C3.getD ((Bf g x).getD i.toNat 0).toNat 0<0
      ·rw[if_pos hneg]at he;rw[he];exact⟨hD3.reach hpr hpa hneg,zsz,fun s hs=>zg⟩
      ·rw[if_neg hneg]at he;rw[he];exact⟨hD3,(hD3.seen _ hpr).1 zm,hst⟩
     obtain⟨hD5,hp5,hst5⟩:=hin
     have hlt5:((Bf g x).getD i.toNat 0).toNat<e.1.length:=by rw[hD5.len];have:=hpr.1;have:=hpr.2;omega
     have hr5:0≤(Bf g x).getD i.toNat 0∧(Bf g x).getD i.toNat 0<(e.1.length:Int):=by rw[hD5.len];exact hpr
     have hd5:=hD5.deg _ hp5
     have hbd:Dw g F ((Bf g x).getD i.toNat 0)≤F.length:=VV fun c hc=>List.nodup_iff_count.1 (hnd c (hD5.inr c zg)) _
     have hbc:((Bf g x).take i.toNat).count ((Bf g x).getD i.toNat 0)≤((Bf g x).take i.toNat).length:=Qd1
     have hbl:((Bf g x).take i.toNat).length≤(Bf g x).length:=zg
     have hD6:=hD5.inc hp5;rw[←htk2]at hD6;have hwr:IntKind.i64.wrap (e.1.getD ((Bf g x).getD i.toNat 0).toNat 0+1)=e.1.getD ((Bf g x).getD i.toNat 0).toNat 0+1:=w64 zm zm
     grind
    ·rintro⟨C5,O5⟩ ⟨hD5,hO5⟩;dsimp only at hD5 hO5⊢;rw[w64 zm zm];exact⟨⟨⟨zm,zm⟩,by rw[show(i+1).toNat=i.toNat+1 by omega];grind,hO5⟩,zm⟩
   grind [Bf,of_decide_eq_false,Qa5]
  ·rintro⟨C2,O2⟩ ⟨hD3,hst⟩;dsimp only at hD3 hst⊢;have hD4:=hD3.done
   grind
 ·have hi:=of_decide_eq_false hi;have hOn:O=[]:=List.length_eq_zero_iff.1 zm;subst hOn;exact hD.fin zg
def AeM(P:Pg):Prop:=∀x:List Al×Int,Fn P Amm I1 x fun(d:Bool) _=>d=true↔inR x.1 x.2
theorem Aqc(h:Hq P Mi):AeM P:=by
 rintro⟨g,c⟩;refine TU h ?_;unfold Rx;show(cond (decide (c≥0)) (decide (c<(g.length:Int))) false)=true↔(0≤c∧c<(g.length:Int))
 grind
def Px(P:Pg):Prop:=∀x:List Al×List Int,Yq x.1→Gy x.1 0→x.2.length≤1000000→0<x.1.length→(∀c∈x.2,inR x.1 c)→Fn P "mergelens/walk.Order" HJ x fun(d:List Int×Int) _=>d.2=0∧AjM x.1 x.2 d.1
def Nb(P:Pg):Prop:=∀x:List (List Zt),x.length≤1000→(∀l∈x,l.length≤1000)→Fn P "slices.Concat[[][2]string,[2]string]" BZ x fun(d:List Zt) _=>d=x.flatten
theorem ZL{α:Type}{B:Nat}:∀{x:List (List α)},(∀l∈x,l.length≤B)→x.flatten.length≤x.length*B
 |[],_=>zsz
 |l::x,h=>by
  rw[List.flatten_cons,Qa7,Qa3,Nat.succ_mul];have:=h l (Qa6 ..)
  have:=ZL fun m hm=>h m (Qa2 _ hm)
  omega
theorem Uk:∀(s acc:Bs),s≠[]→(lnN acc s).flatten=acc++s
 |[],_,h=>absurd rfl h
 |b::r,acc,_=>by
  rw[lnN];split
  ·by_cases hr:r=[]
   ·grind [lnN]
   ·rw[List.flatten_cons,Uk r [] hr];simp
  ·rename_i h
   have hr:r≠[]:=fun e=>h (Or.inr e)
   rw[Uk r (acc++[b]) hr];simp
theorem AiE(s:Bs):(lnF s).flatten=s:=by
 by_cases h:s=[]
 ·subst h;rfl
 ·exact Uk s [] h
theorem Adc(k:Int):(U1 k).count 10=0:=by
 have hr:=Ew (a:=k) (n:=10) zdz zdz;unfold U1;generalize HU k 10=m at*
 have:m=0∨m=1∨m=2∨m=3∨m=4∨m=5∨m=6∨m=7∨m=8∨m=9:=zm
 rcases this with rfl|rfl|rfl|rfl|rfl|rfl|rfl|rfl|rfl|rfl<;>decide
def Wh(P:Pg):Prop:=∀x:Bs×(List Int×Int),x.1.length≤4000→(0≤x.2.2∧x.2.2≤1000000)→Fn P Aof JZ x fun(d:Bs) _=>d.length≤x.1.length+4*(x.1.count 10+1)∧d.count 10≤2*x.1.count 10+1
theorem AlS(h:Hq P M5)(hA:Qd P)(hL:Rs P)(hN:Nf P):Wh P:=by
 rintro⟨s,raw,fr⟩ hs ⟨f0,f1⟩;dsimp only at hs f0 f1;refine AcD h ?_;unfold Ws;dsimp only;refine(hN s zm).to ?_;rintro(l:List Bs) _ hl;have hl:l=lnF s:=hl
 have hlen:l.length≤s.count 10+1:=by
  grind [Abf]
 have hlen2:l.length≤s.length:=by rw[hl];exact V2 s []
 have hfl:l.flatten=s:=by grind [AiE]
 clear hl
 have hpre:∀k,k<l.length→(l.take (k+1)).flatten=(l.take k).flatten++l.getD k []:=fun k hk=>by
  grind [List.take_add_one,Qb2,List.flatten_append]
 have hle:∀k,(l.take k).flatten.length≤s.length∧(l.take k).flatten.count 10≤s.count 10:=fun k=>by
  have:l.flatten=(l.take k).flatten++(l.drop k).flatten:=by rw[←List.flatten_append,Qb6]
  grind
 rw[w64 (n:=fr+40) zm zm]
 refine Ac.mid (fun d=>d.length≤s.length+4*(s.count 10+1)∧d.count 10≤2*s.count 10+1) ?_ fun _ h=>h
 refine AJ.of (fun q=>(0≤q.2∧q.2≤l.length)∧(q.1.length:Int)≤4*q.2+((l.take q.2.toNat).flatten.length:Nat)∧(q.1.count 10:Int)≤q.2+((l.take q.2.toNat).flatten.count 10:Nat)) (fun q=>(l.length -q.2).toNat) ⟨⟨Qa0 _,Qa1 _⟩,zsz,zsz⟩ ?_;rintro⟨d,i⟩ ⟨⟨i0,i1⟩,hd,hc⟩;dsimp only at i0 i1 hd hc⊢;have hti:=hle i.toNat
 refine⟨fun hi=>?_,fun hi=>zg⟩;have hi:=of_decide_eq_true hi
 have hi2:i.toNat<l.length:=zm
 have hp:=congrArg Qa4 (hpre i.toNat hi2);have hp2:=congrArg (List.count (10:UInt8)) (hpre i.toNat hi2);rw[Qa7]at hp;rw[Qc1]at hp2;have htj:=hle (i.toNat+1)
 refine Ac.mid (fun d=>(d.length:Int)≤4*(i+1)+((l.take (i.toNat+1)).flatten.length:Nat)∧(d.count 10:Int)≤i+1+((l.take (i.toNat+1)).flatten.count 10:Nat)) ?_ fun d hd=>?_
 ·rw[w64 (n:=fr+i) zm zm,w64 (n:=fr+40+i) zm zm];refine hA.at zm ⟨zdz,?_⟩
  refine Ac.mid (fun e=>(e.length:Int)≤4*i+((l.take i.toNat).flatten.length:Nat)+4∧(e.count 10:Int)≤i+((l.take i.toNat).flatten.count 10:Nat)+1) ⟨fun _=>zm,fun _=>?_⟩ fun e he=>?_
  ·refine Ac.mid (fun e=>(e.length:Int)≤4*i+((l.take i.toNat).flatten.length:Nat)+4∧(e.count 10:Int)≤i+((l.take i.toNat).flatten.count 10:Nat)+1) ⟨fun _=>?_,fun _=>zm⟩ fun _ h=>h
   refine hA.at zm ((hL _).to ?_);rintro(ln:Bs) _ hln
   grind [U1,Uj,atF,Adc]
  grind
 ·rw[w64 zm zm,show(i+1).toNat=i.toNat+1 by omega]<;>grind
def Nk(B:Nat)(v:Bs):Prop:=v.count 10+1≤B∧v.length+4≤4*B
def Kg(B:Nat)(l:List Av):Prop:=(l.map (·.1)).Sublist Fu∧∀f∈l,Nk B f.2
theorem Kg.mono{B C:Nat}{l:List Av}(h:Kg B l)(hB:B≤C):Kg C l:=⟨h.1,fun f hf=>by have:=h.2 f hf;grind [Nk]⟩
theorem AfI:∀p∈Fu,Gq p=0:=zdz
theorem AiJ:Fu.Pairwise fun p q=>Op.bytesLess p q=true∧AaA p q=false:=zdz
theorem Rl{B:Nat}{l:List Av}(h:Kg B l):l.length≤4:=by
 have:=h.1.length_le
 grind
theorem Ajz{B:Nat}{l:List Av}(h:Kg B l)(hB:B≤1000):Ic l=0:=by
 have hl:=Rl h
 have hp:l.all (fun f=>Gq f.1==0)=true:=by
  rw[Qe6];intro f hf;rw[AfI f.1 (h.1.subset (List.mem_map.2 ⟨f,hf,rfl⟩))];rfl
 have ho:XV l=true:=by
  rw[Adw];have hpw:=AiJ.sublist h.1;rw[Qe3,Qb4]at hpw
  intro i hi k hk<;>grind
 have hc:l.all (fun f=>DC f.2==0)=true:=by
  rw[Qe6];intro f hf;have:=(h.2 f hf).2
  grind [Afa]
 grind [Ic]
theorem AiI:∀p∈Fu,p.length≤3:=zdz
theorem Amb{B:Nat}{l:List Av}(h:Kg B l)(hB:B≤1000):Gp l:=⟨by grind [Rl],fun f hf=>by
 have h1:=AiI f.1 (h.1.subset (List.mem_map.2 ⟨f,hf,rfl⟩));have h2:=(h.2 f hf).2
 omega⟩
theorem Aca(raw:List Int)(fr kinds:Int):∀k,(I7 raw fr kinds k).count 10=k
 |0=>rfl
 |k+1=>by
  rw[I7,Qc1,Qc1,Aca raw fr kinds k,Adc];rfl
theorem AmL{raw:List Int}{fr mx kinds:Int}(h0:0≤mx)(h1:mx≤100):Nk (mx.toNat+1) (RN raw fr mx kinds):=by
 have hr:=Ew (a:=atF raw fr) (n:=mx+1) zm zm;have h2:=Mx raw fr kinds (HU (atF raw fr) (mx+1)).toNat;have h3:=Aca raw fr kinds (HU (atF raw fr) (mx+1)).toNat;unfold RN Nk;split
 ·have h4:=(List.take_sublist ((I7 raw fr kinds (HU (atF raw fr) (mx+1)).toNat).length -1) (I7 raw fr kinds (HU (atF raw fr) (mx+1)).toNat)).count_le (10:UInt8);rw[Qb9];omega
 ·omega
theorem V4(p:Bs)(o:Option Bs):(((o.map fun v=>(p,v)).toList).map (·.1)).Sublist [p]:=by cases o<;>simp
theorem Acs{raw:List Int}{fr lines:Int}(h0:0≤lines)(h1:lines≤100):Kg (lines.toNat+1) (Kr raw fr lines):=by
 refine⟨?_,fun f hf=>?_⟩
 ·obtain⟨a,b,c,d,_,hl⟩:=Aes (Acu (raw:=raw) (fr:=fr) h0 h1);rw[hl,Qb5,Qb5,Qb5];exact(V4 (Fu.getD 0 []) a).append ((V4 (Fu.getD 1 []) b).append ((V4 (Fu.getD 2 []) c).append (V4 (Fu.getD 3 []) d)))
 ·unfold Kr Vl at hf;obtain⟨i,_,hi⟩:=List.mem_filterMap.1 hf;unfold Ain at hi
  split at hi<;>grind [AmL]
theorem Adi{l:List Av}{i:Nat}(h:i<l.length):(l.take (i+1)).map (·.1)=(l.take i).map (·.1)++[(l.getD i ([],[])).1]:=by
 grind [H6]
def AbX(B:Nat)(l:List Av)(i:Nat)(d:List Av):Prop:=(d.map (·.1)).Sublist ((l.take i).map (·.1))∧∀f∈d,Nk B f.2
theorem Aic{B:Nat}{l d:List Av}{i:Nat}(h:AbX B l i d)(hi:i<l.length):AbX B l (i+1) d:=⟨by rw[Adi hi];exact h.1.trans (List.sublist_append_left _ _),h.2⟩
theorem Ako{B:Nat}{l d:List Av}{i:Nat}{v:Bs}(h:AbX B l i d)(hi:i<l.length)(hv:Nk B v):AbX B l (i+1) (d++[((l.getD i ([],[])).1,v)]):=by
 refine⟨?_,fun f hf=>?_⟩
 ·rw[Adi hi,Qb5];exact h.1.append (List.Sublist.refl _)
 ·rcases List.mem_append.1 hf with hf|hf
  ·exact h.2 f hf
  grind
theorem Akp{B:Nat}{l d:List Av}{i:Nat}(h:AbX B l i d)(hl:l.length≤4):d.length≤4:=by
 have:=h.1.length_le
 grind
def Tn(P:Pg):Prop:=∀(B:Nat) (x:List Av×(List Int×(Int×Int))),Kg B x.1→x.2.2.2.toNat+1≤B→B≤900→(0≤x.2.2.1∧x.2.2.1≤90000)→(0≤x.2.2.2∧x.2.2.2≤100)→Fn P Aog HF x fun(d:List Av) _=>Kg (2*B) d
theorem Ajd(h:Hq P Js)(hA:Qd P)(hM:Ng P)(hN:Wh P)(hF:Mm P):Tn P:=by
 rintro B ⟨l,raw,fr,lines⟩ hl hB hB2 ⟨f0,f1⟩ ⟨l0,l1⟩;dsimp only at hl hB f0 f1 l0 l1;have hl4:=Rl hl;refine YU h ?_;unfold RA;dsimp only;rw[w64 (n:=fr+3) zm zm,w64 (n:=fr+5) zm zm,w64 (n:=fr+7) zm zm];refine hA.at zm (hM.at zdz zdz ?_);generalize HU (atF raw (fr+3)) 4=k
 refine Ac.mid (fun d=>AbX (2*B) l l.length d) ?_ fun d hd=>⟨fun _=>?_,fun _=>?_⟩
 ·refine AJ.of (fun q=>(0≤q.2∧q.2≤l.length)∧AbX (2*B) l q.2.toNat q.1) (fun q=>(l.length -q.2).toNat) ⟨⟨Qa0 _,Qa1 _⟩,by exact⟨zsz,fun f hf=>nomatch hf⟩⟩ ?_;rintro⟨d,i⟩ ⟨⟨i0,i1⟩,hd⟩;dsimp only at i0 i1 hd⊢;refine⟨fun hi=>?_,fun hi=>zg⟩;have hi:=of_decide_eq_true hi
  have hi2:i.toNat<l.length:=zm
  have hb:=hl.2 _ (Be (d:=([],[])) hi2);have hb0:=hb;unfold Nk at hb0;have hdl:=Akp hd hl4
  refine Ac.mid (fun d=>AbX (2*B) l (i.toNat+1) d) ⟨⟨i0,hi⟩,hi2,?_⟩ fun d hn=>?_
  ·refine Ac.mid (fun f=>f.1=(l.getD i.toNat ([],[])).1∧Nk (2*B) f.2) ⟨fun _=>?_,fun _=>⟨rfl,by grind [Nk]⟩⟩ fun f hf=>⟨zg,?_⟩
   ·refine(hN ((l.getD i.toNat ([],[])).2,(raw,fr+7)) zg ⟨zg,zg⟩).to ?_;rintro(v:Bs) _ hv;have hv:v.length≤(l.getD i.toNat ([],[])).2.length+4*((l.getD i.toNat ([],[])).2.count 10+1)∧v.count 10≤2*(l.getD i.toNat ([],[])).2.count 10+1:=hv
    have hvb:Nk (2*B) v:=by grind [Nk]
    exact hA.at zm ⟨zdz,fun _=>Aic hd hi2,fun _=>⟨rfl,hvb⟩⟩
   grind [Ako]
  grind [w64]
 ·refine(hF (raw,(fr,lines)) ⟨zg,zg⟩ ⟨l0,l1⟩).to ?_;rintro(e:List Av) _ he;have he:e=Kr raw fr lines:=he;rw[he];exact(Acs l0 l1).mono zm
 ·refine⟨?_,hd.2⟩;have:=hd.1;rw[List.take_length]at this;exact this.trans hl.1
def Mk(i:Int)(l:List Int):Prop:=l.length≤3∧l.Nodup∧∀p∈l,0≤p∧p<i
def OkC(B:Nat)(i:Nat)(c:Al):Prop:=Mk (i:Int) c.1∧(0≤c.2.1∧c.2.1<5)∧Kg (B*2^i) c.2.2
def GU(B:Nat)(g:List Al):Prop:=∀j,j<g.length→OkC B j (g.getD j ([],(0,[])))
theorem Mk.mono{i k:Int}{l:List Int}(h:Mk i l)(hk:i≤k):Mk k l:=⟨h.1,h.2.1,fun p hp=>by have:=h.2.2 p hp;omega⟩
theorem Mk.app{i:Int}{l:List Int}(h:Mk i l)(h0:0≤i)(hl:l.length<3):Mk (i+1) (l++[i]):=by
 refine⟨zg,?_,fun p hp=>?_⟩
 ·rw[List.nodup_append];refine⟨h.2.1,zsz,fun a ha b hb=>?_⟩;rw[List.mem_singleton.1 hb];have:=h.2.2 a ha;omega
 ·rcases List.mem_append.1 hp with hp|hp
  ·have:=h.2.2 p hp;omega
  grind
theorem GU.app{B:Nat}{g:List Al}{c:Al}(h:GU B g)(hc:OkC B g.length c):GU B (g++[c]):=by
 intro j hj;rw[Qa7,Qf6]at hj
 by_cases hjg:j<g.length
 ·rw[AoR hjg];exact h j hjg
 grind
theorem Aq5{B i:Nat}(hB:B≤3)(hi:i≤8):B*2^i≤768:=Nat.mul_le_mul hB (Qd5 zdz hi:2^i≤2^8)
theorem ApO{B i p:Nat}(h:p<i):2*(B*2^p)≤B*2^i:=by
 have h1:2^(p+1)≤2^i:=Qd5 zdz h
 have h2:2*(B*2^p)=B*2^(p+1):=zg
 rw[h2];exact Nat.mul_le_mul_left _ h1
theorem pow_one(B i:Nat):B≤B*2^i:=Nat.le_mul_of_pos_right _ (Nat.pow_pos zdz)
theorem AaO{a b:Bool}(h:(cond a b false)=true):a=true∧b=true:=by cases a<;>simp_all
def YJ(n:Nat)(c:Al):Al:=(c.1.map fun p=>(n:Int) -1 -p,c.2)
def AjS(g d:List Al):Prop:=d=g∨(d.length=g.length∧∀c,c<g.length→d.getD (g.length -1 -c) ([],(0,[]))=YJ g.length (g.getD c ([],(0,[]))))
theorem getD_set_ne{α:Type}{l:List α}{i j:Nat}{v d:α}(h:i≠j):(l.set i v).getD j d=l.getD j d:=by
 grind
def Tu(P:Pg):Prop:=∀x:List Al×List Int,x.1.length≤1000→(∀j,j<x.1.length→(x.1.getD j ([],(0,[]))).1.length≤1000∧∀p∈(x.1.getD j ([],(0,[]))).1,0≤p∧p<(x.1.length:Int))→Fn P Aoh HE x fun(d:List Al) _=>AjS x.1 d
theorem Ajo(h:Hq P Jr)(hA:Qd P):Tu P:=by
 rintro⟨g,raw⟩ hg hp;dsimp only at hg hp;refine YT h ?_;unfold Rz;dsimp only;refine hA.at zdz ⟨zdz,fun _=>Or.inl rfl,fun _=>⟨⟨zm,zm,zm⟩,?_⟩⟩
 refine Ac.mid (fun d=>d.length=g.length∧∀c,c<g.length→d.getD (g.length -1 -c) ([],(0,[]))=YJ g.length (g.getD c ([],(0,[])))) ?_ fun _ h=>Or.inr h
 refine AJ.of (fun q=>(0≤q.2∧q.2≤g.length)∧q.1.length=g.length∧∀c,c<q.2.toNat→q.1.getD (g.length -1 -c) ([],(0,[]))=YJ g.length (g.getD c ([],(0,[])))) (fun q=>(g.length -q.2).toNat) ⟨⟨Qa0 _,Qa1 _⟩,zsz,fun c hc=>absurd hc zsz⟩ ?_;rintro⟨d,i⟩ ⟨⟨i0,i1⟩,hdl,hd⟩;dsimp only at i0 i1 hdl hd⊢
 refine⟨fun hi=>?_,fun hi=>zg⟩;have hi:=of_decide_eq_true hi
 have hi2:i.toNat<g.length:=zm
 obtain⟨hpl,hpp⟩:=hp i.toNat hi2
 refine Ac.mid (fun d=>d.length=g.length∧∀c,c<i.toNat+1→d.getD (g.length -1 -c) ([],(0,[]))=YJ g.length (g.getD c ([],(0,[])))) ⟨⟨i0,hi⟩,hi2,?_⟩ fun d2 hn=>?_
 ·have ez:g.getD i.toNat Am=g.getD i.toNat ([],(0,[])):=rfl;rw[ez]
  refine Ac.mid (fun y=>y=YJ g.length (g.getD i.toNat ([],(0,[])))) ?_ fun y hy=>?_
  ·generalize g.getD i.toNat ([],(0,[]))=cm at hpl hpp⊢;obtain⟨l,r⟩:=cm;dsimp only at hpl hpp⊢;refine AJ.of (fun q=>(0≤q.1∧q.1≤l.length)∧q.2=((l.take q.1.toNat).map (fun p=>(g.length:Int) -1 -p),r)) (fun q=>(l.length -q.1).toNat) ⟨⟨Qa0 _,Qa1 _⟩,rfl⟩ ?_;rintro⟨k,x⟩ ⟨⟨k0,k1⟩,hx⟩;dsimp only at k0 k1 hx⊢;subst hx
   refine⟨⟨i0,hi⟩,hi2,fun hk=>?_,fun hk=>?_⟩
   ·have hk:=of_decide_eq_true hk
    have hk2:k.toNat<l.length:=zm
    have hb:=hpp _ (Be (d:=0) hk2)
    have hnx:(l.take (k.toNat+1)).map (fun p=>(g.length:Int) -1 -p)=(l.take k.toNat).map (fun p=>(g.length:Int) -1 -p)++[(g.length:Int) -1 -l.getD k.toNat 0]:=by
     grind [H6]
    have hsz:(((l.take k.toNat).map (fun p=>(g.length:Int) -1 -p)).length+([(g.length:Int) -1 -l.getD k.toNat 0]:List Int).length)*8≤140737488355328:=by
     grind
    rw[w64 (n:=(g.length:Int) -1) zm zm,w64 (n:=(g.length:Int) -1 -l.getD k.toNat 0) zm zm]
    refine Ac.mid (fun y=>y=((l.take (k.toNat+1)).map (fun p=>(g.length:Int) -1 -p),r)) ?_ fun y hy=>?_
    ·refine Ac.mid (fun y=>y=((l.take (k.toNat+1)).map (fun p=>(g.length:Int) -1 -p),r)) ?_ fun y hy=>hy<;>grind
    ·subst hy;rw[w64 zm zm];exact⟨⟨⟨zm,zm⟩,by rw[show(k+1).toNat=k.toNat+1 by omega]⟩,zm⟩
   grind [of_decide_eq_false,YJ,Qa5]
  ·rw[w64 (n:=(g.length:Int) -1) zm zm,w64 (n:=(g.length:Int) -1 -i) zm zm]
   have e:((g.length:Int) -1 -i).toNat=g.length -1 -i.toNat:=zm
   rw[e];refine⟨⟨zm,zm⟩,zm,?_,fun c hc=>?_⟩
   ·grind
   ·by_cases hci:c=i.toNat
    ·grind
    ·rw[getD_set_ne zm]<;>grind
 ·rw[w64 zm zm];exact⟨⟨⟨zm,zm⟩,hn.1,by rw[show(i+1).toNat=i.toNat+1 by omega];grind⟩,zm⟩
theorem Alu{g:List Al}(hv:YK g)(f:Int→Int)(h:∀c,inR g c→∀p∈Bf g c,f p<f c){a b:Int}(hr:Rch g a b):inR g a→f b≤f a:=by
 induction hr with
 |refl c=>grind
 |step hm t ih=>
  intro ha;have h1:=h _ ha _ hm;have h2:=ih (hv _ ha _ hm);omega
theorem ApH{g:List Al}(hv:YK g)(f:Int→Int)(h:∀c,inR g c→∀p∈Bf g c,f p<f c):¬OL g:=by
 rintro⟨c,hc,p,hp,hr⟩;have h1:=h c hc p hp;have h2:=Alu hv f h hr (hv c hc p hp);omega
theorem AnK{n:Nat}{l:List Int}(hn:l.Nodup)(h:∀p∈l,0≤p∧p<(n:Int)):AdX n l:=by
 intro j hj;refine⟨h _ (Be hj),fun hm=>?_⟩;obtain⟨i,hi⟩:=Qb8 hm;have hi2:i<(l.take j).length:=(List.getElem?_eq_some_iff.1 hi).1
 grind [Qb9,Qc8,Qb2,Qb4,Option.some.inj]
def AjL(n:Nat)(g:List Al):Prop:=g.length≤n∧Gy g 0∧Yq g∧∀c∈g,Kg 768 c.2.2∧c.1.length≤3
theorem YD:∀{g:List Al},(∀c∈g,Ic c.2.2=0)→LS g=0
 |[],_=>rfl
 |c::g,h=>by
  rw[LS,if_neg zg]
  exact YD fun x hx=>h x (Qa2 _ hx)
theorem Ahe{n:Nat}{g:List Al}(hn:g.length≤n)(hn2:n≤9)(f:Int→Int)(h:∀j,j<g.length→(g.getD j ([],(0,[]))).1.length≤3∧(g.getD j ([],(0,[]))).1.Nodup∧(∀p∈(g.getD j ([],(0,[]))).1,(0≤p∧p<(g.length:Int))∧f p<f j)∧(0≤(g.getD j ([],(0,[]))).2.1∧(g.getD j ([],(0,[]))).2.1<5)∧Kg 768 (g.getD j ([],(0,[]))).2.2):AjL n g:=by
 have hT:∀c∈g,Kg 768 c.2.2∧c.1.length≤3:=FQ (d:=([],(0,[]))) fun j hj=>⟨(h j hj).2.2.2.2,(h j hj).1⟩
 have hrel:Mc g:=FQ (d:=([],(0,[]))) (p:=fun c=>AdX g.length c.1) fun j hj=>AnK (h j hj).2.1 fun p hp=>((h j hj).2.2.1 p hp).1
 have hv:=HZ hrel;refine⟨hn,Abc ⟨zm,fun c hc=>Qd3 (hT c hc).2 zdz⟩ hrel (ApH hv f fun c hc p hp=>?_) (FQ (d:=([],(0,[]))) (p:=fun c=>0≤c.2.1∧c.2.1≤2147483647) fun j hj=>zg) (YD fun c hc=>Ajz (hT c hc).1 zdz).symm,fun c hc=>(Amb (hT c hc).1 zdz).2,hT⟩;have h0:=hc.1;have h1:=hc.2
 have:=((h c.toNat zm).2.2.1 p hp).2
 grind
def okB(B n:Nat):Prop:=(B≤3∧n≤9)∨(B≤5∧n≤8)
theorem AfT{B n i:Nat}(h:okB B n)(hi:i<n):B*2^i≤768:=by
 rcases h with⟨h1,h2⟩|⟨h1,h2⟩
 ·exact Aq5 h1 zm
 ·exact Qd3 (Nat.mul_le_mul h1 (Qd5 zdz (show i≤7 by omega):2^i≤2^7)) zdz
theorem AqX{B n:Nat}{g:List Al}(hB:okB B n)(hn:g.length≤n)(hn2:n≤9)(h:GU B g):AjL n g:=Ahe hn hn2 (fun x=>x) fun j hj=>by
 obtain⟨⟨h1,h2,h3⟩,h4,h5⟩:=h j hj;exact⟨h1,h2,fun p hp=>⟨zg,(h3 p hp).2⟩,h4,h5.mono (AfT hB zm)⟩
theorem AiL{α β:Type}{f:α→β}(hf:∀a b,f a=f b→a=b){l:List α}(h:l.Nodup):(l.map f).Nodup:=by
 grind
theorem An5{B n:Nat}{g d:List Al}(hB:okB B n)(hn:g.length≤n)(hn2:n≤9)(h:GU B g)(ht:AjS g d):AjL n d:=by
 rcases ht with rfl|⟨hl,ht⟩
 ·grind [AqX]
 ·refine Ahe zm hn2 (fun x=>-x) fun j hj=>?_
  have e:=ht (g.length -1 -j) zm;rw[show g.length -1 -(g.length -1 -j)=j by omega]at e;rw[e];obtain⟨⟨h1,h2,h3⟩,h4,h5⟩:=h (g.length -1 -j) zm;refine⟨by grind [YJ],AiL (fun a b e=>zm) h2,fun p hp=>?_,h4,h5.mono (AfT hB zm)⟩
  obtain⟨q,hq,rfl⟩:=List.mem_map.1 hp<;>grind
def Tp(P:Pg):Prop:=∀x:List Int×(Int×Int),0≤x.2.1→0≤x.2.2→okB (x.2.2.toNat+1) x.2.1.toNat→Fn P Aoi I2 x fun(d:List Al) _=>AjL x.2.1.toNat d
theorem Ajf(h:Hq P Lp)(hA:Qd P)(hM:Ng P)(hF:Mm P)(hC:Tn P)(hT:Tu P):Tp P:=by
 rintro⟨raw,n,lines⟩ n0 l0 hB;dsimp only at n0 l0 hB
 have n1:n≤9:=by rcases hB with h|h<;>omega
 have l1:lines≤4:=by rcases hB with h|h<;>omega
 refine AaW h ?_;unfold UF;dsimp only;rw[w64 (n:=n+1) zm zm];refine hA.at zdz (hM.at zm zm ?_);have hr:=Ew (a:=atF raw 0) (n:=n+1) zm zm;generalize HU (atF raw 0) (n+1)=m at hr⊢
 refine Ac.mid (fun g=>g.length=m.toNat∧GU (lines.toNat+1) g) ?_ fun g hg=>?_
 ·refine AJ.of (fun q=>(0≤q.2∧q.2≤m)∧q.1.length=q.2.toNat∧GU (lines.toNat+1) q.1) (fun q=>(m -q.2).toNat) ⟨⟨Qa0 _,hr.1⟩,rfl,fun j hj=>absurd hj zsz⟩ ?_;rintro⟨g,i⟩ ⟨⟨i0,i1⟩,hgl,hg⟩;dsimp only at i0 i1 hgl hg⊢;refine⟨fun hi=>?_,fun hi=>zg⟩;have hi:=of_decide_eq_true hi
  refine Ac.mid (fun g=>g.length=i.toNat+1∧GU (lines.toNat+1) g) ?_ fun g2 hn=>?_
  ·rw[w64 (n:=1000+i) zm zm,w64 (n:=40*i) zm zm,w64 (n:=1100+40*i) zm zm,w64 (n:=1500+i) zm zm,w64 (n:=200*i) zm zm,w64 (n:=2000+200*i) zm zm,w64 (n:=1600+i) zm zm,w64 (n:=i -1) zm zm]
   refine hA.at zm (hM.at zdz zdz ?_);have hdr:=Ew (a:=atF raw (1000+i)) (n:=5) zdz zdz;generalize HU (atF raw (1000+i)) 5=dt at hdr⊢
   refine Ac.mid (fun x=>Mk i x.1∧x.2=(dt,[])) ?_ fun x hx=>?_
   ·refine AJ.of (fun q=>(0≤q.1∧q.1≤i)∧Mk q.1 q.2.1∧q.2.2=(dt,[])) (fun q=>(i -q.1).toNat) ⟨⟨Qa0 _,i0⟩,⟨Qd9 _,List.nodup_nil,fun p hp=>nomatch hp⟩,rfl⟩ ?_;rintro⟨p,⟨l,r⟩⟩ ⟨⟨p0,p1⟩,hl,hrr⟩;dsimp only at p0 p1 hl hrr⊢;refine⟨fun hp=>?_,fun hp=>zg⟩;have hp:=of_decide_eq_true hp
    refine Ac.mid (fun x=>Mk (p+1) x.1∧x.2=(dt,[])) ?_ fun x hx=>?_
    ·rw[w64 (n:=1100+40*i+p) zm zm];refine hA.at zm ⟨zdz,?_⟩
     refine Ac.mid (fun x=>Mk (p+1) x.1∧x.2=(dt,[])) ⟨fun hb=>?_,fun _=>⟨hl.mono zm,hrr⟩⟩ fun _ h=>h
     have hb2:=of_decide_eq_true (AaO hb).2;exact⟨zg,hl.app p0 zm,hrr⟩
    grind [w64]
   ·refine Ac.mid (fun _=>True) ⟨fun _=>hA.at zm trivial,fun _=>trivial,trivial⟩ fun d27 _=>⟨fun _=>zdz,?_⟩
    refine Ac.mid (fun y=>Mk i y.1∧y.2=(dt,[])) ⟨fun hb=>?_,fun _=>hx⟩ fun y hy=>?_
    ·have hi0:=of_decide_eq_true (AaO (AaO hb).1).2;exact⟨⟨Nat.succ_le_succ (Qd9 _),zsz,fun p hp=>zg⟩,hx.2⟩
    ·obtain⟨hy1,hy2⟩:=hy;refine(hF (raw,(2000+200*i,lines)) ⟨zg,zg⟩ ⟨l0,zg⟩).to ?_;rintro(fl:List Av) _ hfl;have hfl:fl=Kr raw (2000+200*i) lines:=hfl
     have hfs:Kg (lines.toNat+1) fl:=by grind [Acs]
     refine Ac.mid (fun _=>True) ⟨fun _=>hA.at zm trivial,fun _=>trivial,trivial⟩ fun d34 _=>⟨fun _=>zdz,?_⟩
     have hii:((i.toNat:Nat):Int)=i:=zm
     have hy1':Mk ((i.toNat:Nat):Int) y.1:=zg
     have hdt:0≤y.2.1∧y.2.1<5:=zg
     refine Ac.mid (fun z=>OkC (lines.toNat+1) i.toNat z) ⟨fun hb=>?_,fun _=>?_⟩ fun z hz=>⟨zg,?_,hg.app zg⟩
     ·have hpos:=of_decide_eq_true (AaO hb).1
      have hpos2:0<y.1.length:=zm
      have hp:=hy1.2.2 _ (Be (d:=0) hpos2);refine⟨⟨zdz,zm⟩,hpos2,⟨hp.1,zg⟩,zg,?_⟩
      have hpn:(y.1.getD 0 0).toNat<i.toNat:=zm
      have hog:=hg (y.1.getD 0 0).toNat zm;have hpb:=AfT (i:=(y.1.getD 0 0).toNat) hB zm;have hpo:=pow_one (lines.toNat+1) (y.1.getD 0 0).toNat;have hup:=ApO (B:=lines.toNat+1) hpn
      refine(hC ((lines.toNat+1)*2^(y.1.getD 0 0).toNat) ((g.getD (y.1.getD 0 0).toNat ([],(0,[]))).2.2,(raw,(2000+200*i,lines))) hog.2.2 hpo zm ⟨zg,zg⟩ ⟨l0,zg⟩).to ?_;rintro(fl2:List Av) _ hfl2;exact⟨hy1',hdt,Kg.mono hfl2 hup⟩
     ·exact⟨hy1',hdt,hfs.mono (pow_one _ _)⟩
     grind
  grind [w64]
 ·refine(hT (g,raw) zg fun j hj=>?_).to ?_
  ·have:=(hg.2 j hj).1;exact⟨Qd3 this.1 zdz,fun p hp=>by have h3:=this.2.2 p hp;grind⟩
  ·rintro(d:List Al) _ hd
   grind [An5]
def Mn(P:Pg):Prop:=Fn P AgM EU () fun(d:Bool) _=>d=true
theorem Mn.at(h:Mn P){K:Bool→Unit→Prop}(hk:K true ()):Fn P AgM EU () K:=
 Fn.to h fun(d:Bool) _ hd=>by
  have hd:d=true:=hd;subst hd;exact hk
section
variable{α β:Type}[DecidableEq α][DecidableEq β]
def EK:List α→List α→Nat
 |[],b=>b.length
 |x::a,[]=>a.length+1
 |x::a,y::b=>if x=y then EK a b else 1+min (EK a (y::b)) (EK (x::a) b)
termination_by a b=>a.length+b.length
theorem LK(b:List α):EK [] b=b.length:=by cases b<;>simp[EK]
theorem OM(a:List α):EK a []=a.length:=by cases a<;>simp[EK]
theorem WL{x y:α}(h:x=y)(a b:List α):EK (x::a) (y::b)=EK a b:=by rw[EK,if_pos h]
theorem WM{x y:α}(h:x≠y)(a b:List α):EK (x::a) (y::b)=1+min (EK a (y::b)) (EK (x::a) b):=by grind [EK]
theorem Akv:∀(n:Nat) (a b:List α),a.length+b.length≤n→EK a b≤a.length+b.length:=by
 intro n
 induction n with
 |zero=>
  simp_all [LK]
 |succ n ih=>
  intro a b h
  cases a with
  |nil=>simp[LK]
  |cons x a=>
   cases b with
   |nil=>simp[OM]
   |cons y b=>
    simp only[Qa3]at h⊢
    by_cases e:x=y<;>grind [WL,WM]
def Dk:List α→List α→Int→Int→List (Int×Int)
 |[],_,_,_=>[]
 |x::a,[],i,j=>Dk a [] (i+1) j
 |x::a,y::b,i,j=>if x=y then(i,j)::Dk a b (i+1) (j+1)else if EK a (y::b)+1=EK (x::a) (y::b)then Dk a (y::b) (i+1) j else Dk (x::a) b i (j+1)
termination_by a b=>a.length+b.length
theorem G1(b:List α)(i j:Int):Dk [] b i j=[]:=by cases b<;>simp[Dk]
theorem Lb:∀(a:List α) (i j:Int),Dk a [] i j=[]
 |[],_,_=>by simp[Dk]
 |x::a,i,j=>by rw[Dk,Lb a]
theorem UB{x y:α}(h:x=y)(a b:List α)(i j:Int):Dk (x::a) (y::b) i j=(i,j)::Dk a b (i+1) (j+1):=by grind [Dk]
theorem Pq{x y:α}(h:x≠y){a b:List α}(hd:EK a (y::b)+1=EK (x::a) (y::b))(i j:Int):Dk (x::a) (y::b) i j=Dk a (y::b) (i+1) j:=by grind [Dk]
theorem M0{x y:α}(h:x≠y){a b:List α}(hd:¬EK a (y::b)+1=EK (x::a) (y::b))(i j:Int):Dk (x::a) (y::b) i j=Dk (x::a) b i (j+1):=by grind [Dk]
theorem Aoa:∀(n:Nat) (a b:List α) (i j:Int),a.length+b.length≤n→EK a b+2*(Dk a b i j).length=a.length+b.length:=by
 intro n
 induction n with
 |zero=>
  simp_all [LK,G1]
 |succ n ih=>
  intro a b i j h
  cases a with
  |nil=>simp[LK,G1]
  |cons x a=>
   cases b with
   |nil=>simp[OM,Lb]
   |cons y b=>
    grind [WL,UB,WM,EK,Pq,M0]
def Vk(lo:Int×Int)(m n:Int):List (Int×Int)→Prop
 |[]=>True
 |s::r=>(lo.1≤s.1∧lo.2≤s.2∧s.1<m∧s.2<n)∧Vk (s.1+1,s.2+1) m n r
theorem AhZ:∀{p:List (Int×Int)} {lo lo':Int×Int} {m n:Int},Vk lo m n p→lo'.1≤lo.1→lo'.2≤lo.2→Vk lo' m n p
 |[],_,_,_,_,_,_,_=>trivial
 |s::r,lo,lo',m,n,h,h1,h2=>⟨⟨by have:=h.1.1;omega,by have:=h.1.2.1;omega,h.1.2.2.1,h.1.2.2.2⟩,h.2⟩
theorem V9:∀(n:Nat) (a b:List α) (i j:Int),a.length+b.length≤n→Vk (i,j) (i+a.length) (j+b.length) (Dk a b i j):=by
 intro n
 induction n with
 |zero=>
  intro a b i j h;have ha:a=[]:=List.length_eq_zero_iff.1 zm;rw[ha,G1];trivial
 |succ n ih=>
  intro a b i j h
  cases a with
  |nil=>rw[G1];trivial
  |cons x a=>
   cases b with
   |nil=>rw[Lb];trivial
   |cons y b=>
    simp only[Qa3]at h
    by_cases e:x=y
    ·rw[UB e];have:=ih a b (i+1) (j+1) zm
     refine⟨⟨Qa0 _,Qa0 _,?_,?_⟩,?_⟩<;>grind
    grind [EK,Pq,AhZ,M0]
theorem AaP(f:α→β):∀(n:Nat) (a b:List α),a.length+b.length≤n→(∀x∈a,∀y∈b,f x=f y→x=y)→EK (a.map f) (b.map f)=EK a b:=by
 intro n
 induction n with
 |zero=>
  simp_all [LK]
 |succ n ih=>
  intro a b h hf
  cases a with
  |nil=>grind [LK]
  |cons x a=>
   cases b with
   |nil=>grind [OM]
   |cons y b=>
    simp only[Qa3]at h
    have i1:=ih a b zm fun u hu v hv=>hf u (Qa2 _ hu) v (Qa2 _ hv)
    have i2:=ih a (y::b) zg fun u hu v hv=>hf u (Qa2 _ hu) v hv
    have i3:=ih (x::a) b zg fun u hu v hv=>hf u hu v (Qa2 _ hv)
    rw[Qe1]at i2 i3;rw[Qe1,Qe1]
    by_cases e:x=y<;>grind [WL,WM]
theorem AhU(f:α→β):∀(n:Nat) (a b:List α) (i j:Int),a.length+b.length≤n→(∀x∈a,∀y∈b,f x=f y→x=y)→Dk (a.map f) (b.map f) i j=Dk a b i j:=by
 intro n
 induction n with
 |zero=>
  simp_all [G1]
 |succ n ih=>
  intro a b i j h hf
  cases a with
  |nil=>grind [G1]
  |cons x a=>
   cases b with
   |nil=>grind [Lb]
   |cons y b=>
    simp only[Qa3]at h
    have q1:=fun u (hu:u∈a) v (hv:v∈b)=>hf u (Qa2 _ hu) v (Qa2 _ hv)
    have q2:=fun u (hu:u∈a) v (hv:v∈y::b)=>hf u (Qa2 _ hu) v hv
    have q3:=fun u (hu:u∈x::a) v (hv:v∈b)=>hf u hu v (Qa2 _ hv)
    have i1:=ih a b (i+1) (j+1) zm q1;have i2:=ih a (y::b) (i+1) j zg q2;have i3:=ih (x::a) b i (j+1) zg q3;have d2:=AaP f _ a (y::b) (Qb1 _) q2;have d0:=AaP f _ (x::a) (y::b) (Qb1 _) hf
    grind [UB,EK,Pq,M0]
end
abbrev AR:=Int×(Int×(Int×Int))
def N7(old now:Int)(s:Int×Int):List AR:=if old<s.1∨now<s.2 then[(old,(s.1 -old,(now,s.2 -now)))]else[]
def D7(m n:Int):List (Int×Int)→Int→Int→List AR
 |[],old,now=>N7 old now (m,n)
 |s::r,old,now=>N7 old now s++D7 m n r (s.1+1) (s.2+1)
def Hn(l:List AR):Int:=(l.map fun c=>c.2.1).sum
def Gx(l:List AR):Int:=(l.map fun c=>c.2.2.2).sum
theorem Ahc{old now:Int}{s:Int×Int}(h1:old≤s.1)(h2:now≤s.2):Hn (N7 old now s)=s.1 -old∧Gx (N7 old now s)=s.2 -now∧∀c∈N7 old now s,(0≤c.2.1∧c.2.1≤s.1 -old)∧(0≤c.2.2.2∧c.2.2.2≤s.2 -now):=by
 unfold N7
 grind [Hn,Gx]
theorem Adh{m n:Int}:∀{p:List (Int×Int)} {old now:Int},Vk (old,now) m n p→old≤m→now≤n→
  Hn (D7 m n p old now)=m -old -p.length∧Gx (D7 m n p old now)=n -now -p.length∧∀c∈D7 m n p old now,(0≤c.2.1∧c.2.1≤m -old)∧(0≤c.2.2.2∧c.2.2.2≤n -now)
 |[],old,now,_,h1,h2=>by
  grind [Ahc,D7]
 |s::r,old,now,h,h1,h2=>by
  obtain⟨⟨k1,k2,k3,k4⟩,hr⟩:=h;dsimp only at k1 k2;obtain⟨q1,q2,q3⟩:=Ahc (s:=s) k1 k2;obtain⟨r1,r2,r3⟩:=Adh (p:=r) (old:=s.1+1) (now:=s.2+1) hr zm zm;refine⟨?_,?_,fun c hc=>?_⟩
  ·unfold D7 Hn;rw[Qb5,List.sum_append];have e1:(List.map (fun c:AR=>c.2.1) (N7 old now s)).sum=s.1 -old:=q1;have e2:(List.map (fun c:AR=>c.2.1) (D7 m n r (s.1+1) (s.2+1))).sum=m -(s.1+1) -r.length:=r1
   grind
  ·unfold D7 Gx;rw[Qb5,List.sum_append];have e1:(List.map (fun c:AR=>c.2.2.2) (N7 old now s)).sum=s.2 -now:=q2;have e2:(List.map (fun c:AR=>c.2.2.2) (D7 m n r (s.1+1) (s.2+1))).sum=n -(s.2+1) -r.length:=r2
   grind
  grind [D7]
end Go.VS
namespace Go.VS
variable{P:Pg}
theorem Abi:∀(s acc t:Bs),t∈lnN acc s→t.length≤acc.length+s.length
 |[],acc,t,h=>by trivial
 |b::r,acc,t,h=>by
  rw[lnN]at h;split at h
  ·rcases List.mem_cons.1 h with rfl|h
   ·grind
   ·have:=Abi r [] t h
    grind
  ·have:=Abi r (acc++[b]) t h
   grind
theorem Abg{s t:Bs}(h:t∈lnF s):t.length≤s.length:=by
 have:=Abi s [] t h
 grind
theorem corf{p q:Prop}[Decidable p][Decidable q]:cond (decide p) true (decide q)=false↔¬p∧¬q:=by
 grind
def AcA(n:Int):Bs:=if n<0∨n>2147483647 then[]else Lib.decDigits n.toNat
theorem Ag3:∀k u:Nat,u<10^(k+1)→(Lib.decDigits u).length≤k+1
 |0,u,h=>by
  grind [Lib.decDigits]
 |k+1,u,h=>by
  rw[Lib.decDigits];split
  ·simp
  ·have h2:u/10<10^(k+1):=by
    grind
   have:=Ag3 k (u/10) h2
   grind
theorem VZ(n:Int):(AcA n).length≤10:=by
 unfold AcA;split
 ·simp
 ·exact Ag3 9 n.toNat zm
def Aay(P:Pg):Prop:=∀n:Int,0≤n→n≤2147483647→Fn P "strconv.Itoa" Kd n fun(d:Bs) _=>d=Lib.decDigits n.toNat
def To(P:Pg):Prop:=∀x:Int,Fn P AgN Cm x fun(d:Bs) _=>d=AcA x
theorem Aje(h:Hq P IJ)(hI:Aay P):To P:=by
 intro x;refine Xb h ?_;unfold Qj AcA;dsimp only;refine⟨fun hc=>?_,fun hc=>?_⟩
 ·grind
 ·have:=corf.1 hc;rw[if_neg zm];exact hI x zm zm
def frF(x:Int×Int):Bs:=if x.1<0∨x.2<0∨x.1>2147483647∨x.2>2147483647 -x.1 then[]else if x.2=0 then AcA x.1++[44,48]else if x.2=1 then AcA (x.1+1)else AcA (x.1+1)++[44]++AcA x.2
theorem AkL(x:Int×Int):(frF x).length≤21:=by
 grind [VZ,frF]
theorem AqT{a b:Int}:(cond (cond (cond (decide (a<0)) true (decide (b<0))) true (decide (a>2147483647))) true (decide (b>IntKind.i64.wrap (2147483647 -a))))=decide (a<0∨b<0∨a>2147483647∨b>2147483647 -a):=by
 grind [w64]
def Ke(P:Pg):Prop:=∀x:Int×Int,Fn P zS3 Bk x fun(d:Bs) _=>d=frF x
theorem Yn(h:Hq P ER)(hF:To P):Ke P:=by
 rintro⟨a,b⟩;refine P1 h ?_;unfold Kh frF;dsimp only;rw[AqT];refine⟨fun hc=>?_,fun hc=>?_⟩
 ·grind
 have hc:=of_decide_eq_false hc;rw[if_neg hc];refine Ac.of ⟨fun h0=>?_,fun h0=>⟨fun h1=>?_,fun h1=>?_⟩⟩
 ·refine(hF a).to ?_;rintro(d:Bs) _ rfl
  grind [VZ]
 ·have h0:¬b=0:=by grind
  rw[w64 zm zm]
  refine(hF (a+1)).to ?_<;>grind
 ·have h0:¬b=0:=by grind
  have h1:¬b=1:=zg
  rw[w64 zm zm];refine(hF (a+1)).to ?_;rintro(d:Bs) _ rfl;have l1:=VZ (a+1);refine⟨zg,?_⟩;refine(hF b).to ?_;rintro(d:Bs) _ rfl
  grind [VZ]
def Oq(P:Pg):Prop:=∀x:List Int×List Int,x.1.length≤4096→x.2.length≤4096→Fn P AqB E7 x fun(d:List (Int×Int)) _=>d=Dk x.1 x.2 0 0
def Rt(P:Pg):Prop:=∀x:List (Int×Int)×(Int×Int),x.1.length≤4096→(0≤x.2.1∧x.2.1≤4096)→(0≤x.2.2∧x.2.2≤4096)→Vk (0,0) x.2.1 x.2.2 x.1→Fn P AqA DY x fun(d:List AR) _=>d=D7 x.2.1 x.2.2 x.1 0 0
def Am0(x:List (List Bs))(f:Bs→Int):Prop:=∀u,u∈x.flatten→∀v,v∈x.flatten→f u=f v→u=v
def QD(P:Pg):Prop:=∀x:List (List Bs),x.length≤4096→(∀l∈x,l.length≤4096∧∀s∈l,s.length≤1048576)→Fn P Aol Ek x fun(d:List (List Int)×List Bs) _=>∃f,Am0 x f∧d.1=x.map fun l=>l.map f
def LB(P:Pg):Prop:=∀x:List (List Bs),x.length≤4096→(∀l∈x,l.length≤4096∧∀s∈l,s.length≤1048576)→Fn P Aol Ek x fun(d:List (List Int)×List Bs) _=>∃f,Am0 x f∧(d.1=x.map fun l=>l.map f)∧d.2.length≤x.flatten.length∧∀s∈x.flatten,0≤f s∧d.2[(f s).toNat]?=some s
def Aaw(P:Pg):Prop:=∀x:List (List Bs),x.length≤4096→(∀l∈x,l.length≤4096∧∀s∈l,s.length≤1048576)→Fn P Amj DJ x fun(d:List (List Int)) _=>∃f,Am0 x f∧d=x.map fun l=>l.map f
theorem Aqf(h:Hq P FZ)(hN:QD P):Aaw P:=by
 intro x h1 h2;refine YW h ?_;unfold RC
 refine(hN x h1 h2).to ?_<;>grind
def Rv(P:Pg):Prop:=∀n:Int,Fn P zS1 AF n fun(d:Bool) _=>d=true↔(0≤n∧n≤4096)
theorem An0(h:Hq P Ej):Rv P:=by
 intro n<;>grind [TY,NT]
def QB(P:Pg):Prop:=∀n:Int,(0≤n∧n≤4096)→Fn P Amp CX n fun(d:Int) _=>d=n
theorem Agn(h:Hq P F0)(hL:Rv P):QB P:=by
 intro n hn;refine RZ h ?_;unfold Mq
 refine(hL n).to ?_<;>grind
theorem Aep{α:Type}{l:List α}{k:Nat}{d:α}(h:k<l.length):l.take (k+1)=l.take k++[l.getD k d]:=by
 simp_all
theorem Ael{f:AR→Int}{l:List AR}{k:Nat}{d:AR}(h:k<l.length):((l.take (k+1)).map f).sum=((l.take k).map f).sum+f (l.getD k d):=by
 grind [Aep]
theorem AgC{f:AR→Int}{B:Int}:∀{l:List AR},(∀c∈l,0≤f c∧f c≤B)→0≤(l.map f).sum∧(l.map f).sum≤B*(l.length:Int)
 |[],_=>zsz
 |c::l,h=>by
  have h1:=h c (Qa6 ..)
  have h2:=AgC (l:=l) fun x hx=>h x (Qa2 _ hx)
  rw[Qe1,List.sum_cons,Qa3]<;>grind
def Aaz(P:Pg):Prop:=∀l:List AR,l.length≤1000000→(∀c∈l,(0≤c.2.1∧c.2.1≤4096)∧(0≤c.2.2.2∧c.2.2.2≤4096))→Fn P Aos GD l fun(d:Int×Int) _=>d=(Hn l,Gx l)
theorem An1(h:Hq P IL)(hC:QB P):Aaz P:=by
 intro l hl hb;refine Xd h ?_;unfold Ql
 refine Ac.mid (fun d=>d=(Hn l,Gx l)) ?_ fun d hd=>hd
 refine AJ.of (fun q=>(0≤q.2.2∧q.2.2≤l.length)∧q.1=Hn (l.take q.2.2.toNat)∧q.2.1=Gx (l.take q.2.2.toNat)) (fun q=>(l.length -q.2.2).toNat) ⟨⟨Qa0 _,Qa1 _⟩,rfl,rfl⟩ ?_;rintro⟨u,v,i⟩ ⟨⟨i0,i1⟩,hu,hv⟩;dsimp only at i0 i1 hu hv⊢;refine⟨fun hi=>?_,fun hi=>?_⟩
 ·have hi:=of_decide_eq_true hi
  have hi2:i.toNat<l.length:=zm
  have hc:=hb _ (Be (d:=((0:Int),((0:Int),((0:Int),(0:Int))))) hi2);have ho:=Ael (f:=fun c:AR=>c.2.1) (d:=((0:Int),((0:Int),((0:Int),(0:Int))))) hi2;have hn:=Ael (f:=fun c:AR=>c.2.2.2) (d:=((0:Int),((0:Int),((0:Int),(0:Int))))) hi2
  have bo:=AgC (f:=fun c:AR=>c.2.1) (B:=4096) (l:=l.take i.toNat) fun c hc=>(hb c (Qd6 hc)).1
  have bn:=AgC (f:=fun c:AR=>c.2.2.2) (B:=4096) (l:=l.take i.toNat) fun c hc=>(hb c (Qd6 hc)).2
  have ltk:(l.take i.toNat).length=i.toNat:=zg
  rw[ltk]at bo bn;have hu2:u=((l.take i.toNat).map fun c:AR=>c.2.1).sum:=hu;have hv2:v=((l.take i.toNat).map fun c:AR=>c.2.2.2).sum:=hv;rw[←hu2]at ho bo;rw[←hv2]at hn bn
  refine Ac.mid (fun d=>d=(Hn (l.take (i.toNat+1)),Gx (l.take (i.toNat+1)))) ⟨⟨i0,hi⟩,hi2,(hC _ hc.1).to ?_⟩ fun d hd=>by
   grind [w64]
  rintro(d:Int) _ hd;refine(hC _ hc.2).to ?_;rintro(e:Int) _ he;rw[hd,he,w64 zm zm,w64 zm zm];exact Prod.ext ho.symm hn.symm
 grind [of_decide_eq_false,Qa5,Prod.ext]
theorem VP:∀{p:List (Int×Int)} {lo:Int×Int} {m n:Int},Vk lo m n p→lo.1≤m→lo.2≤n→(p.length:Int)≤m -lo.1∧(p.length:Int)≤n -lo.2
 |[],_,_,_,_,h1,h2=>zg
 |s::r,lo,m,n,h,h1,h2=>by
  obtain⟨⟨k1,k2,k3,k4⟩,hr⟩:=h
  obtain⟨q1,q2⟩:=VP (p:=r) (lo:=(s.1+1,s.2+1)) hr (by dsimp only;omega) (by dsimp only;omega)<;>grind
def Nd(P:Pg):Prop:=∀x:List (Int×Int)×(Int×Int),x.1.length≤4096→(0≤x.2.1∧x.2.1≤4096)→(0≤x.2.2∧x.2.2≤4096)→Vk (0,0) x.2.1 x.2.2 x.1→Fn P Aom CW x fun(d:List AR×Int) _=>d=(D7 x.2.1 x.2.2 x.1 0 0,0)
theorem AbL(h:Hq P CS)(hL:Rv P)(hM:Rt P):Nd P:=by
 rintro⟨p,m,n⟩ hp hm hn ha;dsimp only at hp hm hn ha;refine P2 h ?_;unfold Ki;dsimp only;refine(hL m).to ?_;rintro(d:Bool) _ hd;have hd:d=true:=hd.2 hm;subst hd;refine Ac.mid (fun d=>d=true) ⟨fun _=>(hL n).to fun(d:Bool) _ hd=>hd.2 hn,fun hb=>absurd hb zdz,trivial⟩ ?_;rintro d rfl;refine⟨fun hb=>absurd hb zdz,fun _=>?_⟩
 refine Ac.mid (fun _=>True) ?_ fun _ _=>(hM (p,(m,n)) hp hm hn ha).to fun(d:List AR) _ hd=>(by
  grind)
 refine AJ.of (fun q=>(0≤q.2.2.1∧q.2.2.1≤p.length)∧Vk (q.2.2.2.1+1,q.2.2.2.2+1) m n (p.drop q.2.2.1.toNat)) (fun q=>(p.length -q.2.2.1).toNat) ⟨⟨Qa0 _,Qa1 _⟩,zg⟩ ?_;rintro⟨o,u,i,s1,s2⟩ ⟨⟨i0,i1⟩,hs⟩;dsimp only at i0 i1 hs⊢;refine⟨fun hi=>?_,fun hi=>trivial⟩;have hi:=of_decide_eq_true hi
 have hi2:i.toNat<p.length:=zm
 have hdr:p.drop i.toNat=p.getD i.toNat (0,0)::p.drop (i.toNat+1):=by simp_all
 rw[hdr]at hs;obtain⟨⟨k1,k2,k3,k4⟩,hr⟩:=hs;dsimp only at k1 k2;generalize p.getD i.toNat (0,0)=t at k1 k2 k3 k4 hr⊢
 have e:cond (cond (cond (decide (t.1≤s1)) true (decide (t.1≥m))) true (decide (t.2≤s2))) true (decide (t.2≥n))=false:=by
  grind
 rw[e]
 refine Ac.mid (fun q=>q.2.2=t) ⟨⟨i0,hi⟩,hi2,fun hb=>absurd hb zdz,fun _=>rfl⟩ ?_<;>grind [w64]
def Pu(P:Pg):Prop:=∀x:List Int×List Int,x.1.length≤4096→x.2.length≤4096→Fn P Amk B6 x fun(d:List AR×Int) _=>d=(D7 x.1.length x.2.length (Dk x.1 x.2 0 0) 0 0,0)
theorem Ajj(h:Hq P Dn)(hL:Hq P CT)(hW:Oq P)(hF:Nd P):Pu P:=by
 rintro⟨a,b⟩ ha hb;dsimp only at ha hb;refine QU h ?_;unfold LD;refine P3 hL ?_;unfold Kj;dsimp only;rw[decide_eq_true (show((a.length:Nat):Int)≤4096 by omega),decide_eq_true (show((b.length:Nat):Int)≤4096 by omega)];refine⟨fun hb=>absurd hb zdz,fun _=>?_⟩;refine(hW (a,b) ha hb).to ?_;rintro(d:List (Int×Int)) _ hd;have hd:d=Dk a b 0 0:=hd
 subst hd;have hasc:=V9 _ a b 0 0 (Qb1 _);rw[Qc0,Qc0]at hasc;have hle:=VP hasc (Qa1 _) (Qa1 _)
 refine(hF (Dk a b 0 0,(((a.length:Nat):Int),((b.length:Nat):Int))) (by have:=hle.1;dsimp only at this⊢;omega) ⟨Qa1 _,by dsimp only;omega⟩ ⟨Qa1 _,by dsimp only;omega⟩ hasc).to ?_<;>grind
def Gw(a b:Bs):List AR:=D7 ((lnF a).length:Nat) ((lnF b).length:Nat) (Dk (lnF a) (lnF b) 0 0) 0 0
theorem TJ{a:Bs}(h:DC a=0):(lnF a).length≤4096∧∀s∈lnF a,s.length≤1048576:=by
 unfold DC at h;split at h
 ·cases h
 ·rename_i k;refine⟨zm,fun s hs=>?_⟩;have:=Abg hs;omega
def Ol(P:Pg):Prop:=∀x:Bs×Bs,x.1.length≤140737488351232→x.2.length≤140737488351232→Fn P Amo DO x fun(d:List AR×Int) _=>d=if DC x.1=0∧DC x.2=0 then(Gw x.1 x.2,0)else([],1)
theorem AlL(h:Hq P F5)(hT:JL P)(hI:Aaw P)(hS:Pu P):Ol P:=by
 rintro⟨a,b⟩ ha hb;dsimp only at ha hb;refine R7 h ?_;unfold Ms;dsimp only;refine(hT a ha).to ?_;rintro(d:List Bs×Int) _ hd
 have hd:d=if DC a=0 then(lnF a,0)else([],1):=hd
 by_cases h1:DC a=0
 ·rw[if_pos h1]at hd;subst hd;refine⟨fun hb=>absurd hb zsz,fun _=>?_⟩;refine(hT b hb).to ?_;rintro(d:List Bs×Int) _ hd
  have hd:d=if DC b=0 then(lnF b,0)else([],1):=hd
  by_cases h2:DC b=0
  ·rw[if_pos h2]at hd;subst hd;rw[if_pos ⟨h1,h2⟩];refine⟨fun hb=>absurd hb zsz,fun _=>?_⟩;obtain⟨la,sa⟩:=TJ h1;obtain⟨lb,sb⟩:=TJ h2;refine(hI [lnF a,lnF b] zsz fun l hl=>?_).to ?_
   ·grind
   rintro(d:List (List Int)) _ ⟨f,hf,hd⟩;have hd:d=[(lnF a).map f,(lnF b).map f]:=hd;subst hd
   have hmap:Dk ((lnF a).map f) ((lnF b).map f) 0 0=Dk (lnF a) (lnF b) 0 0:=AhU f _ _ _ 0 0 (Qb1 _) fun u hu v hv e=>hf u zg v zg e
   refine Ac.mid (fun d=>d=(Gw a b,0)) ⟨zsz,zsz,zsz,zsz,⟨zsz,zsz,(hS ((lnF a).map f,(lnF b).map f) zg zg).to ?_⟩,trivial⟩ fun d hd=>hd
   simp_all [AR,Gw]
  grind
 grind
def Abu(a b:Bs):Nat:=(Dk (lnF a) (lnF b) 0 0).length
def YO(a b:Bs):Int×(Int×Int):=if DC a=0∧DC b=0 then(((lnF b).length:Int) -(Abu a b:Int),(((lnF a).length:Int) -(Abu a b:Int),0))else(0,(0,1))
theorem V6{a b:Bs}(ha:DC a=0)(hb:DC b=0):Hn (Gw a b)=((lnF a).length:Int) -(Abu a b:Int)∧Gx (Gw a b)=((lnF b).length:Int) -(Abu a b:Int)∧(∀c∈Gw a b,(0≤c.2.1∧c.2.1≤4096)∧(0≤c.2.2.2∧c.2.2.2≤4096))∧((Abu a b:Int)≤(lnF a).length∧(Abu a b:Int)≤(lnF b).length):=by
 have hasc:=V9 _ (lnF a) (lnF b) 0 0 (Qb1 _);rw[Qc0,Qc0]at hasc;have hle:=VP hasc (Qa1 _) (Qa1 _)
 grind [Adh,TJ,Hn,Gw,Abu]
theorem XI:∀{m n:Int} (p:List (Int×Int)) (o w:Int),(D7 m n p o w).length≤p.length+1
 |m,n,[],o,w=>by grind [D7,N7]
 |m,n,s::r,o,w=>by
  unfold D7;have:=XI (m:=m) (n:=n) r (s.1+1) (s.2+1)
  grind [N7]
theorem AnT{a b:Bs}(ha:DC a=0)(hb:DC b=0):(Gw a b).length≤1000000:=by
 grind [XI,lnF,Dk,V6,TJ,Abu,Gw]
def Oo(P:Pg):Prop:=∀x:Bs×Bs,x.1.length≤140737488351232→x.2.length≤140737488351232→Fn P Amq Ga x fun(d:Int×(Int×Int)) _=>d=YO x.1 x.2
theorem AlN(h:Hq P Ju)(hB:Ol P)(hS:Aaz P):Oo P:=by
 rintro⟨a,b⟩ ha hb;dsimp only at ha hb;refine YX h ?_;unfold RD;dsimp only;refine(hB (a,b) ha hb).to ?_;rintro(d:List AR×Int) _ hd
 have hd:d=if DC a=0∧DC b=0 then(Gw a b,0)else([],1):=hd
 unfold YO
 by_cases h1:DC a=0∧DC b=0
 ·rw[if_pos h1]at hd⊢;subst hd;obtain⟨s1,s2,s3,_⟩:=V6 h1.1 h1.2
  refine⟨fun hb=>absurd hb zsz,fun _=>(hS (Gw a b) (AnT h1.1 h1.2) s3).to ?_⟩<;>grind
 grind
end Go.VS
set_option maxRecDepth 100000
namespace Go.VS
variable{P:Pg}
def Nc(P:Pg):Prop:=∀x:List (List Bs),x.length≤1000→(∀l∈x,l.length≤1000)→Fn P "slices.Concat[[]string,string]" Ck x fun(d:List Bs) _=>d=x.flatten
theorem BI{F:AnF}{S:Sig}(h:Hq P F)(hn:Nat.beq (npar S.ps) F.np=true:=by kernel_rfl)(hS:S.free=true:=by kernel_rfl):Ent.ok P (F.e S Go.Proofs.Tryz.prog):=Apq h hn hS
abbrev Nw:List Node:=[(1,((0,(8589934592,(0,0))),(0,(0,[])))),(3,((0,(0,(0,0))),(0,(0,[])))),(4,((0,(0,(0,0))),(0,(0,[0,1]))))]
def Ru(P:Pg):Prop:=Fn P Aru HH (([97,36]:Bs),((0:Int),((0:Int),[]))) fun(d:Int) (e:SY)=>d=2∧e=(([97,36]:Bs),((2:Int),((0:Int),Nw)))
def esP(p:Program):List Ent:=[G3.e CU p,FB.e FI p,Gt.e DA p,Fm.e Fs p,Gu.e Jn p,G4.e CV p,Eg.e Gk p,Io.e Ml p,Gv.e Jo p,G5.e Kc p,Fo.e N5 p,FC.e I3 p,DV.e DW p,EP.e HH p]
theorem AnZ(h0:Hq P G3)(h1:Hq P FB)(h2:Hq P Gt)(h3:Hq P Fm)(h4:Hq P Gu)(h5:Hq P G4)(h6:Hq P Eg)(h7:Hq P Io)(h8:Hq P Gv)(h9:Hq P G5)(h10:Hq P Fo)(h11:Hq P FC)(h12:Hq P DV)(h13:Hq P EP):Ru P:=
 AkK (kn:=id) (N:=50) (l:=(esP Go.Proofs.Tryz.prog)) (fun _ h=>h) (show Tm P (esP Go.Proofs.Tryz.prog)from⟨BI h0,BI h1,BI h2,BI h3,BI h4,BI h5,BI h6,BI h7,BI h8,BI h9,BI h10,BI h11,BI h12,BI h13,trivial⟩) 30 zk
def Pt(P:Pg):Prop:=Fn P "mergelens/regex.Parse" L4 ([97,36]:Bs) fun(d:List Node×Int) _=>d=(Nw,(0:Int))
abbrev gA:List Al:=[([],((0:Int),[([120],[97,97])]))]
def esS(p:Program):List Ent:=[Qw.e EU p,Qv.e Qz p,Jf.e NO p,Hu.e Ly p,Ho.e Lu p,EC.e BG p,Ef.e Bx p,DT.e FE p,DU.e FF p,JW.e Oh p,LX.e Qb p,M6.e Rr p,Ji.e NQ p,Jh.e Jj p,JX.e Oi p,Cw.e Ee p,Jg.e NP p,FY.e ET p,Dm.e Bh p,Hb.e Ca p,Bw.e BM p,Bz.e B2 p,Ht.e Lx p,G2.e Ka p,FZ.e DJ p,M7.e M9 p,Hp.e Lv p,Gs.e Ez p,LY.e Qc p,Eh.e Gl p,FD.e FK p,Hr.e Lw p,Fp.e Ig p,Fq.e Ih p,JY.e Oj p,Dn.e B6 p,CS.e CW p,Ej.e AF p,CT.e DZ p,Oe.e Lz p,F8.e BP p,F6.e En p,F7.e Eo p]
def kS(cb:CB):CB:=
 knC "mergelens/regex.Parse" L4 (knV ([97,36]:Bs) ((Nw,(0:Int)),()))<|
 knC Aok Hc (knV (([]:List Av),([([120],[97,97])]:List Av)) ((([([120],1)]:List BF),(0:Int)),()))<|
 knC "slices.Concat[[][2]string,[2]string]" BZ (knV ([[([],[97,97])]]:List (List Zt)) (([([],[97,97])]:List Zt),()))<|
 knC Aol Ek (knV ([[],[[97,97]]]:List (List Bs)) ((([[],[0]]:List (List Int)),([[97,97]]:List Bs)),()))<|
 knC AqA DY (knV (([]:List (Int×Int)),((0:Int),(1:Int))) (([(0,(0,(0,1)))]:List Change),()))<|
 knC AqB E7 (knV (([]:List Int),([0]:List Int)) (([]:List (Int×Int)),()))<|
 knC "slices.Concat[[]string,string]" Ck (knV ([[],[[97,97]]]:List (List Bs)) (([[97,97]]:List Bs),()))<|
 knC "strings.TrimSuffix" Dc (knV (([97,97]:Bs),([10]:Bs)) (([97,97]:Bs),()))<|
 knC "strings.SplitAfter" Cu (knV (([97,97]:Bs),([10]:Bs)) (([[97,97]]:List Bs),()))<|
 knC "strings.SplitAfter" Cu (knV (([]:Bs),([10]:Bs)) (([[]]:List Bs),()))<|
 knC "strings.Count" Ds (knV (([97,97]:Bs),([10]:Bs)) ((0:Int),()))<|
 knC "strings.Count" Ds (knV (([]:Bs),([10]:Bs)) ((0:Int),()))<|
 knC "strings.HasSuffix" CF (knV (([97,97]:Bs),([10]:Bs)) (false,()))<|
 knC "mergelens/walk.Order" HJ (knV (gA,([0]:List Int)) ((([0]:List Int),(0:Int)),())) cb
theorem knows{nm:String}{S:Sig}{x:DP S.ps}{v:DP S.rs}{w:DP (ptrs S.ps)}{cb:CB}(h:Fn P nm S x fun d e=>d=v∧e=w)(hc:cb.ok P):(knC nm S (knV x (v,w)) cb).ok P:=ApB (ApC h) hc
theorem AmR:Qx [] [([120],[97,97])] [([120],1)]:=by
 refine⟨List.pairwise_singleton ..,fun p k=>?_⟩<;>grind [Ac2,B7]
theorem Alj(c p:Int):p∉Bf gA c:=by
 grind [Bf]
theorem Apj:Gy gA 0:=Abc ⟨zdz,zdz⟩ (fun c hc=>by
 rw[List.mem_singleton.1 hc]
 exact fun j hj=>absurd hj (Qd2 _)) (fun⟨c,_,p,hp,_⟩=>Alj c p hp) (by grind [TK]) (by rfl)
theorem AqZ(hO:Px P)(hD:Mo P)(hC:Nb P)(hS:Nc P)(hP:Pt P)(hN:LB P)(hW:Oq P)(hF:Rt P)(h1:Du P)(h2:G7 P)(h3:JM P)(h4:FP P)(cb:CB)(hc:cb.ok P):(kS cb).ok P:=by
 unfold kS
 refine knows (hP.mono fun _ _ h=>⟨h,rfl⟩)<|knows ?diff<|knows ((hC _ zdz zdz).mono fun _ _ h=>⟨h,rfl⟩)<|knows ?num<|knows ?made<|knows ?walk<|
  knows ((hS _ zdz zdz).mono fun _ _ h=>⟨h,rfl⟩)<|knows ((h3 _ zdz).mono fun _ _ h=>⟨h,rfl⟩)<|knows ((h1 _ zdz).mono fun _ _ h=>⟨h,rfl⟩)<|knows ((h1 _ zdz).mono fun _ _ h=>⟨h,rfl⟩)<|
  knows ((h2 _).mono fun _ _ h=>⟨h,rfl⟩)<|knows ((h2 _).mono fun _ _ h=>⟨h,rfl⟩)<|knows ((h4 _ zdz).mono fun _ _ h=>⟨h,rfl⟩)<|knows ?ord hc
 case diff=>
  refine(hD _ ⟨zdz,zdz⟩ ⟨zdz,zdz⟩).mono ?_;rintro⟨(d:List BF),(e:Int)⟩ _ ⟨h1,h2,h3⟩;dsimp only at h1 h2 h3;have h1:e=0:=h1.trans (by rfl);subst h1;exact⟨by grind [UY,AmR],rfl⟩
 case num=>
  refine(hN _ zdz zdz).mono ?_;rintro⟨(r:List (List Int)),(ns:List Bs)⟩ _ ⟨f,h1,h2,h3,h4⟩;dsimp only at h2 h3 h4;obtain⟨h5,h6⟩:=h4 [97,97] zdz;have h3:ns.length≤1:=h3
  have h7:f [97,97]=0:=by
   grind
  rw[h7]at h6
  have h8:ns=[[97,97]]:=by
   match ns,h3,h6 with
   |[s],_,h6=>grind
  subst h2 h8;exact⟨congrArg (fun z:Int=>(([[],[z]]:List (List Int)),([[97,97]]:List Bs))) h7,rfl⟩
 case made=>exact(hF ([],(0,1)) zdz zdz zdz trivial).mono fun _ _ h=>⟨h,rfl⟩
 case walk=>exact(hW _ zdz zdz).mono fun _ _ h=>⟨h.trans (G1 ..),rfl⟩
 case ord=>
  refine(hO (gA,[0]) (by simp_all [Yq]) Apj zdz zdz (by grind [inR])).mono ?_;rintro⟨(l:List Int),(e:Int)⟩ _ ⟨h1,h2,h3⟩;dsimp only at h1 h2 h3;subst h1
  have h4:∀c,c∈l↔c=0:=fun c=>by
   rw[h3];constructor
   ·rintro⟨s,hs,hr⟩;rw[List.mem_singleton.1 hs]at hr
    cases hr<;>grind [Alj]
   ·rintro rfl;exact⟨0,zsz,.refl 0⟩
  have h5:l=[0]:=by
   match l,h2,h4 with
   |[],_,h4=>exact absurd ((h4 0).2 rfl) zsz
   |[a],_,h4=>rw[(h4 a).1 zsz]
   |a::b::l,h2,h4=>
    have e1:=(h4 a).1 zsz;simp_all
  subst h5;trivial
theorem Ajk(h0:Hq P Qw)(h1:Hq P Qv)(h2:Hq P Jf)(h3:Hq P Hu)(h4:Hq P Ho)(h5:Hq P EC)(h6:Hq P Ef)(h7:Hq P DT)(h8:Hq P DU)(h9:Hq P JW)(h10:Hq P LX)(h11:Hq P M6)(h12:Hq P Ji)(h13:Hq P Jh)(h14:Hq P JX)(h15:Hq P Cw)(h16:Hq P Jg)(h17:Hq P FY)(h18:Hq P Dm)(h19:Hq P Hb)(h20:Hq P Bw)(h21:Hq P Bz)(h22:Hq P Ht)(h23:Hq P G2)(h24:Hq P FZ)(h25:Hq P M7)(h26:Hq P Hp)(h27:Hq P Gs)(h28:Hq P LY)(h29:Hq P Eh)(h30:Hq P FD)(h31:Hq P Hr)(h32:Hq P Fp)(h33:Hq P Fq)(h34:Hq P JY)(h35:Hq P Dn)(h36:Hq P CS)(h37:Hq P Ej)(h38:Hq P CT)(h39:Hq P Oe)(h40:Hq P F8)(h41:Hq P F6)(h42:Hq P F7)(hO:Px P)(hD:Mo P)(hC:Nb P)(hS:Nc P)(hP:Pt P)(hN:LB P)(hW:Oq P)(hF:Rt P)(k1:Du P)(k2:G7 P)(k3:JM P)(k4:FP P):Mn P:=
 (AkK (kn:=kS) (N:=50) (l:=(esS Go.Proofs.Tryz.prog)) (AqZ hO hD hC hS hP hN hW hF k1 k2 k3 k4) (show Tm P (esS Go.Proofs.Tryz.prog)from⟨BI h0,BI h1,BI h2,BI h3,BI h4,BI h5,BI h6,BI h7,BI h8,BI h9,BI h10,BI h11,BI h12,BI h13,BI h14,BI h15,BI h16,BI h17,BI h18,BI h19,BI h20,BI h21,BI h22,BI h23,BI h24,BI h25,BI h26,BI h27,BI h28,BI h29,BI h30,BI h31,BI h32,BI h33,BI h34,BI h35,BI h36,BI h37,BI h38,BI h39,BI h40,BI h41,BI h42,trivial⟩) 30 (d:=true) (e:=()) zk).mono fun _ _ h=>h.1
end Go.VS
namespace Go.VS
variable{P:Pg}
def Hl(m n:Int):List AR→Int→Int→Int→Prop
 |[],old,now,_=>old≤m∧m -old=n -now
 |c::l,old,now,k=>((0≤c.2.1∧0≤c.2.2.2∧c.2.1+c.2.2.2≠0)∧c.1 -old=c.2.2.1 -now∧k≤c.1 -old)∧Hl m n l (c.1+c.2.1) (c.2.2.1+c.2.2.2) 1
def OkG(a b:List Int)(old now r:Int):Prop:=∀i:Nat,(i:Int)<r→a.getD (old.toNat+i) 0=b.getD (now.toNat+i) 0
def Acx(a b:List Int):List AR→Int→Int→Prop
 |[],old,now=>OkG a b old now (a.length -old)
 |c::l,old,now=>OkG a b old now (c.1 -old)∧Acx a b l (c.1+c.2.1) (c.2.2.1+c.2.2.2)
theorem EB{m n:Int}:∀{l:List AR} {old now k:Int},0≤k→Hl m n l old now k→(old≤m∧now≤n)∧∀c∈l,(old≤c.1∧c.1+c.2.1≤m)∧(now≤c.2.2.1∧c.2.2.1+c.2.2.2≤n)∧0≤c.2.1∧0≤c.2.2.2
 |[],old,now,k,_,h=>⟨⟨h.1,by have:=h.1;have:=h.2;omega⟩,fun c hc=>nomatch hc⟩
 |c::l,old,now,k,hk,⟨⟨⟨h1,h2,h3⟩,h4,h5⟩,h6⟩=>by
  obtain⟨⟨q1,q2⟩,q3⟩:=EB zdz h6<;>grind
theorem WJ{l:List AR}{i:Nat}(h:i<l.length):l.drop i=l.getD i Ad::l.drop (i+1):=by
 simp_all
def Nh(P:Pg):Prop:=∀x:List AR×(Int×Int),x.1.length≤1000000→(0≤x.2.1∧x.2.1≤4096)→(0≤x.2.2∧x.2.2≤4096)→Hl x.2.1 x.2.2 x.1 0 0 0→Fn P Amr DX x fun(d:Int) _=>d=0
theorem Agt(h:Hq P Hv)(hL:Rv P):Nh P:=by
 rintro⟨l,m,n⟩ hl hm hn hc;dsimp only at hl hm hn hc;have hb:=(EB (Qa0 0) hc).2
 have key:∀(n:Int) (K:Bool→Unit→Prop),(0≤n∧n≤4096)→K true ()→Fn P zS1 AF n K:=fun n K hn hk=>(hL n).to fun(d:Bool) _ hd=>by
  have hd:d=true↔(0≤n∧n≤4096):=hd;rw[hd.2 hn];exact hk
 refine Vn h ?_;unfold Ow;dsimp only;refine key _ _ hm ?_;refine Ac.mid (fun d=>d=true) ⟨fun _=>key _ _ hn rfl,fun k=>(nomatch k),trivial⟩ ?_;rintro d rfl;refine⟨fun k=>(nomatch k),fun _=>?_⟩;refine Ac.mid (fun q=>m -q.2.1=n -q.2.2∧q.2.1≤m∧(0≤q.2.1∧0≤q.2.2)) ?_ ?_
 ·refine AJ.of (fun q=>(0≤q.2.2.2∧q.2.2.2≤l.length)∧(0≤q.2.1∧0≤q.2.2.1)∧Hl m n (l.drop q.2.2.2.toNat) q.2.1 q.2.2.1 (if 1<q.2.2.2 then 1 else q.2.2.2)) (fun q=>(l.length -q.2.2.2).toNat) ⟨⟨Qa0 _,Qa1 _⟩,⟨Qa0 _,Qa0 _⟩,hc⟩ ?_;rintro⟨z,old,now,i⟩ ⟨⟨i0,i1⟩,⟨o0,n0⟩,hq⟩;dsimp only at i0 i1 o0 n0 hq⊢
  have hk0:0≤(if 1<i then 1 else i):=zg
  refine⟨fun hi=>?_,fun hi=>?_⟩
  ·have hi:=of_decide_eq_true hi
   have hi2:i.toNat<l.length:=zm
   have hbi:=hb _ (Be (d:=Ad) hi2);rw[WJ hi2]at hq;obtain⟨⟨⟨h1,h2,h3⟩,h4,h5⟩,h6⟩:=hq;generalize l.getD i.toNat Ad=c at hbi h1 h2 h3 h4 h5 h6⊢;refine Ac.mid (fun q=>q.2=(c.1+c.2.1,c.2.2.1+c.2.2.2)) ⟨⟨i0,hi⟩,hi2,?_⟩ ?_
   ·refine key _ _ zm ?_;refine Ac.mid (fun d=>d=true) ⟨fun _=>key _ _ zm rfl,fun k=>(nomatch k),trivial⟩ ?_;rintro d rfl;refine Ac.mid (fun d=>d=true) ⟨fun _=>key _ _ zm rfl,fun k=>(nomatch k),trivial⟩ ?_;rintro d rfl;refine Ac.mid (fun d=>d=true) ⟨fun _=>key _ _ zm rfl,fun k=>(nomatch k),trivial⟩ ?_;rintro d rfl
    rw[w64 (n:=c.2.1+c.2.2.2) zm zm,w64 (n:=c.1 -old) zm zm,w64 (n:=c.2.2.1 -now) zm zm,w64 (n:=c.1+c.2.1) zm zm,w64 (n:=c.2.2.1+c.2.2.2) zm zm];refine⟨fun k=>absurd k zg,fun _=>⟨fun k=>absurd k ?_,fun _=>?_⟩⟩
    ·grind
    ·refine Ac.mid (fun q=>q=(c.1+c.2.1,c.2.2.1+c.2.2.2)) ?_ fun q hq=>hq<;>grind
   grind [w64]
  ·have hi:=of_decide_eq_false hi;rw[Qb0 zm]at hq;have hq:old≤m∧m -old=n -now:=hq
   grind
 grind
def QI(P:Pg):Prop:=∀x:Int×(Int×(List (Int×Int)×Int)),x.2.2.1.length+(x.1 -x.2.1).toNat≤1000000→(0≤x.2.1∧x.1≤1000000)→(0≤x.2.2.2∧x.2.2.2≤1000000)→Fn P Amt CY x fun(_:Unit) (e:Int×(List (Int×Int)×Int))=>e.1=(if x.2.1<x.1 then x.1 else x.2.1)∧e.2.2=x.2.2.2+(e.1 -x.2.1)∧e.2.1.length≤x.2.2.1.length+(x.1 -x.2.1).toNat∧
 ∀s∈e.2.1,s∈x.2.2.1∨∃i:Nat,(i:Int)<x.1 -x.2.1∧s=(x.2.1+i,x.2.2.2+i)
theorem Agv(h:Hq P F4):QI P:=by
 rintro⟨en,old,o,now⟩ hl hx hn;dsimp only at hl hx hn;refine R6 h ?_;unfold Mr;dsimp only
 refine Ac.mid (fun q=>q.1=(if old<en then en else old)∧q.2.2=now+(q.1 -old)∧q.2.1.length≤o.length+(en -old).toNat∧∀s∈q.2.1,s∈o∨∃i:Nat,(i:Int)<en -old∧s=(old+i,now+i)) ?_ fun q hq=>hq
 refine AJ.of (fun q=>(old≤q.1∧(q.1≤en∨q.1=old))∧q.2.2=now+(q.1 -old)∧q.2.1.length≤o.length+(q.1 -old).toNat∧∀s∈q.2.1,s∈o∨∃i:Nat,(i:Int)<q.1 -old∧s=(old+i,now+i)) (fun q=>(en -q.1).toNat) ⟨⟨Qa0 _,.inr rfl⟩,zg,zg,fun s hs=>.inl hs⟩ ?_;rintro⟨p,l,w⟩ ⟨⟨h1,h2⟩,h3,h4,h5⟩;dsimp only at h1 h2 h3 h4 h5⊢
 refine⟨fun hi=>?_,fun hi=>?_⟩
 ·have hi:=of_decide_eq_true hi;rw[w64 (n:=w+1) zm zm,w64 (n:=p+1) zm zm]
  refine Ac.mid (fun q=>q=(l++[(p,w)],w+1)) ⟨by simp only[Qa3,Qc7];omega,rfl⟩ ?_<;>grind
 grind
def Zu(a b:List Int)(d:List (Int×Int)):Prop:=∀s∈d,(0≤s.1∧s.1<(a.length:Int))∧(0≤s.2∧s.2<(b.length:Int))∧a.getD s.1.toNat 0=b.getD s.2.toNat 0
def QJ(P:Pg):Prop:=∀(a b:List Int) (l:List AR),a.length≤4096→b.length≤4096→l.length≤1000000→Hl a.length b.length l 0 0 0→Acx a b l 0 0→Fn P AoF FJ (l,(a.length:Int)) fun(d:List (Int×Int)) _=>d.length≤1000000∧Zu a b d
theorem Ahw{a b:List Int}{o d:List (Int×Int)}{old now en:Int}(ho:Zu a b o)(h0:0≤old∧0≤now)(ha:en≤a.length)(hb:now+(en -old)≤b.length)(hf:OkG a b old now (en -old))(h:∀s∈d,s∈o∨∃i:Nat,(i:Int)<en -old∧s=(old+i,now+i)):Zu a b d:=fun s hs=>by
 rcases h s hs with h|⟨i,hi,rfl⟩
 ·exact ho s h
 ·refine⟨⟨zg,zg⟩,⟨zg,zg⟩,?_⟩;have:=hf i hi
  grind
theorem Agw(h:Hq P Hw)(hT:QI P):QJ P:=by
 intro a b l la lb ll hc hf;have hb:=(EB (Qa0 0) hc).2;refine Vo h ?_;unfold Ox;dsimp only;refine Ac.mid (fun q=>(0≤q.2.1∧0≤q.2.2)∧q.1.length≤q.2.1.toNat∧Zu a b q.1∧Hl a.length b.length [] q.2.1 q.2.2 1∧Acx a b [] q.2.1 q.2.2) ?_ ?_
 ·refine AJ.of (fun q=>(0≤q.1∧q.1≤l.length)∧(0≤q.2.2.1∧0≤q.2.2.2)∧q.2.1.length≤q.2.2.1.toNat∧Zu a b q.2.1∧(∃k,0≤k∧Hl a.length b.length (l.drop q.1.toNat) q.2.2.1 q.2.2.2 k)∧Acx a b (l.drop q.1.toNat) q.2.2.1 q.2.2.2) (fun q=>(l.length -q.1).toNat) ⟨⟨Qa0 _,Qa1 _⟩,⟨Qa0 _,Qa0 _⟩,Qb1 _,(fun s hs=>nomatch hs),⟨0,Qa0 _,hc⟩,hf⟩ ?_
  rintro⟨i,o,old,now⟩ ⟨⟨i0,i1⟩,⟨o0,n0⟩,hol,hp,⟨k,hk0,hq⟩,hq2⟩;dsimp only at i0 i1 o0 n0 hol hp hq hq2⊢;refine⟨fun hi=>?_,fun hi=>?_⟩
  ·have hi:=of_decide_eq_true hi
   have hi2:i.toNat<l.length:=zm
   have hbi:=hb _ (Be (d:=Ad) hi2);rw[WJ hi2]at hq hq2;obtain⟨⟨⟨h1,h2,h3⟩,h4,h5⟩,h6⟩:=hq;obtain⟨h7,h8⟩:=hq2;generalize l.getD i.toNat Ad=c at hbi h1 h2 h3 h4 h5 h6 h7 h8⊢;refine Ac.mid (fun q=>q.2=(c.1+c.2.1,c.2.2.1+c.2.2.2)∧q.1.length≤c.1.toNat∧Zu a b q.1) ⟨⟨i0,hi⟩,hi2,(hT (c.1,(old,(o,now))) zg ⟨o0,zg⟩ ⟨n0,zg⟩).to ?_⟩ ?_
   ·rintro _ ⟨(e1:Int),(e2:List (Int×Int)),(e3:Int)⟩ ⟨k1,k2,k3,k4⟩;dsimp only at k1 k2 k3 k4⊢
    have g1:e1=c.1:=zg
    have g2:e3=c.2.2.1:=zm
    clear k1 k2;subst g1 g2;rw[w64 (n:=c.1+c.2.1) zm zm,w64 (n:=c.2.2.1+c.2.2.2) zm zm];refine Ac.mid (fun q=>q=(c.1+c.2.1,c.2.2.1+c.2.2.2)) ?_ ?_
    ·grind
    ·rintro _ rfl;exact⟨rfl,zm,Ahw hp ⟨o0,n0⟩ zm zm h7 k4⟩
   ·rintro⟨q1,q2⟩ ⟨e,k1,k2⟩;have e:q2=(c.1+c.2.1,c.2.2.1+c.2.2.2):=e;subst e
    grind [w64]
  ·have hi:=of_decide_eq_false hi;rw[Qb0 zm]at hq hq2;trivial
 ·rintro⟨o,old,now⟩ ⟨⟨o0,n0⟩,hol,hp,hq,hq2⟩;dsimp only at o0 n0 hol hp hq hq2⊢;have hq:old≤a.length∧(a.length:Int) -old=b.length -now:=hq;refine(hT ((a.length:Int),(old,(o,now))) zg ⟨o0,zg⟩ ⟨n0,zg⟩).to ?_;rintro _ ⟨(e1:Int),(e2:List (Int×Int)),(e3:Int)⟩ ⟨k1,k2,k3,k4⟩;dsimp only at k1 k2 k3 k4⊢
  exact⟨zm,Ahw hp ⟨o0,n0⟩ zm zm hq2 k4⟩
def Wm(P:Pg):Prop:=∀(a b:List Int) (l:List AR),a.length≤4096→b.length≤4096→l.length≤1000000→Hl a.length b.length l 0 0 0→Acx a b l 0 0→Fn P "mergelens/script.Fits" IQ (l,(a,b)) fun(d:Bool) _=>d=true
theorem AlU(h:Hq P IK)(hC:Nh P)(hT:QJ P):Wm P:=by
 intro a b l la lb ll hc hf;refine Xc h ?_;unfold Qk;dsimp only;refine(hC (l,((a.length:Int),(b.length:Int))) ll ⟨Qa1 _,zg⟩ ⟨Qa1 _,zg⟩ hc).to ?_;rintro(d:Int) _ hd;have hd:d=0:=hd;subst hd;refine⟨fun k=>(nomatch k),fun _=>?_⟩;refine(hT a b l la lb ll hc hf).to ?_;rintro(d:List (Int×Int)) _ ⟨hl,hp⟩
 refine Ac.mid (fun _=>True) ?_ fun _ _=>rfl
 refine AJ.of (fun q=>0≤q.2∧q.2≤d.length) (fun q=>(d.length -q.2).toNat) ⟨Qa0 _,Qa1 _⟩ ?_;rintro⟨z,i⟩ ⟨i0,i1⟩;dsimp only at i0 i1⊢;refine⟨fun hi=>?_,fun _=>trivial⟩;have hi:=of_decide_eq_true hi
 have hi2:i.toNat<d.length:=zm
 have hs:=hp _ (Be (d:=((0:Int),(0:Int))) hi2);generalize d.getD i.toNat ((0:Int),(0:Int))=s at hs⊢;obtain⟨h1,h2,h3⟩:=hs
 refine Ac.mid (fun _=>True) ⟨⟨i0,hi⟩,hi2,h1,zm,h2,zm,fun k=>absurd k (by rw[h3];simp),fun _=>trivial⟩ fun _ _=>?_<;>grind [w64]
abbrev Og:Type:=Int×(Int×((Int×Int)×(Int×Int)))
def JE(a b:Int):Int:=if a<b then a else b
def hkF(l:List AR)(s e m ctx:Int):Og:=
 (s,(e,(((l.getD s.toNat Ad).1 -JE (l.getD s.toNat Ad).1 ctx,(l.getD (e -1).toNat Ad).1+(l.getD (e -1).toNat Ad).2.1+JE (m -(l.getD (e -1).toNat Ad).1 -(l.getD (e -1).toNat Ad).2.1) ctx),
  ((l.getD s.toNat Ad).2.2.1 -JE (l.getD s.toNat Ad).1 ctx,(l.getD (e -1).toNat Ad).2.2.1+(l.getD (e -1).toNat Ad).2.2.2+JE (m -(l.getD (e -1).toNat Ad).1 -(l.getD (e -1).toNat Ad).2.1) ctx))))
def BdL(m n:Int)(l:List AR):Prop:=∀c∈l,(0≤c.1∧c.1+c.2.1≤m)∧(0≤c.2.2.1∧c.2.2.1+c.2.2.2≤n)∧0≤c.2.1∧0≤c.2.2.2
def QC(P:Pg):Prop:=∀(l:List AR) (s e m n ctx:Int),(0≤s∧s<e∧e≤l.length)→l.length≤1000000→m≤4096→n≤4096→(0≤ctx∧ctx≤1000)→BdL m n l→Fn P Aov GB (l,(s,(e,(m,ctx)))) fun(d:Og) _=>d=hkF l s e m ctx
theorem Ago(h:Hq P IG):QC P:=by
 intro l s e m n ctx hse hl hm hn hc hb
 have hs2:s.toNat<l.length:=zm
 have he2:(e -1).toNat<l.length:=zm
 have ha:=hb _ (Be (d:=Ad) hs2);have hz:=hb _ (Be (d:=Ad) he2);refine W8 h ?_;unfold Qg;dsimp only;rw[w64 (n:=e -1) zm zm];refine Ac.mid (fun q=>q=(l.getD s.toNat Ad,l.getD (e -1).toNat Ad)) ?_ ?_
 ·grind
 ·rintro _ rfl;unfold hkF;dsimp only;generalize l.getD s.toNat Ad=a at ha⊢;generalize l.getD (e -1).toNat Ad=z at hz⊢
  grind [JE,w64]
def AmY(l:List AR)(t:Int):Int:=(l.getD t.toNat Ad).1 -((l.getD (t -1).toNat Ad).1+(l.getD (t -1).toNat Ad).2.1)
def Rq(l:List AR)(m ctx:Int):Int→List Og→Int→Prop
 |s,[],e=>s=e
 |s,h::r,e=>∃t,s<t∧t≤l.length∧(t<l.length→2*ctx<AmY l t)∧h=hkF l s t m ctx∧Rq l m ctx t r e
theorem Rq.snoc{l:List AR}{m ctx:Int}:∀{H:List Og} {s t u:Int},Rq l m ctx s H t→t<u→u≤l.length→(u<l.length→2*ctx<AmY l u)→Rq l m ctx s (H++[hkF l t u m ctx]) u
 |[],s,t,u,h,h1,h2,h3=>by
  have h:s=t:=h;subst h;exact⟨u,h1,h2,h3,rfl,rfl⟩
 |_::H,s,t,u,⟨v,q1,q2,q5,q3,q4⟩,h1,h2,h3=>⟨v,q1,q2,q5,q3,q4.snoc h1 h2 h3⟩
def Wg(P:Pg):Prop:=∀(l:List AR) (m n ctx:Int),l.length≤1000000→(0≤m∧m≤4096)→(0≤n∧n≤4096)→(0≤ctx∧ctx≤1000)→Hl m n l 0 0 0→Fn P Aow HG (l,(m,(n,ctx))) fun(d:List Og×Int) _=>d.2=0∧d.1.length≤l.length∧Rq l m ctx 0 d.1 l.length
theorem AlQ(h:Hq P Jt)(hC:Nh P)(hH:QC P):Wg P:=by
 intro l m n ctx hl hm hn hc hv;have hb:BdL m n l:=(EB (Qa0 0) hv).2;refine YV h ?_;unfold RB;dsimp only;refine⟨fun k=>absurd k ?_,fun _=>?_⟩
 ·grind
 refine(hC (l,(m,n)) hl hm hn hv).to ?_;rintro(d:Int) _ hd;have hd:d=0:=hd;subst hd;refine⟨fun k=>(nomatch k),fun _=>?_⟩
 refine Ac.mid (fun H=>H.length≤l.length∧Rq l m ctx 0 H l.length) ?_ fun H hH=>⟨rfl,hH⟩
 refine AJ.of (fun q=>(0≤q.2.2∧q.2.2≤l.length)∧(0≤q.2.1∧q.2.1≤q.2.2)∧q.1.length≤q.2.2.toNat∧Rq l m ctx 0 q.1 q.2.1∧(q.2.2=l.length→q.2.1=l.length)) (fun q=>(l.length -q.2.2).toNat) ⟨⟨Qa0 _,Qa1 _⟩,⟨Qa0 _,Qa0 _⟩,Qd9 _,rfl,fun e=>e⟩ ?_;rintro⟨H,s,i⟩ ⟨⟨i0,i1⟩,⟨s0,s1⟩,hHl,hHk,hend⟩
 dsimp only at i0 i1 s0 s1 hHl hHk hend⊢;refine⟨fun hi=>?_,fun hi=>?_⟩
 ·have hi:=of_decide_eq_true hi
  have hi2:i.toNat<l.length:=zm
  have hbi:=hb _ (Be (d:=Ad) hi2);rw[w64 (n:=i+1) zm zm]
  have hbj:(i+1==((l.length:Nat):Int))=false→(i+1).toNat<l.length:=fun k=>by
   grind
  refine Ac.mid (fun q=>(0≤q.2∧q.2≤i+1)∧q.1.length≤i.toNat+1∧Rq l m ctx 0 q.1 q.2∧(i+1=l.length→q.2=l.length)) ⟨⟨i0,hi⟩,hi2,fun k=>⟨zm,zg⟩,hbj,?_⟩ ?_
  ·refine Ac.mid (fun q=>(0≤q.2∧q.2≤i+1)∧q.1.length≤i.toNat+1∧Rq l m ctx 0 q.1 q.2∧(i+1=l.length→q.2=l.length)) ⟨fun hk=>?_,fun k=>?_⟩ fun q hq=>hq
   ·refine(hH l s (i+1) m n ctx ⟨s0,zm,zm⟩ hl hm.2 hn.2 hc hb).to ?_;rintro(d:Og) _ hd;have hd:d=hkF l s (i+1) m ctx:=hd;subst hd;refine⟨zg,⟨zg,zg⟩,zg,hHk.snoc zm zm fun hlt=>?_,fun e=>e⟩;have hbn:=hb _ (Be (d:=Ad) (show(i+1).toNat<l.length by omega))
    have hne:(i+1==((l.length:Nat):Int))=false:=beq_eq_false_iff_ne.2 zm
    rw[hne,w64 (n:=2*ctx) zm zm,w64 (n:=(l.getD (i+1).toNat Ad).1 -(l.getD i.toNat Ad).1) zm zm,w64 zm zm]at hk<;>grind [AmY]
   grind
  grind
 grind
abbrev PLn:Type:=Int×Bs
def G8(k:Int)(l:List PLn):Int:=Mg (fun x:PLn=>if x.1==k then(1:Int)else 0) l
theorem Ko(k:Int)(l m:List PLn):G8 k (l++m)=G8 k l+G8 k m:=Hi ..
theorem I9(k j:Int)(l:List Bs):G8 k (l.map fun s=>(j,s))=if j==k then(l.length:Int)else 0:=by
 induction l<;>grind [G8,Mg]
theorem AaN(k:Int)(l:List PLn):0≤G8 k l∧G8 k l≤l.length:=by
 induction l<;>grind [G8,Mg]
def JA(k:Int)(H:List A9):Int:=Mg (fun h:A9=>G8 k h.2.2) H
theorem Akq(k:Int)(l m:List A9):JA k (l++m)=JA k l+JA k m:=Hi ..
def Li(H:List A9):Int:=Mg (fun h:A9=>(h.2.2.length:Int)) H
theorem VU(k:Int)(H:List A9):0≤JA k H∧JA k H≤Li H:=by
 induction H with
 |nil=>exact⟨Qa0 _,Qa0 _⟩
 |cons x l ih=>
  have e1:JA k (x::l)=G8 k x.2.2+JA k l:=by rfl
  have e2:Li (x::l)=x.2.2.length+Li l:=by rfl
  have:=AaN k x.2.2;omega
theorem AiF(H:List A9):∀n,Li (H.take n)≤Li H:=by
 induction H with
 |nil=>grind
 |cons x l ih=>
  have e2:Li (x::l)=x.2.2.length+Li l:=by rfl
  have h0:0≤Li l:=by have:=VU 0 l;omega
  intro n
  cases n<;>grind [Li,Mg]
def Tw(P:Pg):Prop:=∀p:Patch,p.2.2.length≤1000000→Li p.2.2≤1000000000→Fn P AoC E8 p fun(d:Int×Int) _=>d=(JA 45 p.2.2,JA 43 p.2.2)
theorem Ajp(h:Hq P GR):Tw P:=by
 rintro⟨o,n,H⟩ hH hL;dsimp only at hH hL;refine TZ h ?_;unfold NU;dsimp only
 refine Ac.mid (fun q=>q=(JA 45 H,JA 43 H)) ?_ fun q hq=>hq
 refine AJ.of (fun q=>(0≤q.2.2∧q.2.2≤H.length)∧q.1=JA 45 (H.take q.2.2.toNat)∧q.2.1=JA 43 (H.take q.2.2.toNat)) (fun q=>(H.length -q.2.2).toNat) ⟨⟨Qa0 _,Qa1 _⟩,rfl,rfl⟩ ?_;rintro⟨r,a,i⟩ ⟨⟨i0,i1⟩,hr,ha⟩;dsimp only at i0 i1 hr ha⊢;refine⟨fun hi=>?_,fun hi=>?_⟩
 ·have hi:=of_decide_eq_true hi
  have hi2:i.toNat<H.length:=zm
  have ht:=H6 (d:=Bp) hi2;have hl1:=AiF H (i.toNat+1);have hb1:=VU 45 (H.take i.toNat);have hb2:=VU 43 (H.take i.toNat)
  have hl2:Li (H.take (i.toNat+1))=Li (H.take i.toNat)+(H.getD i.toNat Bp).2.2.length:=by
   rw[ht];simp[Li,Hi,Mg]
  refine Ac.mid (fun q=>q=(r+G8 45 (H.getD i.toNat Bp).2.2,a+G8 43 (H.getD i.toNat Bp).2.2)) ⟨⟨i0,hi⟩,hi2,?_⟩ ?_
  ·generalize(H.getD i.toNat Bp).2.2=L at hl2⊢
   refine Ac.mid (fun q=>q=(r+G8 45 L,a+G8 43 L)) ?_ fun q hq=>hq
   refine AJ.of (fun q=>(0≤q.2.2∧q.2.2≤L.length)∧q.1=r+G8 45 (L.take q.2.2.toNat)∧q.2.1=a+G8 43 (L.take q.2.2.toNat)) (fun q=>(L.length -q.2.2).toNat) ⟨⟨Qa0 _,Qa1 _⟩,(Int.add_zero _).symm,(Int.add_zero _).symm⟩ ?_;rintro⟨x,y,j⟩ ⟨⟨j0,j1⟩,hx,hy⟩;dsimp only at j0 j1 hx hy⊢;refine⟨fun hj=>?_,fun hj=>?_⟩
   ·have hj:=of_decide_eq_true hj
    have hj2:j.toNat<L.length:=zm
    have ht:=H6 (d:=((0:Int),([]:Bs))) hj2;have c1:=AaN 45 (L.take j.toNat);have c2:=AaN 43 (L.take j.toNat);rw[Qb9]at c1 c2
    have s1:∀k,G8 k (L.take (j.toNat+1))=G8 k (L.take j.toNat)+if(L.getD j.toNat ((0:Int),([]:Bs))).1==k then(1:Int)else 0:=fun k=>by
     rw[ht,Ko]
     grind [G8,Mg]
    refine Ac.mid (fun q=>q=(r+G8 45 (L.take (j.toNat+1)),a+G8 43 (L.take (j.toNat+1)))) ⟨⟨j0,hj⟩,hj2,?_⟩ ?_
    ·rw[s1,s1];generalize(L.getD j.toNat ((0:Int),([]:Bs))).1=k
     refine Ac.mid (fun q=>q=(r+(G8 45 (L.take j.toNat)+if k==45 then(1:Int)else 0),a+(G8 43 (L.take j.toNat)+if k==43 then(1:Int)else 0))) ?_ fun q hq=>hq
     refine Ac.mid (fun q=>q=(r+(G8 45 (L.take j.toNat)+if k==45 then(1:Int)else 0),a+(G8 43 (L.take j.toNat)+if k==43 then(1:Int)else 0))) ⟨fun hk=>?_,fun hk=>?_⟩ fun q hq=>hq
     ·have hk:=eq_of_beq hk;subst hk
      rw[w64 zm zm,hx,hy]<;>grind
     ·refine Ac.mid (fun q=>q=a+(G8 43 (L.take j.toNat)+if k==43 then(1:Int)else 0)) ⟨fun h2=>?_,fun h2=>?_⟩ fun q hq=>?_<;>grind [w64]
    ·rintro⟨x,y⟩ hq;cases hq;dsimp only
     rw[w64 zm zm,show(j+1).toNat=j.toNat+1 by omega]<;>grind
   grind [of_decide_eq_false,Qa5,Prod.ext]
  ·rintro⟨x,y⟩ hq;cases hq;dsimp only
   have s2:∀k,JA k (H.take (i.toNat+1))=JA k (H.take i.toNat)+G8 k (H.getD i.toNat Bp).2.2:=fun k=>by
    rw[ht,Akq]
    grind [JA,Mg]
   grind [w64]
 grind [of_decide_eq_false,Qa5,Prod.ext]
def Tx(P:Pg):Prop:=∀h:A9,h.2.2.length≤1000000000→Fn P Aox E9 h fun(_:Int×Int) _=>True
theorem Ajq(h:Hq P GV):Tx P:=by
 rintro⟨o,n,L⟩ hL;dsimp only at hL;refine T7 h ?_;unfold NV;dsimp only
 refine Ac.mid (fun _=>True) ?_ fun _ _=>trivial
 refine AJ.of (fun q=>0≤q.2.2∧q.2.2≤L.length) (fun q=>(L.length -q.2.2).toNat) ⟨Qa0 _,Qa1 _⟩ ?_;rintro⟨a,b,i⟩ ⟨i0,i1⟩;dsimp only at i0 i1⊢;refine⟨fun hi=>?_,fun _=>trivial⟩;have hi:=of_decide_eq_true hi
 refine Ac.mid (fun _=>True) ⟨⟨i0,hi⟩,zm,Ac.mid (fun _=>True) ⟨fun _=>trivial,fun _=>trivial⟩ fun _ _=>Ac.mid (fun _=>True) ⟨fun _=>trivial,fun _=>trivial⟩ fun _ _=>trivial⟩ fun _ _=>?_<;>grind [w64]
def QK(P:Pg):Prop:=∀h:A9,h.2.2.length≤1000000000→Fn P Aoy EE h fun(d:Bs) _=>d.length≤60
theorem Agx(h:Hq P F9)(hS:Tx P)(hF:Ke P):QK P:=by
 rintro⟨o,n,L⟩ hL;refine R8 h ?_;unfold Mt;dsimp only;refine(hS (o,(n,L)) hL).to ?_;rintro⟨(a:Int),(b:Int)⟩ _ _;dsimp only
 have key:Fn P zS3 Bk (o,a) fun(d5:Bs) _=>(Qa4 ([64,64,32,45]:Bs)+Qa4 d5≤9223372036854775807)∧
   (Qa4 (([64,64,32,45]:Bs)++d5)+Qa4 ([32,43]:Bs)≤9223372036854775807)∧
   (Fn P zS3 Bk (n,b) (fun(d7:Bs) _=>(Qa4 ((([64,64,32,45]:Bs)++d5)++([32,43]:Bs))+Qa4 d7≤9223372036854775807)∧
   (Qa4 (((([64,64,32,45]:Bs)++d5)++([32,43]:Bs))++d7)+Qa4 ([32,64,64,10]:Bs)≤9223372036854775807)∧
   ((((([64,64,32,45]:Bs)++d5)++([32,43]:Bs))++d7)++([32,64,64,10]:Bs)).length≤60∧True))∧True:=by
  refine(hF (o,a)).to ?_;rintro(d5:Bs) _ hd
  have h5:d5.length≤21:=by grind [frF,AkL]
  refine⟨zg,zg,?_,trivial⟩;refine(hF (n,b)).to ?_;rintro(d7:Bs) _ hd
  grind [frF,AkL]
 exact Ac.mid (fun s=>s.length≤60) ⟨key,⟨key,trivial⟩,trivial⟩ fun s hs=>hs
def Ou(P:Pg):Prop:=Fn P "mergelens/unified.written" Fy (([111]:Bs),(([110]:Bs),[])) fun(d:Bs) _=>d.length≤100
def szL(L:List PLn):Int:=Mg (fun x:PLn=>40+(x.2.length:Int)) L
def szH(H:List A9):Int:=Mg (fun h:A9=>60+szL h.2.2) H
theorem Yv(x:PLn)(L:List PLn):szL (x::L)=40+(x.2.length:Int)+szL L:=by unfold szL;rw[Mg]
theorem AhN(L M:List PLn):szL (L++M)=szL L+szL M:=Hi ..
theorem AbP(L:List PLn):(L.length:Int)≤szL L:=by
 induction L with
 |nil=>trivial
 |cons x L ih=>grind [Yv]
theorem Aen(L:List PLn)(n:Nat):szL (L.take n)≤szL L:=by
 have h:=AhN (L.take n) (L.drop n);rw[Qb6]at h;have:=AbP (L.drop n);omega
theorem Yu(x:A9)(H:List A9):szH (x::H)=60+szL x.2.2+szH H:=by rfl
theorem AhM(L M:List A9):szH (L++M)=szH L+szH M:=Hi ..
theorem AgD(H:List A9):(H.length:Int)≤szH H:=by
 induction H with
 |nil=>trivial
 |cons x L ih=>rw[Yu,Qa3];have:=AbP x.2.2;omega
theorem Aem(H:List A9)(n:Nat):szH (H.take n)≤szH H:=by
 have h:=AhM (H.take n) (H.drop n);rw[Qb6]at h;have:=AgD (H.drop n);omega
def Wp(P:Pg):Prop:=∀H:List A9,100+szH H≤16777216→Fn P Aoz FO (([111]:Bs),(([110]:Bs),H)) fun(d:Int) _=>d≤16777216
theorem AlZ(h:Hq P HC)(hW:Ou P)(hH:QK P)(hE:Pw P):Wp P:=by
 intro H hs;have hHl:=AgD H;refine Vt h ?_;unfold OC;dsimp only;refine hW.to ?_;rintro(w:Bs) _ hw;have hw:w.length≤100:=hw
 refine Ac.mid (fun q=>q≤16777216) ?_ fun q hq=>hq
 refine AJ.of (fun q=>(0≤q.2∧q.2≤H.length)∧0≤q.1∧q.1≤100+szH (H.take q.2.toNat)) (fun q=>(H.length -q.2).toNat) ⟨⟨Qa0 _,Qa1 _⟩,Qa1 _,by show _≤100+(0:Int);grind⟩ ?_
 rintro⟨t,i⟩ ⟨⟨i0,i1⟩,t0,t1⟩;dsimp only at i0 i1 t0 t1⊢;have hcap:=Aem H i.toNat;refine⟨fun hi=>?_,fun hi=>zm⟩;have hi:=of_decide_eq_true hi
 have hi2:i.toNat<H.length:=zm
 have ht:=H6 (d:=Bp) hi2;have hcap2:=Aem H (i.toNat+1)
 have e1:szH (H.take (i.toNat+1))=szH (H.take i.toNat)+(60+szL (H.getD i.toNat Bp).2.2):=by rw[ht,AhM,Yu];show _+(_+(0:Int))=_;omega
 have hL0:=AbP (H.getD i.toNat Bp).2.2
 refine Ac.mid (fun q=>0≤q∧q≤100+szH (H.take (i.toNat+1))) ⟨⟨i0,hi⟩,hi2,(hH (H.getD i.toNat Bp) zm).to ?_⟩ fun q hq=>?_
 ·rintro(d:Bs) _ hd;have hd:d.length≤60:=hd;rw[w64 (n:=t+(d.length:Int)) zm zm,e1];rw[e1]at hcap2;generalize(H.getD i.toNat Bp).2.2=L at hcap2 hL0⊢
  refine Ac.mid (fun q=>0≤q∧q≤100+(szH (H.take i.toNat)+(60+szL L))) ?_ fun q hq=>hq
  refine AJ.of (fun q=>(0≤q.2∧q.2≤L.length)∧0≤q.1∧q.1≤t+(d.length:Int)+szL (L.take q.2.toNat)) (fun q=>(L.length -q.2).toNat) ⟨⟨Qa0 _,Qa1 _⟩,zg,by show _≤_+(0:Int);grind⟩ ?_
  rintro⟨u,j⟩ ⟨⟨j0,j1⟩,u0,u1⟩;dsimp only at j0 j1 u0 u1⊢;have hc1:=Aen L j.toNat;refine⟨fun hj=>?_,fun hj=>⟨u0,zm⟩⟩;have hj:=of_decide_eq_true hj
  have hj2:j.toNat<L.length:=zm
  have ht:=H6 (d:=((0:Int),([]:Bs))) hj2;have hc2:=Aen L (j.toNat+1)
  have e2:szL (L.take (j.toNat+1))=szL (L.take j.toNat)+(40+((L.getD j.toNat ((0:Int),([]:Bs))).2.length:Int)):=by rw[ht,AhN,Yv];rfl
  rw[e2]at hc2;have hc0:=AbP (L.take j.toNat);have hc3:=AgD (H.take i.toNat)
  refine Ac.mid (fun q=>0≤q∧q≤t+(d.length:Int)+szL (L.take (j.toNat+1))) ⟨⟨j0,hj⟩,hj2,(hE (L.getD j.toNat ((0:Int),([]:Bs))).2 zm).to ?_⟩ fun q hq=>?_
  ·rintro(b:Bool) _ _;rw[e2];generalize(L.getD j.toNat ((0:Int),([]:Bs))).2=s at hc2⊢;rw[w64 (n:=1+(s.length:Int)) zm zm,w64 (n:=u+(1+(s.length:Int))) zm zm,w64 (n:=u+(1+(s.length:Int))+29) zm zm]
   refine Ac.mid (fun q=>0≤q∧q≤t+(d.length:Int)+(szL (L.take j.toNat)+(40+(s.length:Int)))) ⟨fun _=>⟨zm,zm⟩,fun _=>⟨zm,zm⟩⟩ fun q hq=>hq
  ·rw[w64 (n:=j+1) zm zm,show(j+1).toNat=j.toNat+1 by omega]<;>grind
 grind [w64]
theorem Amf(A B:List Int):∀(n:Nat) (a b:List Int) (i j:Nat),a.length+b.length≤n→A.drop i=a→B.drop j=b→∀s∈Dk a b (i:Int) (j:Int),A.getD s.1.toNat 0=B.getD s.2.toNat 0:=by
 intro n
 induction n with
 |zero=>
  simp_all [G1]
 |succ n ih=>
  intro a b i j h hA hB s hs
  cases a with
  |nil=>grind [G1]
  |cons x a=>
   cases b with
   |nil=>grind [Lb]
   |cons y b=>
    simp only[Qa3]at h
    have hA1:A.drop (i+1)=a:=by rw[←Qf7,hA];rfl
    have hB1:B.drop (j+1)=b:=by rw[←Qf7,hB];rfl
    have hx:A.getD i 0=x:=by
     have:(A.drop i)[0]?=some x:=zg
     grind
    have hy:B.getD j 0=y:=by
     have:(B.drop j)[0]?=some y:=zg
     grind
    by_cases e:x=y
    ·rw[UB e]at hs
     rcases List.mem_cons.1 hs with rfl|hs
     ·grind
     ·exact ih a b (i+1) (j+1) zm hA1 hB1 s hs
    ·by_cases k:EK a (y::b)+1=EK (x::a) (y::b)
     ·rw[Pq e k]at hs;exact ih a (y::b) (i+1) j zg hA1 hB s hs
     ·rw[M0 e k]at hs;exact ih (x::a) b i (j+1) zg hA hB1 s hs
theorem Abk{a b:List Int}:∀(p:List (Int×Int)) {old now o0 n0 k:Int},Vk (old,now) a.length b.length p→(∀s∈p,a.getD s.1.toNat 0=b.getD s.2.toNat 0)→old≤a.length→now≤b.length→(0≤o0∧0≤n0)→old -o0=now -n0→o0≤old→k≤old -o0→OkG a b o0 n0 (old -o0)→
  Hl a.length b.length (D7 a.length b.length p old now) o0 n0 k∧Acx a b (D7 a.length b.length p old now) o0 n0
 |[],old,now,o0,n0,k,_,_,h1,h2,⟨z1,z2⟩,h3,h4,h5,h6=>by
  unfold D7 N7;split
  ·rename_i hg;dsimp only at hg;refine⟨⟨⟨⟨zg,zg,zg⟩,h3,h5⟩,?_⟩,h6,fun i hi=>?_⟩
   ·show(_≤_)∧_
    grind
   grind
  ·rename_i hg;dsimp only at hg;refine⟨?_,?_⟩
   ·show(_≤_)∧_;omega
   ·have e:old=a.length:=by omega
    rw[e]at h6;exact h6
 |s::r,old,now,o0,n0,k,⟨⟨q1,q2,q3,q4⟩,hr⟩,hp,h1,h2,⟨z1,z2⟩,h3,h4,h5,h6=>by
  dsimp only at q1 q2;have hs:=hp s (Qa6 ..)
  have hp2:∀t∈r,a.getD t.1.toNat 0=b.getD t.2.toNat 0:=fun t ht=>hp t (Qa2 _ ht)
  unfold D7 N7;split
  ·rename_i hg
   have ih:=Abk r (o0:=s.1) (n0:=s.2) (k:=1) hr hp2 zm zm ⟨zm,zm⟩ zm zm zm (fun i hi=>by
    grind)
   refine⟨⟨⟨⟨zg,zg,zg⟩,h3,h5⟩,?_⟩,h6,?_⟩
   ·dsimp only
    rw[show old+(s.1 -old)=s.1 by omega,show now+(s.2 -now)=s.2 by omega]<;>simp_all
   ·dsimp only
    rw[show old+(s.1 -old)=s.1 by omega,show now+(s.2 -now)=s.2 by omega]<;>simp_all
  ·rename_i hg
   have e1:s.1=old:=zm
   have e2:s.2=now:=zm
   exact Abk r (o0:=o0) (n0:=n0) (k:=k) hr hp2 zm zm ⟨z1,z2⟩ zm zm zm fun i hi=>by
    by_cases hi2:(i:Int)<old -o0
    ·exact h6 i hi2
    grind
def AnW(a b:List Int):List AR:=D7 a.length b.length (Dk a b 0 0) 0 0
theorem Ap7(a b:List Int):Hl a.length b.length (AnW a b) 0 0 0∧Acx a b (AnW a b) 0 0:=by
 have hasc:=V9 _ a b 0 0 (Qb1 _);rw[Qc0,Qc0]at hasc;exact Abk _ hasc (Amf a b _ a b 0 0 (Qb1 _) rfl rfl) (Qa1 _) (Qa1 _) ⟨Qa0 _,Qa0 _⟩ rfl (Qa0 _) (Qa0 _) (fun i hi=>absurd hi zm)
def Ei{α:Type}(l:List α)(i j:Int):List α:=(l.take j.toNat).drop i.toNat
theorem K3{α:Type}{l:List α}{i j:Int}(h0:0≤i)(h1:i≤j)(h2:j≤l.length):((Ei l i j).length:Int)=j -i:=by
 grind [Ei]
theorem Aej{α:Type}{l:List α}{i j:Int}{x:α}(h:x∈Ei l i j):x∈l:=Qd6 (List.mem_of_mem_drop h)
theorem Yr{α:Type}{l:List α}{i j:Int}(h1:i≤j):l.drop i.toNat=Ei l i j++l.drop j.toNat:=by
 unfold Ei;rw[List.drop_take,show j.toNat=i.toNat+(j.toNat -i.toNat)by omega,show i.toNat+(j.toNat -i.toNat) -i.toNat=j.toNat -i.toNat by omega,←Qf7,Qb6]
def Mw(a b:List Bs):List AR→Int→Int→List PLn
 |[],p,to=>(Ei a p to).map fun s=>((32:Int),s)
 |c::r,p,to=>((Ei a p c.1).map fun s=>((32:Int),s))++((Ei a c.1 (c.1+c.2.1)).map fun s=>((45:Int),s))++((Ei b c.2.2.1 (c.2.2.1+c.2.2.2)).map fun s=>((43:Int),s))++Mw a b r (c.1+c.2.1) to
def bdB(m n:Int):List AR→Int→Int→Prop
 |[],p,to=>0≤p∧p≤to∧to≤m
 |c::r,p,to=>(0≤p∧p≤c.1∧0≤c.2.1∧c.1+c.2.1≤m∧0≤c.2.2.1∧0≤c.2.2.2∧c.2.2.1+c.2.2.2≤n)∧bdB m n r (c.1+c.2.1) to
theorem Ajv(c:AR)(l:List AR):Hn (c::l)=c.2.1+Hn l:=by simp[Hn]
theorem Aap(c:AR)(l:List AR):Gx (c::l)=c.2.2.2+Gx l:=by simp[Gx]
theorem Al4(l m:List AR):Hn (l++m)=Hn l+Hn m:=by simp[Hn]
theorem Al3(l m:List AR):Gx (l++m)=Gx l+Gx m:=by simp[Gx]
theorem Akg(a b:List Bs):∀{r:List AR} {p to:Int},bdB a.length b.length r p to→G8 45 (Mw a b r p to)=Hn r∧G8 43 (Mw a b r p to)=Gx r∧((Mw a b r p to).length:Int)=(to -p)+Gx r∧∀x∈Mw a b r p to,x.2∈a∨x.2∈b
 |[],p,to,⟨h1,h2,h3⟩=>by
  refine⟨?_,?_,?_,fun x hx=>?_⟩
  ·rw[Mw,I9];rfl
  ·rw[Mw,I9];rfl
  ·rw[Mw,Qb7,K3 h1 h2 h3];show _=_+(0:Int);omega
  ·rw[Mw]at hx<;>grind [Aej]
 |c::r,p,to,⟨⟨h1,h2,h3,h4,h5,h6,h7⟩,h8⟩=>by
  obtain⟨q1,q2,q3,q4⟩:=Akg a b h8;have l1:=K3 (l:=a) (i:=p) (j:=c.1) h1 h2 zm;have l2:=K3 (l:=a) (i:=c.1) (j:=c.1+c.2.1) zm zm h4;have l3:=K3 (l:=b) (i:=c.2.2.1) (j:=c.2.2.1+c.2.2.2) h5 zm h7;refine⟨?_,?_,?_,fun x hx=>?_⟩
  ·rw[Mw,Ko,Ko,Ko,I9,I9,I9,q1,Ajv,l2]<;>grind
  ·rw[Mw,Ko,Ko,Ko,I9,I9,I9,q2,Aap,l3]<;>grind
  ·rw[Mw,Qa7,Qa7,Qa7,Qb7,Qb7,Qb7,Aap]<;>grind
  ·rw[Mw]at hx<;>grind [Aej]
def AkB:List AR→Int→Int
 |[],p=>p
 |c::r,_=>AkB r (c.1+c.2.1)
theorem Akc{m n:Int}:∀{q r:List AR} {p now k to:Int},Hl m n (q++r) p now k→0≤k→0≤p→0≤now→AkB q p≤to→to≤m→bdB m n q p to
 |[],_,_,_,_,_,_,_,h1,_,h2,h3=>⟨h1,h2,h3⟩
 |c::q,r,p,now,k,to,h,hk,h0,h1,h2,h3=>by
  have hb:=(EB hk h).2 c (Qa6 ..);obtain⟨⟨⟨a1,a2,a3⟩,a4,a5⟩,a6⟩:=h;exact⟨⟨h0,zm,a1,zm,zm,a2,zm⟩,Akc (q:=q) (r:=r) a6 zdz zm zm h2 h3⟩
theorem Aid{m n:Int}{l:List AR}(h:Hl m n l 0 0 0):∀i:Nat,∃p now k,0≤k∧0≤p∧0≤now∧Hl m n (l.drop i) p now k:=by
 have hb:=(EB (Qa0 0) h).2;intro i
 induction i with
 |zero=>grind
 |succ i ih=>
  obtain⟨p,now,k,h1,h2,h3,h4⟩:=ih
  by_cases hi:i<l.length
  ·have hbi:=hb _ (Be (d:=Ad) hi);rw[WJ hi]at h4
   obtain⟨_,h5⟩:=h4<;>grind
  grind [Qb0]
theorem Acq{l:List AR}:∀{q:List AR} {p:Int},q≠[]→AkB q p=(q.getLastD Ad).1+(q.getLastD Ad).2.1
 |[],_,h=>absurd rfl h
 |[c],_,_=>rfl
 |c::d::q,p,_=>by
  rw[AkB,Acq (l:=l) (q:=d::q) zsz];rfl
theorem AmU{l:List AR}{s t:Int}(h0:0≤s)(h1:s<t)(h2:t≤l.length)(p:Int):AkB (Ei l s t) p=(l.getD (t -1).toNat Ad).1+(l.getD (t -1).toNat Ad).2.1:=by
 have hl:=K3 (l:=l) h0 (Qe8 h1) h2
 have hne:Ei l s t≠[]:=fun e=>zg
 rw[Acq (l:=l) hne]
 have e:(Ei l s t).getLastD Ad=l.getD (t -1).toNat Ad:=by
  rw[List.getLastD_eq_getLast?,List.getLast?_eq_getElem?];unfold Ei;rw[List.getElem?_drop,Qe9,Qb9,Qa9];rw[Qc8 zm];rw[show s.toNat+(min t.toNat l.length -s.toNat -1)=(t -1).toNat by omega]
 rw[e]
theorem AoT{l:List AR}{m n s t ctx:Int}(h:Hl m n l 0 0 0)(h0:0≤s)(h1:s<t)(h2:t≤l.length)(hc:0≤ctx):bdB m n (Ei l s t) (hkF l s t m ctx).2.2.1.1 (hkF l s t m ctx).2.2.1.2:=by
 have hb:=(EB (Qa0 0) h).2;have hs:=hb _ (Be (d:=Ad) (show s.toNat<l.length by omega));have ht:=hb _ (Be (d:=Ad) (show(t -1).toNat<l.length by omega));obtain⟨p,now,k,k0,p0,n0,hd⟩:=Aid h s.toNat;have hsp:=Yr (l:=l) (Qe8 h1);have he:=AmU h0 h1 h2 p
 have hto:(hkF l s t m ctx).2.2.1.2=(l.getD (t -1).toNat Ad).1+(l.getD (t -1).toNat Ad).2.1+JE (m -(l.getD (t -1).toNat Ad).1 -(l.getD (t -1).toNat Ad).2.1) ctx:=rfl;have hfr:(hkF l s t m ctx).2.2.1.1=(l.getD s.toNat Ad).1 -JE (l.getD s.toNat Ad).1 ctx:=rfl
 have m1:0≤JE (m -(l.getD (t -1).toNat Ad).1 -(l.getD (t -1).toNat Ad).2.1) ctx∧JE (m -(l.getD (t -1).toNat Ad).1 -(l.getD (t -1).toNat Ad).2.1) ctx≤m -(l.getD (t -1).toNat Ad).1 -(l.getD (t -1).toNat Ad).2.1:=by unfold JE;omega
 have m2:0≤JE (l.getD s.toNat Ad).1 ctx∧JE (l.getD s.toNat Ad).1 ctx≤(l.getD s.toNat Ad).1:=by unfold JE;omega
 have key:=Akc (to:=(hkF l s t m ctx).2.2.1.2) (hsp▸hd) k0 p0 n0 zg zm
 have hcons:Ei l s t=l.getD s.toNat Ad::(Ei l s t).tail:=by
  have h3:(Ei l s t)[0]?=some (l.getD s.toNat Ad):=by
   unfold Ei;rw[List.getElem?_drop,Qc8 zm,Nat.add_zero,Qb2 zm,getD_eq zm]
  match Ei l s t,h3 with
  |c::q,h3=>grind
 rw[hcons]at key⊢;obtain⟨⟨b1,b2,b3,b4,b5,b6,b7⟩,b8⟩:=key;exact⟨⟨zm,zm,b3,b4,b5,b6,b7⟩,b8⟩
def pat(a b:List Bs)(l:List AR)(h:Og):A9:=(h.2.2.1.1,(h.2.2.2.1,Mw a b (Ei l h.1 h.2.1) h.2.2.1.1 h.2.2.1.2))
theorem AkX{a b:List Bs}{l:List AR}{ctx:Int}(h:Hl a.length b.length l 0 0 0)(hc:0≤ctx):∀{H:List Og} {s:Int},0≤s→s≤l.length→Rq l a.length ctx s H l.length→
  JA 45 (H.map (pat a b l))=Hn (l.drop s.toNat)∧JA 43 (H.map (pat a b l))=Gx (l.drop s.toNat)∧Li (H.map (pat a b l))≤a.length -(if s<l.length then(l.getD s.toNat Ad).1 -JE (l.getD s.toNat Ad).1 ctx else a.length)+Gx (l.drop s.toNat)∧∀p∈H.map (pat a b l),∀x∈p.2.2,x.2∈a∨x.2∈b
 |[],s,h0,h1,hk=>by
  have hk:s=l.length:=hk;rw[Qb0 zm,if_neg zm];exact⟨rfl,rfl,by show(0:Int)≤_+(0:Int);omega,fun p hp=>nomatch hp⟩
 |_::H,s,h0,h1,⟨t,k1,k2,k3,rfl,k4⟩=>by
  obtain⟨q1,q2,q3,q4⟩:=AkX h hc (H:=H) (s:=t) zm k2 k4;obtain⟨r1,r2,r3,r4⟩:=Akg a b (AoT h h0 k1 k2 hc);have hb:=(EB (Qa0 0) h).2;have hs:=hb _ (Be (d:=Ad) (show s.toNat<l.length by omega));have ht:=hb _ (Be (d:=Ad) (show(t -1).toNat<l.length by omega));have hsp:=Yr (l:=l) (Qe8 k1)
  have hpt:(pat a b l (hkF l s t a.length ctx)).2.2=Mw a b (Ei l s t) (hkF l s t a.length ctx).2.2.1.1 (hkF l s t a.length ctx).2.2.1.2:=rfl;rw[←hpt]at r1 r2 r3 r4;have hto:(hkF l s t a.length ctx).2.2.1.2=(l.getD (t -1).toNat Ad).1+(l.getD (t -1).toNat Ad).2.1+JE (a.length -(l.getD (t -1).toNat Ad).1 -(l.getD (t -1).toNat Ad).2.1) ctx:=rfl
  have hfr:(hkF l s t a.length ctx).2.2.1.1=(l.getD s.toNat Ad).1 -JE (l.getD s.toNat Ad).1 ctx:=rfl
  have m1:JE (a.length -(l.getD (t -1).toNat Ad).1 -(l.getD (t -1).toNat Ad).2.1) ctx≤ctx∧JE (a.length -(l.getD (t -1).toNat Ad).1 -(l.getD (t -1).toNat Ad).2.1) ctx≤a.length -(l.getD (t -1).toNat Ad).1 -(l.getD (t -1).toNat Ad).2.1:=by unfold JE;omega
  have m3:JE (l.getD t.toNat Ad).1 ctx≤ctx:=by unfold JE;omega
  rw[hsp,Al4,Al3];refine⟨?_,?_,?_,fun p hp=>?_⟩
  ·grind [JA,hkF,pat,G8,Mg]
  ·grind [JA,hkF,pat,G8,Mg]
  ·have:Li ((hkF l s t a.length ctx::H).map (pat a b l))=((pat a b l (hkF l s t a.length ctx)).2.2.length:Int)+Li (H.map (pat a b l)):=by rfl
   rw[this,r3,if_pos zm]
   by_cases htl:t<l.length<;>grind [AmY]
  ·rcases List.mem_cons.1 hp with rfl|hp<;>grind
def Ik(c:AR):Int×Int:=(c.2.1,c.2.2.2)
def Tv(P:Pg):Prop:=∀(h:Og) (l:List AR) (a b:List Bs),(0≤h.1∧h.1≤h.2.1∧h.2.1≤l.length)→l.length≤2000→a.length≤4096→b.length≤4096→bdB a.length b.length (Ei l h.1 h.2.1) h.2.2.1.1 h.2.2.1.2→Fn P AoB Dt (h,(l,(a,b))) fun(d:A9) _=>d=pat a b l h
def Wj(P:Pg):Prop:=∀(a b:List Int) (l:List AR),a.length≤4096→b.length≤4096→l.length≤10000→Hl a.length b.length l 0 0 0→Acx a b l 0 0→Fn P "mergelens/slide.Down" Jw (l,(a,b)) fun(d:List AR×Int) _=>d.2=0∧Hl a.length b.length d.1 0 0 0∧d.1.map Ik=l.map Ik
theorem Ajw{l m:List AR}(h:l.map Ik=m.map Ik):Hn l=Hn m∧Gx l=Gx m∧l.length=m.length:=by
 have e1:∀l:List AR,Hn l=((l.map Ik).map (·.1)).sum:=fun l=>by unfold Hn;rw[List.map_map];rfl
 have e2:∀l:List AR,Gx l=((l.map Ik).map (·.2)).sum:=fun l=>by unfold Gx;rw[List.map_map];rfl
 refine⟨zg,zg,?_⟩;have:=congrArg Qa4 h
 grind
theorem Al7{B:Nat}:∀{L:List PLn},(∀x∈L,x.2.length≤B)→szL L≤(40+B)*L.length
 |[],_=>Int.le_of_eq (by rfl)
 |x::L,h=>by
  rw[Yv,Qa3]
  have:=Al7 (L:=L) fun y hy=>h y (Qa2 _ hy)
  grind
theorem Al6{B:Nat}:∀{H:List A9},(∀p∈H,∀x∈p.2.2,x.2.length≤B)→szH H≤60*H.length+(40+B)*Li H
 |[],_=>Int.le_of_eq (by rfl)
 |p::H,h=>by
  have e2:Li (p::H)=p.2.2.length+Li H:=by rfl
  rw[Yu,Qa3,e2,Int.mul_add]
  have:=Al6 (H:=H) fun y hy=>h y (Qa2 _ hy)
  have:=Al7 (h p (Qa6 ..))
  grind
theorem Rq.at{l:List AR}{m ctx:Int}:∀{H:List Og} {s e:Int},0≤s→Rq l m ctx s H e→∀i:Nat,i<H.length→∃u t:Int,0≤u∧u<t∧t≤l.length∧H.getD i (0,(0,((0,0),(0,0))))=hkF l u t m ctx
 |[],_,_,_,_,i,hi=>absurd hi (Qd2 _)
 |h::H,s,e,h0,⟨t,k1,k2,_,k3,k4⟩,0,_=>⟨s,t,h0,k1,k2,k3⟩
 |h::H,s,e,h0,⟨t,k1,k2,_,k3,k4⟩,i+1,hi=>Rq.at (H:=H) zm k4 i zg
def Wo(P:Pg):Prop:=∀(A B:Bs) (ctx:Int) (down:Bool),DC A=0→DC B=0→(A.length≤3072∧(lnF A).length≤768)→(B.length≤3072∧(lnF B).length≤768)→(0≤ctx∧ctx≤3)→Fn P AoA FN (([111]:Bs),(([110]:Bs),(A,(B,(ctx,down))))) fun(d:Patch×Int) _=>
 d.2=0∧d.1.2.2.length≤1000000∧Li d.1.2.2≤1000000000∧JA 45 d.1.2.2=Hn (Gw A B)∧JA 43 d.1.2.2=Gx (Gw A B)
theorem AlY(h:Hq P HB)(hN:Hq P GS)(hT:JL P)(hI:Aaw P)(hS:Pu P)(hD:Wj P)(hG:Wg P)(hB:Tv P)(hZ:Wp P):Wo P:=by
 intro A B ctx down cA cB ⟨zA,nA⟩ ⟨zB,nB⟩ hc;refine Vs h ?_;unfold OB;dsimp only;refine MH hN ?_;unfold Jk;refine Ac.mid (fun d=>d=true) ⟨fun _=>?_,fun k=>(nomatch k),trivial⟩ ?_
 ·grind [MH,Jk]
 rintro d rfl;refine⟨fun k=>(nomatch k),fun _=>?_⟩;refine(hT A zm).to ?_;rintro(d:List Bs×Int) _ hd
 have hd:d=if DC A=0 then(lnF A,0)else([],1):=hd
 rw[if_pos cA]at hd;subst hd;refine⟨fun hb=>absurd hb zsz,fun _=>?_⟩;refine(hT B zm).to ?_;rintro(d:List Bs×Int) _ hd
 have hd:d=if DC B=0 then(lnF B,0)else([],1):=hd
 rw[if_pos cB]at hd;subst hd;refine⟨fun hb=>absurd hb zsz,fun _=>?_⟩;obtain⟨la,sa⟩:=TJ cA;obtain⟨lb,sb⟩:=TJ cB;refine(hI [lnF A,lnF B] zsz fun l hl=>?_).to ?_
 ·grind
 rintro(d:List (List Int)) _ ⟨f,hf,hd⟩;have hd:d=[(lnF A).map f,(lnF B).map f]:=hd;subst hd
 have hmap:Dk ((lnF A).map f) ((lnF B).map f) 0 0=Dk (lnF A) (lnF B) 0 0:=AhU f _ _ _ 0 0 (Qb1 _) fun u hu v hv e=>hf u zg v zg e
 have hsc:Gw A B=AnW ((lnF A).map f) ((lnF B).map f):=by
  unfold AnW;rw[hmap,Qb7,Qb7];rfl
 obtain⟨hck,hft⟩:=Ap7 ((lnF A).map f) ((lnF B).map f);rw[←hsc]at hck hft
 have hsl:(Gw A B).length≤2000:=by
  have h1:=XI (m:=((lnF A).length:Nat)) (n:=((lnF B).length:Nat)) (Dk (lnF A) (lnF B) 0 0) 0 0;have hasc:=V9 _ (lnF A) (lnF B) 0 0 (Qb1 _);rw[Qc0,Qc0]at hasc;have hle:=VP hasc (Qa1 _) (Qa1 _)
  grind [Gw,Dk,lnF]
 generalize hX:(lnF A).map f=X at*;generalize hY:(lnF B).map f=Y at*
 have lX:X.length=(lnF A).length:=zg
 have lY:Y.length=(lnF B).length:=zg
 refine Ac.mid (fun d=>d=Gw A B) ?_ ?_
 ·refine⟨zsz,zsz,zsz,zsz,⟨zsz,zsz,(hS (X,Y) zg zg).to ?_⟩,trivial⟩;simp_all [AR,Gw]
 rintro _ rfl;refine Ac.mid (fun l=>Hl X.length Y.length l 0 0 0∧l.map Ik=(Gw A B).map Ik) ⟨fun _=>?_,fun _=>⟨hck,rfl⟩⟩ ?_
 ·refine Ac.mid (fun l=>Hl X.length Y.length l 0 0 0∧l.map Ik=(Gw A B).map Ik) ⟨zsz,zsz,zsz,zsz,⟨zsz,zsz,(hD X Y (Gw A B) zm zm zm hck hft).to ?_⟩,trivial⟩ fun l hl=>hl<;>grind
 rintro(l:List AR) ⟨hl1,hl2⟩;obtain⟨s1,s2,s3⟩:=Ajw hl2;rw[lX,lY]at hl1;refine(hG l ((lnF A).length:Nat) ((lnF B).length:Nat) ctx zm ⟨Qa1 _,zm⟩ ⟨Qa1 _,zm⟩ ⟨hc.1,zm⟩ hl1).to ?_;rintro⟨(H:List Og),(e:Int)⟩ _ ⟨he,hHl,hHk⟩;dsimp only at he hHl hHk⊢;subst he;refine⟨fun k=>(nomatch k),fun _=>?_⟩
 obtain⟨q1,q2,q3,q4⟩:=AkX hl1 hc.1 (Qa0 0) (Qa1 _) hHk
 have hq3:Li (H.map (pat (lnF A) (lnF B) l))≤(lnF A).length+(lnF B).length:=by
  have hN:Gx (l.drop (0:Int).toNat)≤(lnF B).length:=by
   grind [Gx,V6]
  have:0≤(if(0:Int)<l.length then(l.getD (0:Int).toNat Ad).1 -JE (l.getD (0:Int).toNat Ad).1 ctx else((lnF A).length:Int)):=by
   split
   ·have hb:=(EB (Qa0 0) hl1).2 _ (Be (d:=Ad) (show(0:Int).toNat<l.length by omega))
    have:JE (l.getD (0:Int).toNat Ad).1 ctx≤(l.getD (0:Int).toNat Ad).1:=by grind [JE]
    omega
   grind
  omega
 have htx:∀p∈H.map (pat (lnF A) (lnF B) l),∀x∈p.2.2,x.2.length≤3072:=fun p hp x hx=>by
  rcases q4 p hp x hx with k|k
  ·have:=Abg k;omega
  ·have:=Abg k;omega
 have hsz:=Al6 htx;have q1:JA 45 (H.map (pat (lnF A) (lnF B) l))=Hn l:=q1;have q2:JA 43 (H.map (pat (lnF A) (lnF B) l))=Gx l:=q2;rw[Qb7]at hsz
 have hl0:0≤Li (H.map (pat (lnF A) (lnF B) l)):=by have:=VU 0 (H.map (pat (lnF A) (lnF B) l));omega
 refine Ac.mid (fun p=>p=(([111]:Bs),(([110]:Bs),H.map (pat (lnF A) (lnF B) l)))) ?_ ?_
 ·refine AJ.of (fun q=>(0≤q.1∧q.1≤H.length)∧q.2=(([111]:Bs),(([110]:Bs),(H.take q.1.toNat).map (pat (lnF A) (lnF B) l)))) (fun q=>(H.length -q.1).toNat) ⟨⟨Qa0 _,Qa1 _⟩,rfl⟩ ?_;rintro⟨i,p⟩ ⟨⟨i0,i1⟩,hp⟩;dsimp only at i0 i1 hp⊢;subst hp;refine⟨fun hi=>?_,fun hi=>?_⟩
  ·have hi:=of_decide_eq_true hi
   have hi2:i.toNat<H.length:=zm
   have ht:=H6 (d:=Aey) hi2;obtain⟨u,t,u0,u1,u2,hu⟩:=Rq.at (Qa0 0) hHk i.toNat hi2;have hu:H.getD i.toNat Aey=hkF l u t ((lnF A).length:Nat) ctx:=hu;have hbd:=AoT hl1 u0 u1 u2 hc.1;refine Ac.mid (fun p=>p=(([111]:Bs),(([110]:Bs),(H.take (i.toNat+1)).map (pat (lnF A) (lnF B) l)))) ⟨⟨i0,hi⟩,hi2,?_⟩ ?_
   ·have key:Fn P AoB Dt (H.getD i.toNat Aey,(l,(lnF A,lnF B))) fun(d:A9) _=>((((H.take i.toNat).map (pat (lnF A) (lnF B) l)).length+([d]:List A9).length)*40≤140737488355328)∧(([111]:Bs),(([110]:Bs),(H.take i.toNat).map (pat (lnF A) (lnF B) l)++[d]))=(([111]:Bs),(([110]:Bs),(H.take (i.toNat+1)).map (pat (lnF A) (lnF B) l))):=by
     rw[hu]
     refine(hB (hkF l u t ((lnF A).length:Nat) ctx) l (lnF A) (lnF B) ⟨u0,Qe8 u1,u2⟩ zm zm zm hbd).to ?_<;>grind
    refine Ac.mid (fun p=>p=(([111]:Bs),(([110]:Bs),(H.take (i.toNat+1)).map (pat (lnF A) (lnF B) l)))) ⟨⟨key.to fun d _ hd=>?_,trivial⟩,key.to fun d _ hd=>?_,trivial⟩ fun p hp=>hp<;>grind
   grind [w64]
  grind [of_decide_eq_false,Qa5]
 rintro _ rfl
 refine(hZ (H.map (pat (lnF A) (lnF B) l)) ?_).to ?_<;>grind
def mvC(c:AR):AR:=(c.1+1,(c.2.1,(c.2.2.1+1,c.2.2.2)))
def Wb(m:Int)(l:List AR)(i:Nat)(c:AR):Prop:=(∀d,l[i+1]?=some d→2≤d.1 -(c.1+c.2.1))∧(l[i+1]?=none→1≤m -(c.1+c.2.1))
theorem AaQ{m n:Int}{c:AR}:∀{l:List AR} {old now k:Int} (i:Nat),Hl m n l old now k→l[i]?=some c→Wb m l i c→Hl m n (l.set i (mvC c)) old now k
 |[],_,_,_,_,_,h,_=>nomatch h
 |d::r,old,now,k,0,h,hc,hr=>by
  obtain rfl:d=c:=zg
  obtain⟨⟨⟨h1,h2,h3⟩,h4,h5⟩,h6⟩:=h;obtain⟨g1,g2⟩:=hr;refine⟨⟨⟨h1,h2,h3⟩,?_,?_⟩,?_⟩
  ·show d.1+1 -old=d.2.2.1+1 -now;omega
  ·show k≤d.1+1 -old;omega
  ·show Hl m n r (d.1+1+d.2.1) (d.2.2.1+1+d.2.2.2) 1
   match r,h6,g1,g2 with
   |[],h6,_,g2=>
    have:=g2 rfl;obtain⟨q1,q2⟩:=h6;exact⟨zm,zm⟩
   |e::r,h6,g1,_=>
    have:=g1 e rfl;obtain⟨⟨q1,q2,q3⟩,q4⟩:=h6;exact⟨⟨q1,zm,zm⟩,q4⟩
 |d::r,old,now,k,i+1,h,hc,hr=>⟨h.1,AaQ i h.2 zg ⟨fun e he=>hr.1 e zg,fun he=>hr.2 zg⟩⟩
theorem Akw{m n:Int}{c:AR}{l:List AR}{i:Nat}(h:Hl m n l 0 0 0)(hc:l[i]?=some c)(hr:Wb m l i c):(0≤c.1∧c.1+c.2.1<m)∧(0≤c.2.2.1∧c.2.2.1+c.2.2.2<n)∧0≤c.2.1∧0≤c.2.2.2:=by
 have hl:=(List.getElem?_eq_some_iff.1 hc).1;have h1:=(EB (Qa0 0) (AaQ i h hc hr)).2 (mvC c) (Qd4 (i:=i) zg);have h2:=(EB (Qa0 0) h).2 c (Qd4 hc)
 grind [mvC]
theorem Akx{c:AR}{l:List AR}{i:Nat}(hc:l[i]?=some c):(l.set i (mvC c)).map Ik=l.map Ik:=by
 refine List.ext_getElem? fun j=>?_
 rw[List.getElem?_map,List.getElem?_map,List.getElem?_set];split
 ·rename_i hj;subst hj;rw[if_pos (List.getElem?_eq_some_iff.1 hc).1,hc];rfl
 ·rfl
def Vh(a b:List Int)(r:Nat)(j:Int)(w:List Int):Prop:=w.length=b.length+1∧∀c:Nat,j<(c:Int)→c≤b.length→w.getD c 0=((EK (a.drop r) (b.drop c):Nat):Int)
def P0(a b:List Int)(i:Int)(D:List (List Int)):Prop:=D.length=a.length+1∧∀r:Nat,i<(r:Int)→r≤a.length→Vh a b r (-1) (D.getD r [])
theorem AhP{a b:List Int}{i:Int}{D:List (List Int)}(h:P0 a b i D){k:Nat}(hk:(k:Int)≤i)(w:List Int):P0 a b i (D.set k w):=by
 refine⟨by rw[Qf2];exact h.1,fun r h1 h2=>?_⟩
 rw[Qa9,List.getElem?_set_ne zm,←Qa9];exact h.2 r h1 h2
theorem AlF{D:List (List Int)}{k:Nat}(hk:k<D.length)(w:List Int):(D.set k w).getD k []=w:=by
 grind
theorem AnP{a b:List Int}{r:Nat}{j:Int}{w:List Int}(h:Vh a b r j w)(j0:0≤j)(j1:j≤b.length){v:Int}(hv:v=((EK (a.drop r) (b.drop j.toNat):Nat):Int)):Vh a b r (j -1) (w.set j.toNat v):=by
 refine⟨by rw[Qf2];exact h.1,fun c h1 h2=>?_⟩
 rw[FU (by rw[h.1];omega)]
 by_cases e:j.toNat=c
 ·grind
 ·rw[if_neg e];exact h.2 c zm h2
theorem Aku(a b:List Int)(i j:Nat):EK (a.drop i) (b.drop j)≤a.length+b.length:=by
 have h:=Akv _ (a.drop i) (b.drop j) (Qb1 _)
 grind
theorem Ag4{α:Type}{l:List α}{k:Nat}{d:α}(h:k<l.length):l.drop k=l.getD k d::l.drop (k+1):=by simp_all
def Ts(P:Pg):Prop:=∀x:List Int×List Int,x.1.length≤4096→x.2.length≤4096→Fn P AoD GC x fun(d:List (List Int)) _=>P0 x.1 x.2 (-1) d
theorem Ajh(h:Hq P II):Ts P:=by
 rintro⟨a,b⟩ ha hb;dsimp only at ha hb;refine Xa h ?_;unfold Qi;dsimp only;rw[w64 (n:=((a.length:Nat):Int)+1) zm zm,w64 (n:=((b.length:Nat):Int)+1) zm zm];refine⟨⟨zm,zm,zm⟩,?_⟩
 refine Ac.mid (fun D=>P0 a b (-1) D) ?_ fun _ h=>h
 refine AJ.of (fun q=>(-1≤q.2∧q.2≤a.length)∧P0 a b q.2 q.1) (fun q=>(q.2+1).toNat) ⟨⟨zg,Qa0 _⟩,⟨zg,fun r h1 h2=>zg⟩⟩ ?_;rintro⟨D,i⟩ ⟨⟨i0,i1⟩,hD⟩;dsimp only at i0 i1 hD⊢;refine⟨fun hi=>?_,fun hi=>?_⟩
 ·have hi:i≥0:=of_decide_eq_true hi;have hDl:=hD.1
  have hi2:i.toNat<D.length:=zm
  refine Ac.mid (fun E=>P0 a b (i -1) E) ⟨⟨zm,zm,zm⟩,⟨hi,zm⟩,hi2,?_⟩ fun E hE=>by
   grind [w64]
  refine Ac.mid (fun E=>P0 a b (i -1) E) ?_ fun _ h=>h
  refine AJ.of (fun q=>(-1≤q.2∧q.2≤b.length)∧P0 a b i q.1∧Vh a b i.toNat q.2 (q.1.getD i.toNat [])) (fun q=>(q.2+1).toNat) ⟨⟨zg,Qa0 _⟩,AhP hD zm _,?_⟩ ?_
  ·dsimp only;rw[AlF hi2];exact⟨zg,fun c h1 h2=>zm⟩
  rintro⟨E,j⟩ ⟨⟨j0,j1⟩,hE,hR⟩;dsimp only at j0 j1 hE hR⊢;refine⟨fun hj=>?_,fun hj=>?_⟩
  ·have hj:j≥0:=of_decide_eq_true hj;have hEl:=hE.1;have hRl:=hR.1
   have hi3:i.toNat<E.length:=zm
   have hj3:j.toNat<(E.getD i.toNat []).length:=zm
   have bi:0≤i∧i<((E.length:Nat):Int):=zm
   have bj:0≤j∧j<(((E.getD i.toNat []).length:Nat):Int):=zm
   have key:∀v:Int,v=((EK (a.drop i.toNat) (b.drop j.toNat):Nat):Int)→P0 a b i (E.set i.toNat ((E.getD i.toNat []).set j.toNat v))∧Vh a b i.toNat (j -1) ((E.set i.toNat ((E.getD i.toNat []).set j.toNat v)).getD i.toNat []):=fun v hv=>⟨AhP hE zm _,by grind [AlF,AnP]⟩
   refine Ac.mid (fun M=>P0 a b i M∧Vh a b i.toNat (j -1) (M.getD i.toNat [])) ?_ fun M hM=>by
    grind [w64]
   refine Ac.mid (fun M=>P0 a b i M∧Vh a b i.toNat (j -1) (M.getD i.toNat [])) ?_ fun _ h=>h
   refine Ac.mid (fun M=>P0 a b i M∧Vh a b i.toNat (j -1) (M.getD i.toNat [])) ⟨fun hc=>⟨bi,hi3,hi3,bj,hi3,hj3,key _ ?_⟩,fun hc=>?_⟩ fun _ h=>h
   ·grind [w64,Qf4,LK,Qe9]
   have hc:i≠((a.length:Nat):Int):=zg
   refine Ac.mid (fun M=>P0 a b i M∧Vh a b i.toNat (j -1) (M.getD i.toNat [])) ⟨fun hc2=>⟨bi,hi3,hi3,bj,hi3,hj3,key _ ?_⟩,fun hc2=>?_⟩ fun _ h=>h
   ·grind [w64,Qf4,OM,Qe9]
   have hc2:j≠((b.length:Nat):Int):=zg
   have ai:i.toNat<a.length:=zm
   have bj2:j.toNat<b.length:=zm
   refine Ac.mid (fun e=>e=(a.getD i.toNat 0==b.getD j.toNat 0)) ⟨⟨hi,zm⟩,ai,⟨hj,zm⟩,bj2,rfl,trivial⟩ ?_;rintro e rfl;have hn1:=hE.2 (i.toNat+1) zm zm;have hn1l:=hn1.1
   have ei:(i+1).toNat=i.toNat+1:=zm
   have ej:(j+1).toNat=j.toNat+1:=zm
   have da:=Ag4 (d:=(0:Int)) ai;have db:=Ag4 (d:=(0:Int)) bj2;rw[w64 (n:=i+1) zm zm,w64 (n:=j+1) zm zm,ei,ej]
   refine Ac.mid (fun M=>P0 a b i M∧Vh a b i.toNat (j -1) (M.getD i.toNat [])) ⟨fun hq=>?_,fun hq=>?_⟩ fun _ h=>h
   ·have hq:=eq_of_beq hq
    refine Ac.mid (fun M=>P0 a b i M∧Vh a b i.toNat (j -1) (M.getD i.toNat [])) ⟨bi,hi3,⟨zm,zm⟩,zm,zm,⟨zm,zg⟩,zm,zg,hi3,bj,⟨hi3,hj3,key _ ?_⟩,trivial⟩ fun _ h=>h
    rw[hn1.2 (j.toNat+1) zm zm,da,db,WL hq]
   ·have hq:=beq_eq_false_iff_ne.1 hq;have v1:=hR.2 (j.toNat+1) zm zm;have v2:=hn1.2 j.toNat zm zm;have b1:=Aku a b i.toNat (j.toNat+1);have b2:=Aku a b (i.toNat+1) j.toNat
    refine Ac.mid (fun M=>P0 a b i M∧Vh a b i.toNat (j -1) (M.getD i.toNat [])) ⟨bi,hi3,⟨zm,zm⟩,zm,zm,⟨hj,zg⟩,zm,zg,bi,hi3,hi3,⟨zm,zm⟩,hi3,zm,hi3,bj,⟨hi3,hj3,key _ ?_⟩,trivial⟩ fun _ h=>h
    grind [EK,WM,w64]
  ·have hj:=of_decide_eq_false hj;refine⟨hE.1,fun r h1 h2=>?_⟩
   by_cases e:r=i.toNat
   ·grind
   ·exact hE.2 r zm h2
 grind
def AgQ(g:List Al)(c:Int)(d:List (List BF)×Int):Prop:=∃e,Gy g e∧(e≠0→d=([],e))∧(e=0→¬inR g c→d=([],5))∧(e=0→inR g c→Ao3 g c d.1∧d.2=0)
def Tq(P:Pg):Prop:=∀x:List Al×Int,Yq x.1→Fn P Aoq E6 x fun(d:List (List BF)×Int) _=>AgQ x.1 x.2 d
theorem Ajg(h:Hq P GO)(hC:Na P)(hO:AjQ P):Tq P:=by
 intro x hs;refine TQ h ?_;unfold NR;refine(hC x hs).to ?_;rintro(d:Int) _ ⟨e,he,h1,h2⟩
 by_cases hk:e=0
 ·subst hk
  by_cases hc:inR x.1 x.2
  ·have hd:=(h2 rfl).1 hc;subst hd;have k:=E0 he;refine⟨fun hb=>absurd hb zsz,fun hb=>(hO x hc (HZ k.2.1) (PH k.1 _ hc) (fun t ht=>(PW he hs hc t ht).2) (ME he hs hc).2).to ?_⟩;rintro(d:List (List BF)) _ hd;exact⟨0,he,fun h=>absurd rfl h,fun _ h=>absurd hc h,fun _ _=>⟨hd,rfl⟩⟩
  ·have hd:=(h2 rfl).2 hc;subst hd;exact⟨fun hb=>⟨0,he,fun h=>absurd rfl h,fun _ _=>rfl,fun _ h=>absurd h hc⟩,fun hb=>absurd hb zsz⟩
 ·have hd:=h1 hk;subst hd;exact⟨fun hb=>⟨_,he,fun _=>rfl,fun h=>absurd h hk,fun h=>absurd h hk⟩,fun hb=>absurd hb zg⟩
theorem Oo.at(h:Oo P){a b:Bs}(ha:a.length≤140737488351232)(hb:b.length≤140737488351232){K:Int×(Int×Int)→Unit→Prop}(hk:K (YO a b) ()):Fn P Amq Ga (a,b) K:=
 (h (a,b) ha hb).to fun(d:Int×(Int×Int)) _ hd=>by
  have hd:d=YO a b:=hd;rw[hd];exact hk
theorem Ol.at(h:Ol P){a b:Bs}(ha:DC a=0)(hb:DC b=0)(la:a.length≤140737488351232)(lb:b.length≤140737488351232){K:List AR×Int→Unit→Prop}(hk:K (Gw a b,0) ()):Fn P Amo DO (a,b) K:=
 (h (a,b) la lb).to fun(d:List AR×Int) _ hd=>by
  have hd:d=if DC a=0∧DC b=0 then(Gw a b,0)else([],1):=hd
  rw[hd,if_pos ⟨ha,hb⟩];exact hk
theorem TP:∀{l:List Av},Gp l→∀p,(findF l p).1.length≤140737488351232
 |[],_,p=>by grind [findF]
 |f::l,h,p=>by
  unfold findF;split
  ·exact(h.2 f (Qa6 ..)).2
  ·exact TP (l:=l) ⟨by have:=h.1;grind,fun x hx=>h.2 x (Qa2 _ hx)⟩ p
def stF(a b:List Av)(t:BF):Stat:=(t.1,((YO (findF a t.1).1 (findF b t.1).1).1,(YO (findF a t.1).1 (findF b t.1).1).2.1))
def AgR(a b:List Av)(d:List Stat×Int):Prop:=∃D:List BF×Int,LW a b D∧d=if D.2=0 then(D.1.map (stF a b),0)else([],D.2)
def Tt(P:Pg):Prop:=∀x:List Av×List Av,Gp x.1→Gp x.2→Fn P AjG Em x fun(d:List Stat×Int) _=>AgR x.1 x.2 d
theorem Aji(h:Hq P Jv)(hT:Mo P)(hF:Mp P)(hC:Oo P):Tt P:=by
 rintro⟨a,b⟩ ha hb;dsimp only at ha hb;refine YY h ?_;unfold RE;refine(hT (a,b) ha hb).to ?_;rintro(d:List BF×Int) _ hd;have hd:LW a b d:=hd;have hdl:=Afj hd;have ha1:=ha.1;have hb1:=hb.1;refine⟨fun hc=>⟨d,hd,zg⟩,fun hc=>?_⟩
 have h0:d.2=0:=zg
 refine Ac.mid (fun o=>o=d.1.map (stF a b)) ?_ fun o ho=>⟨d,hd,zg⟩
 refine AJ.of (fun q=>(0≤q.2∧q.2≤d.1.length)∧q.1=(d.1.take q.2.toNat).map (stF a b)) (fun q=>(d.1.length -q.2).toNat) ⟨⟨Qa0 _,Qa1 _⟩,rfl⟩ ?_;rintro⟨o,i⟩ ⟨⟨i0,i1⟩,ho⟩;dsimp only at i0 i1 ho⊢;refine⟨fun hi=>?_,fun hi=>?_⟩
 ·have hi:=of_decide_eq_true hi
  have hi2:i.toNat<d.1.length:=zm
  have hol:o.length=i.toNat:=zg
  refine Ac.mid (fun o=>o=(d.1.take (i.toNat+1)).map (stF a b)) ⟨⟨i0,hi⟩,hi2,hF.at ha1 (hF.at hb1 (hC.at (TP ha _) (TP hb _) ⟨zg,?_⟩))⟩ fun o2 ho2=>by
   grind [w64]
  rw[Aep (d:=(([],0):BF)) hi2,Qb5,ho];rfl
 grind [of_decide_eq_false,Qa5]
def AoH(g:List Al)(c:Int)(d:List Stat×Int):Prop:=∃e,Gy g e∧(e≠0→d=([],e))∧(e=0→¬inR g c→d=([],5))∧(e=0→inR g c→AgR ((Cx g c).getD 0 []) (D4 g c) d)
def QH(P:Pg):Prop:=∀x:List Al×Int,Yq x.1→Fn P Aot GF x fun(d:List Stat×Int) _=>AoH x.1 x.2 d
theorem Agu(h:Hq P IM)(hI:Hq P Mi)(hD:I5 P)(hP:Kf P)(hT:Tt P):QH P:=by
 rintro⟨g,c⟩ hs;dsimp only at hs;refine Xe h ?_;unfold Qm;dsimp only;refine(hD g hs).to ?_;rintro(e:Int) _ he;have he:Gy g e:=he;refine⟨fun hb=>?_,fun hb=>?_⟩
 ·have hne:e≠0:=by grind
  exact⟨e,he,fun _=>rfl,fun h=>absurd h hne,fun h=>absurd h hne⟩
 have h0:e=0:=zg
 subst h0;refine TU hI ?_;unfold Rx;dsimp only;have hi:=Ak1 g c;refine⟨fun hb=>?_,fun hb=>?_⟩
 ·have hno:¬inR g c:=fun k=>by grind
  exact⟨0,he,fun h=>absurd rfl h,fun _ _=>rfl,fun _ h=>absurd h hno⟩
 have hc:inR g c:=hi.1 zg
 have hc2:c.toNat<g.length:=zg
 have hz:=E0 he;have hlen:=NK (PH hz.1 _ hc);simp only[and_true,and_self]
 have key:∀J:List Stat×Int→Prop,(∀d,AgR ((Cx g c).getD 0 []) (D4 g c) d→J d)→Fn P zS4 Bh (g,c) fun(d:List (List Av)) _=>((0:Int)≤0∧(0:Int)<((d.length:Nat):Int))∧(Qb3 0<d.length)∧(c.toNat<g.length)∧Fn P AjG Em (d.getD (Qb3 0) [],(g.getD c.toNat Am).2.2) fun(d:List Stat×Int) _=>J d:=fun J hJ=>by
  refine(hP (g,c) hc (HZ hz.2.1) (PH hz.1 _ hc)).to ?_;rintro(d:List (List Av)) _ hd;have hd:d=Cx g c:=hd;subst hd
  refine⟨⟨Qa0 _,zm⟩,hlen.2,hc2,(hT ((Cx g c).getD 0 [],D4 g c) (PW he hs hc _ (Be hlen.2)).2 (ME he hs hc).2).to ?_⟩<;>grind
 refine Ac.mid (fun d=>AgR ((Cx g c).getD 0 []) (D4 g c) d) ⟨⟨hc.1,hc.2⟩,(key _ fun d hd=>hd),hc2,(key _ fun d hd=>hd).to ?_⟩ fun d hd=>⟨0,he,fun h=>absurd rfl h,fun _ h=>absurd hc h,fun _ _=>hd⟩
 rintro(d:List (List Av)) _ ⟨h1,h2,_,h3⟩;trivial
def Ao4(g:List Al)(c p:Int)(w:Bs)(d:Bs×(Bs×Int)):Prop:=∃e,Gy g e∧(e≠0→d=([],([],e)))∧(e=0→¬inR g c→d=([],([],5)))∧(e=0→inR g c→(0≤p∧p<((Cx g c).length:Int)→d=((findF ((Cx g c).getD p.toNat []) w).1,((findF (D4 g c) w).1,0)))∧(¬(0≤p∧p<((Cx g c).length:Int))→d=([],([],3))))
def Wi(P:Pg):Prop:=∀x:List Al×(Int×(Int×Bs)),Yq x.1→Fn P Aor FG x fun(d:Bs×(Bs×Int)) _=>Ao4 x.1 x.2.1 x.2.2.1 x.2.2.2 d
theorem AlT(h:Hq P Hs)(hC:Na P)(hP:Kf P)(hF:Mp P):Wi P:=by
 rintro⟨g,c,p,w⟩ hs;dsimp only at hs;refine Vm h ?_;unfold Ov;dsimp only;refine(hC (g,c) hs).to ?_;rintro(d:Int) _ ⟨e,he,h1,h2⟩
 by_cases hk:e=0
 ·subst hk
  by_cases hc:inR g c
  ·have hd:=(h2 rfl).1 hc;subst hd;have k:=E0 he;refine⟨fun hb=>absurd hb zsz,fun hb=>(hP (g,c) hc (HZ k.2.1) (PH k.1 _ hc)).to ?_⟩;rintro(T:List (List Av)) _ hT;have hT:T=Cx g c:=hT;subst hT;have ho:=Ahu p (Cx g c).length;refine⟨fun hb=>⟨0,he,fun h=>absurd rfl h,fun _ h=>absurd hc h,fun _ _=>⟨fun hp=>?_,fun _=>rfl⟩⟩,fun hb=>?_⟩
   ·grind
   ·have hp:=ho.1 hb
    have hp2:p.toNat<(Cx g c).length:=zm
    refine⟨hp,hp2,hF.at (PW he hs hc _ (Be hp2)).2.1 ⟨⟨hc.1,hc.2⟩,by have:=hc.1;have:=hc.2;omega,?_⟩⟩
    exact hF.at (ME he hs hc).2.1 ⟨0,he,fun h=>absurd rfl h,fun _ h=>absurd hc h,fun _ _=>⟨fun _=>rfl,fun h=>absurd hp h⟩⟩
  ·have hd:=(h2 rfl).2 hc;subst hd;exact⟨fun hb=>⟨0,he,fun h=>absurd rfl h,fun _ _=>rfl,fun _ h=>absurd h hc⟩,fun hb=>absurd hb zsz⟩
 ·have hd:=h1 hk;subst hd;exact⟨fun hb=>⟨_,he,fun _=>rfl,fun h=>absurd h hk,fun h=>absurd h hk⟩,fun hb=>absurd hb zg⟩
end Go.VS
