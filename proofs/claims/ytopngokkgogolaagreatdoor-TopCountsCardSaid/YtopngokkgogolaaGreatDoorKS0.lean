/- Contracts of the functions. -/
import Derived.Test.YtopngokkgogolaaGreatDoorFwD
import Derived.IntWalk
import Derived.Test.YtopngokkgogolaaGreatDoorKGf0
import Derived.Test.YtopngokkgogolaaGreatDoorKGf1
import Derived.Test.YtopngokkgogolaaGreatDoorKGf2
import Derived.Lib.ItoaNum
import Derived.KernelRfl
set_option linter.unusedVariables false
set_option linter.unusedSimpArgs false
set_option linter.unusedSectionVars false
open List renaming getD_eq_getElem?_getD → Qa0, length_cons → Qa1, length_append → Qa2, getElem?_eq_getElem → Qa4, length_nil → Qa5, mem_cons_self → Qa6, length → Qa7, mem_cons_of_mem → Qa8, length_take → Qa9, take_of_length_le → Qb0, length_map → Qb2, count_append → Qb3, nodup_iff_pairwise_ne → Qb4, map_append → Qb6, length_singleton → Qc0, drop_eq_getElem_cons → Qc1, length_set → Qc2, pairwise_map → Qc4, count_le_length → Qc5, getElem?_of_mem → Qc6, pairwise_iff_getElem → Qc7, filter_cons_of_neg → Qc9, filter_cons_of_pos → Qd0, map_cons → Qd1, take → Qd2, mem_append → Qd3, take_append_of_le_length → Qd5, take_add_one → Qd6, nodup_append → Qd7, count_cons_self → Qd9, sum_cons → Qe1, append_nil → Qe2, mem_filter → Qe3, length_filterMap_le → Qe4, mem_singleton → Qe5, replicate → Qe6, range → Qe7, drop_of_length_le → Qe8, cons_append → Qf0, take_succ_eq_append_getElem → Qf1, count_cons_of_ne → Qf2, take_append_drop → Qf3, mem_of_mem_take → Qf5, getD → Qf8, drop → Qf9, isSuffixOf_iff_suffix → Qg0, any_eq_false → Qg2, getElem?_append_left → Qg3, count_singleton_self → Qg4, all_eq_true → Qg5, length_erase_of_mem → Qg6, take_length → Qg7, getElem?_take_of_lt → Qg8, getElem?_replicate → Qg9, nodup_nil → Qh2, drop_eq_nil_iff → Qh3, mem_erase_of_ne → Qh4, count_singleton → Qh5, Perm → Qh7
open Int renaming le_refl → Qa3, natCast_nonneg → Qb1, toNat → Qb7, tmod_eq_emod_of_nonneg → Qe0, fdiv → Qf7
open BitVec renaming ofInt → Qb5, toNat → Qd8
open Nat renaming le_trans → Qb8, le_refl → Qd4, zero_le → Qe9, pow_le_pow_right → Qf6, not_lt_zero → Qh0
open Option renaming getD_some → Qb9, isSome_some → Qh6
open Bool renaming and_eq_true → Qc3, cond_eq_ite → Qc8, or_eq_true → Qf4, eq_false_iff → Qg1
open Option.some renaming inj → Qh1
namespace Go.VS
theorem Ah.of{D:Type}{body:(D→Prop)→Prop}{rest:D→Prop}(h:body rest):Ah body rest:=⟨rest,h,fun _ h=>h⟩
theorem Ah.mid{D:Type}{body:(D→Prop)→Prop}{rest:D→Prop}(J:D→Prop)(h:body J)(h2:∀d,J d→rest d):Ah body rest:=⟨J,h,h2⟩
theorem A4.of{D:Type}{x:D}{body:D→(D→Prop)→Prop}(I:D→Prop)(m:D→Nat)(h0:I x)(hs:∀d,I d→body d fun d'=>I d'∧m d'<m d):A4 x body:=by
 refine⟨fun n d=>I d∧m d=n,⟨_,h0,rfl⟩,?_⟩;rintro n d ⟨hI,rfl⟩
 have:(fun d'=>∃k,k<m d∧I d'∧m d'=k)=fun d'=>I d'∧m d'<m d:=by
  funext d'
  exact propext ⟨fun⟨k,h1,h2,h3⟩=>⟨h2,by omega⟩,fun⟨h1,h2⟩=>⟨_,h2,h1,rfl⟩⟩
 rw[this];exact hs d hI
theorem Fn.to{P:Pg}{nm:String}{S:Sig}{x:DP S.ps}{K K':DP S.rs→DP (ptrs S.ps)→Prop}(h:Fn P nm S x K)(hk:∀d e,K d e→K' d e):Fn P nm S x K':=h.mono hk
theorem w64{n:Int}(h1:-9223372036854775808≤n)(h2:n≤9223372036854775807):IntKind.i64.wrap n=n:=by rw[IntKind.wrap_i64];omega
theorem AnZ{n:Int}(h1:0≤n)(h2:n≤18446744073709551615):IntKind.u64.wrap n=n:=by rw[IntKind.wrap_u64];omega
theorem getD_eq{α:Type}{l:List α}{i:Nat}{d:α}(h:i<l.length):l.getD i d=l[i]:=by simp[Qa0,Qa4 h]
theorem BK{α:Type}{l:List α}{i:Nat}{d:α}(h:i<l.length):l.getD i d∈l:=by rw[getD_eq h];exact List.getElem_mem h
theorem FP{α:Type}{l:List α}{i j:Nat}{x d:α}(h:i<l.length):(l.set i x).getD j d=if i=j then x else l.getD j d:=by
 simp only[Qa0,List.getElem?_set];split
 ·rename_i e;subst e;simp[h]
 ·rfl
theorem Ty{α:Type}{l m:List α}{i:Nat}{d:α}(h:i<l.length):(l++m).getD i d=l.getD i d:=by
 simp[Qa0,Qg3 h]
theorem Wa{α:Type}{l:List α}{x d:α}:(l++[x]).getD l.length d=x:=by
 simp[Qa0]
theorem Wb{α:Type}{n i:Nat}{x d:α}(h:i<n):(Qe6 n x).getD i d=x:=by
 simp[Qa0,h]
theorem Ah1{α:Type}(d:α){l m:List α}(h:l.length=m.length)(hi:∀i,i<l.length→l.getD i d=m.getD i d):l=m:=by
 refine List.ext_getElem h fun i h1 h2=>?_
 have:=hi i h1
 rwa [getD_eq h1,getD_eq h2]at this
variable{P:Pg}
@[irreducible] def H3(a n:Int):Int:=IntKind.i64.wrap (Int.tmod (IntKind.u64.wrap a) (IntKind.u64.wrap n))
theorem Y5(n:Int):0≤IntKind.u64.wrap n∧IntKind.u64.wrap n≤18446744073709551615:=by rw[IntKind.wrap_u64];omega
theorem EW{a n:Int}(h1:1≤n)(h2:n≤9223372036854775807):0≤H3 a n∧H3 a n<n:=by
 unfold H3;rw[AnZ (n:=n) (by omega) (by omega)];have h:=Y5 a;rw[Qe0 h.1];have e1:=Int.emod_nonneg (IntKind.u64.wrap a) (show n≠0 by omega);have e2:=Int.emod_lt_of_pos (IntKind.u64.wrap a) (show 0<n by omega);rw[w64 (by omega) (by omega)];exact⟨e1,e2⟩
def Na(P:Pg):Prop:=∀x:Int×Int,1≤x.2→x.2≤9223372036854775807→Fn P zS2 Cy x fun d _=>d=H3 x.1 x.2
theorem AmE(h:Has P Pj):Na P:=by
 intro x h1 h2;refine Adz h ?_;unfold Ye;exact⟨by rw[AnZ (by omega) (by omega)];omega,by unfold H3;rfl⟩
theorem Na.at(h:Na P){a n:Int}(h1:1≤n)(h2:n≤9223372036854775807){K:Int→Unit→Prop}(hk:K (H3 a n) ()):Fn P zS2 Cy (a,n) K:=(h (a,n) h1 h2).to fun(d:Int) e hd=>by
 have hd:d=H3 a n:=hd;subst hd;exact hk
abbrev Bs:=List UInt8
def spN(acc:Bs):Bs→List Bs
 |[]=>[acc]
 |b::r=>if b=47 then acc::spN [] r else spN (acc++[b]) r
def Uq(n:Bs):Bool:=!(n==[]||n==[46]||n==[46,46])
def Gm(s:Bs):Int:=if s.length>200∨(0:UInt8)∈s then 210 else if(spN [] s).all Uq then 0 else 210
def Hz(P:Pg):Prop:=∀s:Bs,s.length≤140737488351232→Fn P Ale EC s fun(d:Int) _=>d=Gm s
theorem Acm:∀(l acc r:Bs),(∀b∈l,b≠47)→spN acc (l++47::r)=(acc++l)::spN [] r
 |[],acc,r,h=>by rw[List.nil_append,spN,if_pos rfl];simp
 |b::l,acc,r,h=>by
  rw[Qf0,spN,if_neg (h b (Qa6 ..)),Acm l _ r fun c hc=>h c (Qa8 _ hc)];simp
theorem AiZ:∀(l acc:Bs),(∀b∈l,b≠47)→spN acc l=[acc++l]
 |[],acc,h=>by simp[spN]
 |b::l,acc,h=>by
  rw[spN,if_neg (h b (Qa6 ..)),AiZ l _ fun c hc=>h c (Qa8 _ hc)];simp
theorem Alo:∀s:Bs,(∀b∈s,b≠47)∨∃l r,s=l++47::r∧∀b∈l,b≠47
 |[]=>.inl (by simp)
 |b::s=>by
  by_cases hb:b=47
  ·subst hb;exact .inr ⟨[],s,rfl,by simp⟩
  ·rcases Alo s with h|⟨l,r,rfl,h⟩
   ·refine .inl fun c hc=>?_
    rcases List.mem_cons.1 hc with rfl|hc
    ·exact hb
    ·exact h c hc
   ·refine .inr ⟨b::l,r,rfl,fun c hc=>?_⟩
    rcases List.mem_cons.1 hc with rfl|hc
    ·exact hb
    ·exact h c hc
abbrev Av:=Bs×Bs
def BM:List Av→Bs→Option Bs
 |[],_=>none
 |f::r,p=>match BM r p with
  |some v=>some v
  |none=>if p=f.1 then some f.2 else none
def Afk(l:List Av)(p:Bs):Bool:=(Qe7 p.length).any fun i=>(BM l (p.take i)).isSome&&(p.getD i 0==47)
def WI(l:List Av):Bool:=(Qe7 l.length).all fun i=>(i==0||Op.bytesLess (l.getD (i -1) ([],[])).1 (l.getD i ([],[])).1)&&!Afk l (l.getD i ([],[])).1
def Ql(P:Pg):Prop:=∀l:List Av,l.length≤1000000→(∀f∈l,f.1.length≤140737488351232∧f.2.length≤140737488351232)→Fn P "mergelens/tree.ordered" Hy l fun(d:Bool) _=>d=WI l
theorem Af2{s:Bs}{i:Nat}(h:i<s.length):s.drop i=s.getD i 0::s.drop (i+1):=by
 rw[Qc1 h,Qa0,Qa4 h,Qb9]
theorem byI(b c:UInt8):(((b.toNat:Nat):Int)==((c.toNat:Nat):Int))=(b==c):=by
 by_cases h:b=c
 ·subst h;simp
 ·rw[show(b==c)=false from beq_eq_false_iff_ne.2 h,beq_eq_false_iff_ne];intro e;exact h (UInt8.toNat_inj.1 (by omega))
theorem Aob(b:UInt8):(((b.toNat:Nat):Int)==(47:Int))=(b==47):=byI b 47
theorem Hz.at(h:Hz P){s:Bs}(hs:s.length≤140737488351232){K:Int→Unit→Prop}(hk:K (Gm s) ()):Fn P Ale EC s K:=
 (h s hs).to fun(d:Int) _ hd=>by
  have hd:d=Gm s:=hd;subst hd;exact hk
@[irreducible] def atX(raw:List Int)(k:Int):Int:=
 if((Qa7 raw:Nat):Int)>0 then(IntKind.u64.wrap ((Qd8 (Qb5 IntKind.u64.bits (IntKind.u64.wrap ((IntKind.u64.wrap (IntKind.i64.wrap (k+(1:Int))))*(11400714819323198485:Int)))^^^Qb5 IntKind.u64.bits (IntKind.u64.wrap (Qf8 raw (Qb7 (Int.tmod k ((Qa7 raw:Nat):Int))) (0:Int)))):Nat):Int))
 else(IntKind.u64.wrap ((IntKind.u64.wrap (IntKind.i64.wrap (k+(1:Int))))*(11400714819323198485:Int)))
@[irreducible] def atY(d2:Int):Int:=IntKind.u64.wrap ((Qd8 (Qb5 IntKind.u64.bits (IntKind.u64.wrap ((IntKind.u64.wrap ((Qd8 (Qb5 IntKind.u64.bits d2^^^Qb5 IntKind.u64.bits (Qf7 d2 (2^(min (Qb7 (31:Int)) IntKind.u64.bits)))):Nat):Int))*(13787848793156543929:Int)))^^^Qb5 IntKind.u64.bits (Qf7 (IntKind.u64.wrap ((IntKind.u64.wrap ((Qd8 (Qb5 IntKind.u64.bits d2^^^Qb5 IntKind.u64.bits (Qf7 d2 (2^(min (Qb7 (31:Int)) IntKind.u64.bits)))):Nat):Int))*(13787848793156543929:Int))) (2^(min (Qb7 (29:Int)) IntKind.u64.bits)))):Nat):Int)
@[irreducible] def atF(raw:List Int)(k:Int):Int:=IntKind.i64.wrap (Qf7 (atY (atX raw k)) (2^(min (Qb7 (1:Int)) IntKind.u64.bits)))
theorem AfN(raw:List Int)(k:Int):0≤atF raw k∧atF raw k≤9223372036854775807:=by
 unfold atF
 have e:((2:Int)^(min (Qb7 (1:Int)) IntKind.u64.bits))=2:=by decide
 rw[e]
 have h:=Y5 ((Qd8 (Qb5 IntKind.u64.bits (IntKind.u64.wrap ((IntKind.u64.wrap ((Qd8 (Qb5 IntKind.u64.bits (atX raw k)^^^Qb5 IntKind.u64.bits (Qf7 (atX raw k) (2^(min (Qb7 (31:Int)) IntKind.u64.bits)))):Nat):Int))*(13787848793156543929:Int)))^^^Qb5 IntKind.u64.bits (Qf7 (IntKind.u64.wrap ((IntKind.u64.wrap ((Qd8 (Qb5 IntKind.u64.bits (atX raw k)^^^Qb5 IntKind.u64.bits (Qf7 (atX raw k) (2^(min (Qb7 (31:Int)) IntKind.u64.bits)))):Nat):Int))*(13787848793156543929:Int))) (2^(min (Qb7 (29:Int)) IntKind.u64.bits)))):Nat):Int)
 have e2:0≤atY (atX raw k)∧atY (atX raw k)≤18446744073709551615:=by unfold atY;exact h
 clear h;have h:=e2;clear e2;generalize atY (atX raw k)=u at h⊢;rw[Int.fdiv_eq_ediv_of_nonneg u (by omega)];rw[w64 (by omega) (by omega)];omega
def PW(P:Pg):Prop:=∀x:List Int×Int,0≤x.2→Fn P zS1 BD x fun d _=>d=atF x.1 x.2
theorem AnP(h:Has P Q6):PW P:=by
 intro x h1;refine Af9 h ?_;unfold Aaq
 refine Ah.mid (fun d=>d=atX x.1 x.2) ⟨fun hc=>?_,fun hc=>?_⟩ fun d hd=>⟨by decide,by decide,by decide,?_⟩
 ·have hc:((Qa7 x.1:Nat):Int)>0:=of_decide_eq_true hc;have e1:(Int.tmod x.2 ((Qa7 x.1:Nat):Int))=x.2%(Qa7 x.1:Nat):=Qe0 h1;have e2:=Int.emod_nonneg x.2 (show((Qa7 x.1:Nat):Int)≠0 by omega);have e3:=Int.emod_lt_of_pos x.2 hc;refine⟨by omega,by omega,by omega,?_⟩;unfold atX;rw[if_pos hc]
 ·have hc:¬((Qa7 x.1:Nat):Int)>0:=of_decide_eq_false hc;unfold atX;rw[if_neg hc]
 ·subst hd;unfold atF atY;rfl
theorem PW.at(h:PW P){raw:List Int}{k:Int}(h1:0≤k){K:Int→Unit→Prop}(hk:K (atF raw k) ()):Fn P zS1 BD (raw,k) K:=(h (raw,k) h1).to fun(d:Int) e hd=>by
 have hd:d=atF raw k:=hd;subst hd;exact hk
def lnN(acc:Bs):Bs→List Bs
 |[]=>[]
 |b::r=>if b=10∨r=[]then(acc++[b])::lnN [] r else lnN (acc++[b]) r
def lnF(s:Bs):List Bs:=lnN [] s
def Qj(P:Pg):Prop:=∀s:Bs,s.length≤100000000→Fn P Ajo GD s fun(d:List Bs) _=>d=lnF s
theorem AnR{s:Bs}{i:Nat}(h:i<s.length):Qd2 (i+1) s=Qd2 i s++[s.getD i 0]:=by
 rw[Qd6,Qa4 h,Qa0,Qa4 h];rfl
theorem Aeq(h:Has P IB):Qj P:=by
 intro s hs;refine VZ h ?_;unfold P0
 refine Ah.mid (fun q=>q=lnF s) ?_ fun q hq=>hq
 refine A4.of (fun q=>0≤q.2.1∧q.2.1≤q.2.2∧q.2.2≤s.length∧(q.1.length:Int)≤q.2.2∧q.1++lnN (Qf9 q.2.1.toNat (Qd2 q.2.2.toNat s)) (s.drop q.2.2.toNat)=lnF s) (fun q=>(s.length -q.2.2).toNat) ⟨by decide,by decide,by dsimp only;omega,by simp,by simp[lnF]⟩ ?_
 rintro⟨o,f,i⟩ ⟨f0,f1,i1,ho,e⟩;dsimp only at f0 f1 i1 ho e⊢;refine⟨fun hc=>?_,fun hc=>?_⟩
 ·have hc:=of_decide_eq_true hc;rw[w64 (n:=i+1) (by omega) (by omega)]
  have hi:i.toNat<s.length:=by omega
  have hd:s.drop i.toNat=s.getD i.toNat 0::s.drop (i.toNat+1):=by
   rw[Qc1 hi,Qa0,Qa4 hi,Qb9]
  have e1:(i+1).toNat=i.toNat+1:=by omega
  have hdr:Qf9 f.toNat (Qd2 (i.toNat+1) s)=Qf9 f.toNat (Qd2 i.toNat s)++[s.getD i.toNat 0]:=by
   rw[AnR hi,List.drop_append_of_le_length (by rw[Qa9];omega)]
  rw[hd,lnN]at e
  have hnil:s.drop (i.toNat+1)=[]↔i+1=s.length:=by
   rw[Qh3];omega
  refine Ah.mid (fun q=>0≤q.2∧q.2≤i+1∧(q.1.length:Int)≤i+1∧q.1++lnN (Qf9 q.2.toNat (Qd2 (i.toNat+1) s)) (s.drop (i.toNat+1))=lnF s) ⟨⟨by omega,hc⟩,Ah.of ⟨fun hb=>?_,fun hb=>?_⟩⟩ ?_
  ·rw[if_pos (by
    simp at hb
    rcases hb with hb|hb
    ·refine Or.inl ?_;rw[Qa0];exact UInt8.toNat_inj.1 (by rw[show(10:UInt8).toNat=10 from rfl];omega)
    ·exact Or.inr (hnil.2 hb))]at e
   refine⟨⟨f0,by omega,by omega⟩,by simp only[Qa1,Qa5];omega,by dsimp only;omega,by dsimp only;omega,?_,?_⟩
   ·simp only[Qa2,Qa1,Qa5];omega
   ·dsimp only;rw[e1,hdr,show Qf9 (i.toNat+1) (Qd2 (i.toNat+1) s)=[]by rw[Qh3,Qa9];omega,←e]
    simp only[List.append_assoc,List.singleton_append]
  ·rw[if_neg (by
    simp at hb;rintro(hh|hh)
    ·rw[Qa0]at hh;exact hb.1 (by rw[hh];rfl)
    ·exact hb.2 (hnil.1 hh))]at e
   refine⟨f0,by dsimp only;omega,by dsimp only;omega,?_⟩
   dsimp only;rw[hdr];exact e
  ·rintro⟨o',f'⟩ ⟨k1,k2,k3,k4⟩;dsimp only at k1 k2 k3 k4⊢;exact⟨⟨k1,k2,by omega,k3,by rw[e1];exact k4⟩,by omega⟩
 ·have hc:=of_decide_eq_false hc;rw[show i.toNat=s.length by omega,List.drop_length,lnN,Qe2]at e;exact e
def saN(acc:Bs):Bs→List Bs
 |[]=>[acc]
 |b::r=>if b=10 then(acc++[b])::saN [] r else saN (acc++[b]) r
def saF(s:Bs):List Bs:=saN [] s
def Qp(s:Bs):Bool:=([10]:Bs).isSuffixOf s
def AeU(s:Bs):Bs:=if Qp s=true then s.take (s.length -1)else s
def G8(P:Pg):Prop:=∀s:Bs,Fn P "strings.Count" DC (s,[10]) fun(d:Int) _=>d=((s.count 10:Nat):Int)
def FK(P:Pg):Prop:=∀s:Bs,s.length≤140737488351232→Fn P "strings.HasSuffix" CQ (s,[10]) fun(d:Bool) _=>d=Qp s
def JJ(P:Pg):Prop:=∀s:Bs,s.length≤140737488351232→Fn P "strings.TrimSuffix" Dm (s,[10]) fun(d:Bs) _=>d=AeU s
def Ei(P:Pg):Prop:=∀s:Bs,s.length≤4000000000→Fn P "strings.SplitAfter" Dl (s,[10]) fun(d:List Bs) _=>d=saF s
theorem G8.at(h:G8 P){s:Bs}{K:Int→Unit→Prop}(hk:K ((s.count 10:Nat):Int) ()):Fn P "strings.Count" DC (s,[10]) K:=
 (h s).to fun(d:Int) _ hd=>by
  have hd:d=((s.count 10:Nat):Int):=hd;subst hd;exact hk
theorem FK.at(h:FK P){s:Bs}(hs:s.length≤140737488351232){K:Bool→Unit→Prop}(hk:K (Qp s) ()):Fn P "strings.HasSuffix" CQ (s,[10]) K:=
 (h s hs).to fun(d:Bool) _ hd=>by
  have hd:d=Qp s:=hd;subst hd;exact hk
theorem JJ.at(h:JJ P){s:Bs}(hs:s.length≤140737488351232){K:Bs→Unit→Prop}(hk:K (AeU s) ()):Fn P "strings.TrimSuffix" Dm (s,[10]) K:=
 (h s hs).to fun(d:Bs) _ hd=>by
  have hd:d=AeU s:=hd;subst hd;exact hk
theorem Ei.at(h:Ei P){s:Bs}(hs:s.length≤4000000000){K:List Bs→Unit→Prop}(hk:K (saF s) ()):Fn P "strings.SplitAfter" Dl (s,[10]) K:=
 (h s hs).to fun(d:List Bs) _ hd=>by
  have hd:d=saF s:=hd;subst hd;exact hk
theorem Tn(l:Bs)(b:UInt8):Qp (l++[b])=(b==10):=by
 unfold Qp
 by_cases h:b=10
 ·subst h;rw[show((10:UInt8)==10)=true from rfl,Qg0];exact List.suffix_append ..
 ·rw[show(b==10)=false by simpa using h,Qg1];intro hs;rw[Qg0]at hs;obtain⟨t,ht⟩:=hs;have:=congrArg List.getLast? ht;simp at this;exact h this.symm
theorem ZM:∀(s acc:Bs),(lnN acc s).length=s.count 10+(if s≠[]∧Qp s=false then 1 else 0)
 |[],acc=>by rw[if_neg (by simp)];rfl
 |b::r,acc=>by
  rw[lnN]
  rcases List.eq_nil_or_concat r with rfl|⟨l,c,rfl⟩
  ·rw[if_pos (.inr rfl),show[b]=([]:Bs)++[b]from rfl,Tn]
   by_cases hb:b=10
   ·subst hb;rfl
   ·rw[show(b==10)=false by simpa using hb];simp[lnN,hb]
  ·have e1:Qp (b::l.concat c)=Qp (l.concat c):=by
    rw[List.concat_eq_append,←Qf0,Tn,Tn]
   have hne:l.concat c≠[]:=by simp
   by_cases hb:b=10
   ·subst hb;rw[if_pos (.inl rfl),Qa1,ZM (l.concat c) [],e1,Qd9];simp only[ne_eq,hne,not_false_eq_true,true_and,List.cons_ne_nil];omega
   ·rw[if_neg (by rintro(h1|h1);exact hb h1;exact hne h1),ZM (l.concat c) _,e1,Qf2 (by simpa using hb)]
    simp only[ne_eq,hne,not_false_eq_true,true_and,List.cons_ne_nil]
theorem Afe(s:Bs):(lnF s).length=s.count 10+(if s≠[]∧Qp s=false then 1 else 0):=ZM s []
def S9(P:Pg):Prop:=∀s:Bs,s.length≤140737488351232→Fn P Ajt F4 s fun(d:Bool) _=>d=Qp s
theorem AgX(h:Has P F0)(hS:FK P):S9 P:=by
 intro s hs;refine XR h ?_;unfold Rk;exact hS.at hs rfl
def Ng(s:Bs):Int:=if s.length>1048576∨(lnF s).length>4096 then 1 else 0
def S8(P:Pg):Prop:=∀s:Bs,s.length≤140737488351232→Fn P Ahc ER s fun(d:Int) _=>d=Ng s
theorem AgW(h:Has P FZ)(hC:G8 P)(hE:S9 P):S8 P:=by
 intro s hs;refine XQ h ?_;unfold Rj;refine hC.at ?_;have hcl:=Qc5 (a:=(10:UInt8)) (l:=s);have hl:=Afe s;refine Ah.mid (fun d=>(!(s==([]:Bs)))=true→d=Qp s) ⟨fun _=>(hE s hs).to fun(d:Bool) _ hd _=>hd,(by intro hc hc2;rw[hc]at hc2;cases hc2),trivial⟩ ?_
 intro d hd
 have hfin:∀n:Int,n=((lnF s).length:Nat)→((cond (decide (((Qa7 s:Nat):Int)>(1048576:Int))) true (decide (n>(4096:Int))))=true→(1:Int)=Ng s)∧((cond (decide (((Qa7 s:Nat):Int)>(1048576:Int))) true (decide (n>(4096:Int))))=false→(0:Int)=Ng s):=by
  rintro n rfl;unfold Ng
  by_cases h1:s.length>1048576
  ·have e1:decide (((Qa7 s:Nat):Int)>(1048576:Int))=true:=decide_eq_true (by omega);rw[e1,if_pos (.inl h1)];exact⟨fun _=>rfl,fun h=>nomatch h⟩
  ·have e1:decide (((Qa7 s:Nat):Int)>(1048576:Int))=false:=decide_eq_false (by omega);rw[e1,cond_false]
   by_cases h2:(lnF s).length>4096
   ·rw[if_pos (.inr h2),show decide ((((lnF s).length:Nat):Int)>4096)=true from decide_eq_true (by omega)];exact⟨fun _=>rfl,fun h=>nomatch h⟩
   ·rw[if_neg (by omega),show decide ((((lnF s).length:Nat):Int)>4096)=false from decide_eq_false (by omega)];exact⟨(fun h=>nomatch h),fun _=>rfl⟩
 refine Ah.mid (fun n=>n=((lnF s).length:Nat)) ⟨fun hc=>?_,fun hc=>?_⟩ hfin
 ·by_cases hn:s=[]
  ·subst hn;cases hc
  ·have hb:(!(s==([]:Bs)))=true:=by simpa using hn
   rw[hb,cond_true]at hc
   have he:Qp s=false:=by rw[←hd hb];simpa using hc
   rw[w64 (by omega) (by omega),hl,if_pos ⟨hn,he⟩];omega
 ·by_cases hn:s=[]
  ·subst hn;rfl
  ·have hb:(!(s==([]:Bs)))=true:=by simpa using hn
   rw[hb,cond_true]at hc
   have he:Qp s=true:=by rw[←hd hb];simpa using hc
   rw[hl,if_neg (by rw[he];simp)]
   omega
theorem F7:∀x:Bs,Op.bytesLess x x=false
 |[]=>rfl
 |a::x=>by
  unfold Op.bytesLess;rw[F7 x];simp
theorem Mu:∀{x y z:Bs},Op.bytesLess x y=true→Op.bytesLess y z=true→Op.bytesLess x z=true
 |x,y,[],_,h2=>by unfold Op.bytesLess at h2;cases y<;>cases h2
 |x,[],c::z,h1,_=>by unfold Op.bytesLess at h1;cases x<;>cases h1
 |[],b::y,c::z,_,_=>rfl
 |a::x,b::y,c::z,h1,h2=>by
  unfold Op.bytesLess at h1 h2⊢;simp only[Qf4,Qc3,decide_eq_true_eq,beq_iff_eq]at h1 h2⊢
  rcases h1 with h1|⟨rfl,h1⟩
  ·rcases h2 with h2|⟨rfl,h2⟩
   ·exact .inl (UInt8.lt_trans h1 h2)
   ·exact .inl h1
  ·rcases h2 with h2|⟨rfl,h2⟩
   ·exact .inl h2
   ·exact .inr ⟨rfl,Mu h1 h2⟩
theorem VK:∀{x y:Bs},x≠y→Op.bytesLess x y=true∨Op.bytesLess y x=true
 |[],[],h=>absurd rfl h
 |[],b::y,_=>.inl rfl
 |a::x,[],_=>.inr rfl
 |a::x,b::y,h=>by
  unfold Op.bytesLess;simp only[Qf4,Qc3,decide_eq_true_eq,beq_iff_eq]
  by_cases hab:a=b
  ·subst hab
   rcases VK (x:=x) (y:=y) (fun e=>h (by rw[e]))with h1|h1
   ·exact .inl (.inr ⟨rfl,h1⟩)
   ·exact .inr (.inr ⟨rfl,h1⟩)
  ·rcases UInt8.lt_or_lt_of_ne hab with h1|h1
   ·exact .inl (.inl h1)
   ·exact .inr (.inl h1)
theorem Yi:∀(x:Bs) (b:UInt8) (r:Bs),Op.bytesLess x (x++b::r)=true
 |[],b,r=>rfl
 |a::x,b,r=>by
  rw[Qf0];unfold Op.bytesLess;rw[Yi x b r];simp
theorem AjV{p:Bs}{j:Nat}(h:j<p.length):Op.bytesLess (p.take j) p=true:=by
 have:=Yi (p.take j) (p.getD j 0) (p.drop (j+1))
 rwa [←Af2 h,Qf3]at this
def Zd(a b:Bs):Bool:=cond (cond (decide (((Qa7 b:Nat):Int)>((Qa7 a:Nat):Int))) ((Qd2 (Qb7 ((Qa7 a:Nat):Int)) b)==a) false) (((UInt8.toNat (Qf8 b (Qb7 ((Qa7 a:Nat):Int)) 0):Nat):Int)==(47:Int)) false
theorem Yf{a b:Bs}:Zd a b=true↔a.length<b.length∧b.take a.length=a∧b.getD a.length 0=47:=by
 unfold Zd;rw[show Qb7 ((Qa7 a:Nat):Int)=a.length from rfl,Aob]
 by_cases h:a.length<b.length
 ·rw[show decide (((Qa7 b:Nat):Int)>((Qa7 a:Nat):Int))=true from decide_eq_true (by omega),cond_true]
  by_cases h2:b.take a.length=a
  ·rw[h2,show(a==a)=true from beq_self_eq_true a,cond_true];simp[h]
  ·rw[show(Qd2 a.length b==a)=false from beq_eq_false_iff_ne.2 h2];simp[h2]
 ·rw[show decide (((Qa7 b:Nat):Int)>((Qa7 a:Nat):Int))=false from decide_eq_false (by omega)];simp[h]
theorem He:∀(l:List Av) (p:Bs),(BM l p).isSome=true↔∃f∈l,f.1=p
 |[],p=>by simp[BM]
 |f::r,p=>by
  have ih:=He r p;rw[BM]
  cases hb:BM r p with
  |some v=>
   rw[hb]at ih;simp only[Qh6,true_iff]at ih⊢;obtain⟨g,hg,e⟩:=ih;exact⟨g,Qa8 _ hg,e⟩
  |none=>
   rw[hb]at ih;dsimp only
   by_cases hp:p=f.1
   ·rw[if_pos hp];simp only[Qh6,true_iff];exact⟨f,Qa6 ..,hp.symm⟩
   ·rw[if_neg hp];simp only[Option.isSome_none,Bool.false_eq_true,false_iff];rintro⟨g,hg,e⟩
    rcases List.mem_cons.1 hg with rfl|hg
    ·exact hp e.symm
    ·have:=ih.2 ⟨g,hg,e⟩;cases this
abbrev pth(l:List Av)(i:Nat):Bs:=(l.getD i ([],[])).1
def PR(l:List Av):Prop:=∀i,i<l.length→∀k,k<i→Op.bytesLess (pth l k) (pth l i)=true∧Zd (pth l k) (pth l i)=false
theorem AbM(l:List Av):WI l=true↔PR l:=by
 unfold WI;rw[Qg5];constructor
 ·intro h
  have hadj:∀i,0<i→i<l.length→Op.bytesLess (pth l (i -1)) (pth l i)=true:=fun i h0 hi=>by
   have:=h i (List.mem_range.2 hi);simp only[Qc3,Qf4,beq_iff_eq]at this
   rcases this.1 with h1|h1
   ·omega
   ·exact h1
  have hch:∀i,i<l.length→∀k,k<i→Op.bytesLess (pth l k) (pth l i)=true:=by
   intro i
   induction i with
   |zero=>intro _ k hk;omega
   |succ i ih=>
    intro hi k hk;have h1:=hadj (i+1) (by omega) hi;rw[Nat.add_sub_cancel]at h1
    by_cases hki:k=i
    ·subst hki;exact h1
    ·exact Mu (ih (by omega) k (by omega)) h1
  intro i hi k hk;refine⟨hch i hi k hk,?_⟩;rw[Qg1];intro ha;obtain⟨a1,a2,a3⟩:=Yf.1 ha;have hn:=h i (List.mem_range.2 hi);simp only[Qc3,Bool.not_eq_true']at hn;have hn:=hn.2;unfold Afk at hn;rw[Qg2]at hn;refine hn (pth l k).length (List.mem_range.2 a1) ?_;rw[Qc3]
  refine⟨(He l _).2 ⟨l.getD k ([],[]),BK (by omega),a2.symm⟩,beq_iff_eq.2 a3⟩
 ·intro h i hi;have hi:=List.mem_range.1 hi;simp only[Qc3,Qf4,beq_iff_eq,Bool.not_eq_true'];refine⟨?_,?_⟩
  ·by_cases h0:i=0
   ·exact .inl h0
   ·exact .inr (h i hi (i -1) (by omega)).1
  ·unfold Afk;rw[Qg2];intro j hj hb;have hj:j<(pth l i).length:=List.mem_range.1 hj;rw[Qc3]at hb;obtain⟨hb1,hb2⟩:=hb;obtain⟨f,hf,hfe⟩:=(He l _).1 hb1;obtain⟨m,hm⟩:=Qc6 hf;have hml:m<l.length:=(List.getElem?_eq_some_iff.1 hm).1
   have hpm:pth l m=(pth l i).take j:=by
    unfold pth;rw[Qa0,hm];exact hfe
   have hlen:((pth l i).take j).length=j:=by rw[Qa9];exact Nat.min_eq_left (by omega)
   rcases Nat.lt_trichotomy m i with h1|h1|h1
   ·have:=(h i hi m h1).2;rw[Qg1]at this;refine this (Yf.2 ⟨by rw[hpm,hlen];exact hj,by rw[hpm,hlen],by rw[hpm,hlen];exact beq_iff_eq.1 hb2⟩)
   ·subst h1;have:=congrArg Qa7 hpm;rw[hlen]at this;exact absurd hj (by rw[this];exact Nat.lt_irrefl _)
   ·have h2:=(h m hml i h1).1;have h3:=AjV hj;rw[←hpm]at h3;have h4:=F7 (pth l i);rw[Mu h2 h3]at h4;cases h4
def Ga(l:List Av):Int:=
 if l.length>200 then 1 else if l.all (fun f=>Gm f.1==0)=false then 210 else if WI l=false then 211 else if l.all (fun f=>Ng f.2==0)=false then 1 else 0
def HI(l:List Av):Prop:=l.length≤1000000∧∀f∈l,f.1.length≤140737488351232∧f.2.length≤140737488351232
theorem HI.at{l:List Av}(h:HI l){i:Nat}(hi:i<l.length):(l.getD i ([],[])).1.length≤140737488351232∧(l.getD i ([],[])).2.length≤140737488351232:=h.2 _ (BK hi)
def AcV(P:Pg):Prop:=∀f:Av,f.1.length≤140737488351232→Fn P Ajl FI f fun(d:Bool) _=>d=(Gm f.1 !=0)
theorem AmF(h:Has P Hs)(hC:Hz P):AcV P:=by
 intro f hf;refine UL h ?_;unfold Om;exact hC.at hf rfl
def AcW(P:Pg):Prop:=∀f:Av,f.2.length≤140737488351232→Fn P Ajm FJ f fun(d:Bool) _=>d=(Ng f.2 !=0)
theorem AmG(h:Has P Ht)(hC:S8 P):AcW P:=by
 intro f hf;refine UM h ?_;unfold Oo;refine(hC _ hf).to ?_;rintro(d:Int) _ hd;have hd:d=Ng f.2:=hd;rw[hd]
def AcX(P:Pg):Prop:=∀l:List Av,HI l→Fn P zS6 AP (l,()) fun(d:Int) _=>decide (d≥0)=l.any fun f=>Gm f.1 !=0
theorem Ahr{α:Type}{l:List α}{p:α→Bool}{i:Nat}{d:α}(hi:i<l.length)(h:p (l.getD i d)=true):l.any p=true:=List.any_eq_true.2 ⟨_,BK hi,h⟩
theorem Aht{α:Type}{l:List α}{p:α→Bool}{d:α}(h:∀j,j<l.length→p (l.getD j d)=false):l.any p=false:=by
 rw[Qg2];intro x hx;obtain⟨j,hj⟩:=Qc6 hx;have hl:j<l.length:=(List.getElem?_eq_some_iff.1 hj).1;have:=h j hl;rw[Qa0,hj,Qb9]at this;rw[this];simp
theorem AmH(h:Has P A7)(hC:AcV P):AcX P:=by
 intro l hl;refine DV h ?_;unfold Cj;dsimp only
 refine Ah.mid (fun _=>(l.any fun f=>Gm f.1 !=0)=false) ?_ fun _ h=>by rw[h];rfl
 refine A4.of (fun q=>(0≤q.2∧q.2≤l.length)∧∀j,j<q.2.toNat→(Gm (l.getD j ([],[])).1 !=0)=false) (fun q=>(l.length -q.2).toNat) ⟨⟨Qa3 _,by dsimp only;omega⟩,fun j hj=>absurd hj (by simp)⟩ ?_
 rintro⟨q,i⟩ ⟨⟨i0,i1⟩,hq⟩;dsimp only at i0 i1 hq⊢;have hln:=hl.1;refine⟨fun hi=>?_,fun hi=>?_⟩
 ·have hi:=of_decide_eq_true hi
  have hi2:i.toNat<l.length:=by omega
  refine Ah.mid (fun _=>(Gm (l.getD i.toNat ([],[])).1 !=0)=false) ⟨⟨i0,hi⟩,hi2,(hC _ (hl.at hi2).1).to ?_⟩ fun _ hn=>?_
  ·rintro(d:Bool) _ hd;have hd:d=_:=hd;subst hd;refine⟨fun hb=>?_,fun hb=>hb⟩;rw[Ahr (d:=([],[])) hi2 hb,decide_eq_true (by omega)]
  ·rw[w64 (by omega) (by omega)];refine⟨⟨⟨by omega,by omega⟩,fun j hj=>?_⟩,by omega⟩
   by_cases hji:j=i.toNat
   ·subst hji;exact hn
   ·exact hq j (by omega)
 ·have hi:=of_decide_eq_false hi
  exact Aht (d:=([],[])) fun j hj=>hq j (by omega)
def AcY(P:Pg):Prop:=∀l:List Av,HI l→Fn P zS6 AQ (l,()) fun(d:Int) _=>decide (d≥0)=l.any fun f=>Ng f.2 !=0
theorem AmI(h:Has P A8)(hC:AcW P):AcY P:=by
 intro l hl;refine DW h ?_;unfold Ck;dsimp only
 refine Ah.mid (fun _=>(l.any fun f=>Ng f.2 !=0)=false) ?_ fun _ h=>by rw[h];rfl
 refine A4.of (fun q=>(0≤q.2∧q.2≤l.length)∧∀j,j<q.2.toNat→(Ng (l.getD j ([],[])).2 !=0)=false) (fun q=>(l.length -q.2).toNat) ⟨⟨Qa3 _,by dsimp only;omega⟩,fun j hj=>absurd hj (by simp)⟩ ?_
 rintro⟨q,i⟩ ⟨⟨i0,i1⟩,hq⟩;dsimp only at i0 i1 hq⊢;have hln:=hl.1;refine⟨fun hi=>?_,fun hi=>?_⟩
 ·have hi:=of_decide_eq_true hi
  have hi2:i.toNat<l.length:=by omega
  refine Ah.mid (fun _=>(Ng (l.getD i.toNat ([],[])).2 !=0)=false) ⟨⟨i0,hi⟩,hi2,(hC _ (hl.at hi2).2).to ?_⟩ fun _ hn=>?_
  ·rintro(d:Bool) _ hd;have hd:d=_:=hd;subst hd;refine⟨fun hb=>?_,fun hb=>hb⟩;rw[Ahr (d:=([],[])) hi2 hb,decide_eq_true (by omega)]
  ·rw[w64 (by omega) (by omega)];refine⟨⟨⟨by omega,by omega⟩,fun j hj=>?_⟩,by omega⟩
   by_cases hji:j=i.toNat
   ·subst hji;exact hn
   ·exact hq j (by omega)
 ·have hi:=of_decide_eq_false hi
  exact Aht (d:=([],[])) fun j hj=>hq j (by omega)
def AcZ(P:Pg):Prop:=∀l:List Av,HI l→Fn P zS7 AL (l,()) fun(d:Bool) _=>d=l.any fun f=>Gm f.1 !=0
theorem AmJ(h:Has P A1)(hI:AcX P):AcZ P:=by
 intro l hl;refine DF h ?_;unfold Ce
 exact(hI l hl).to fun(d:Int) _ hd=>hd
def Ac0(P:Pg):Prop:=∀l:List Av,HI l→Fn P zS7 AN (l,()) fun(d:Bool) _=>d=l.any fun f=>Ng f.2 !=0
theorem AmK(h:Has P A2)(hI:AcY P):Ac0 P:=by
 intro l hl;refine DG h ?_;unfold Cf
 exact(hI l hl).to fun(d:Int) _ hd=>hd
theorem Ahs{α:Type}(l:List α)(p:α→Int):(l.any fun f=>p f !=0)=!(l.all fun f=>p f==0):=by
 induction l with
 |nil=>rfl
 |cons a l ih=>rw[List.any_cons,List.all_cons,ih,Bool.not_and];rfl
def F5(P:Pg):Prop:=∀l:List Av,HI l→Fn P zS3 CN l fun(d:Int) _=>d=Ga l
theorem Aaa(h:Has P Hr)(h1:AcZ P)(hO:Ql P)(h2:Ac0 P):F5 P:=by
 intro l hl;refine P3 h ?_;unfold Nc;unfold Ga
 refine Ah.mid (fun _=>l.length≤200∧l.all (fun f=>Gm f.1==0)=true∧WI l=true∧l.all (fun f=>Ng f.2==0)=true) ?_ fun _ hh=>by
  obtain⟨a1,a2,a3,a4⟩:=hh;rw[if_neg (by omega),if_neg (by rw[a2];simp),if_neg (by rw[a3];simp),if_neg (by rw[a4];simp)]
 refine⟨fun hc=>?_,fun hc=>?_⟩
 ·have hc:=of_decide_eq_true hc;rw[if_pos (by omega)]
 have hc:=of_decide_eq_false hc;rw[if_neg (by omega)];refine(h1 l hl).to ?_;rintro(d:Bool) _ hd;have hd:d=_:=hd;rw[Ahs l fun f=>Gm f.1]at hd;subst hd;refine⟨fun hb=>?_,fun hb=>?_⟩
 ·rw[if_pos (by simpa using hb)]
 have hb:l.all (fun f=>Gm f.1==0)=true:=by simpa using hb
 rw[if_neg (by rw[hb];simp)]
 refine(hO l hl.1 hl.2).to ?_;rintro(d:Bool) _ hd;have hd:d=WI l:=hd;subst hd;refine⟨fun hb2=>?_,fun hb2=>?_⟩
 ·rw[if_pos (by simpa using hb2)]
 have hb2:WI l=true:=by simpa using hb2
 rw[if_neg (by rw[hb2];simp)]
 refine(h2 l hl).to ?_;rintro(d:Bool) _ hd;have hd:d=_:=hd;rw[Ahs l fun f=>Ng f.2]at hd;subst hd;refine⟨fun hb3=>?_,fun hb3=>?_⟩
 ·rw[if_pos (by simpa using hb3)]
 have hb3:l.all (fun f=>Ng f.2==0)=true:=by simpa using hb3
 exact⟨by omega,hb,hb2,hb3⟩
theorem F5.at(h:F5 P){l:List Av}(hl:HI l){K:Int→Unit→Prop}(hk:K (Ga l) ()):Fn P zS3 CN l K:=
 (h l hl).to fun(d:Int) _ hd=>by
  have hd:d=Ga l:=hd;subst hd;exact hk
def SU(P:Pg):Prop:=∀s:Bs,s.length≤140737488351232→Fn P "strings.Index" GV (s,([97]:Bs)) fun(d:Int) _=>(d<0→s.count 97=0)∧(0≤d→d<(s.length:Int)∧(s.take (d.toNat+1)).count 97=1)
def AeO(s:Bs)(f:Int)(d:Int×Bool):Prop:=(d.2=true→f≤d.1∧d.1<(s.length:Int)∧(s.take (d.1.toNat+1)).count 97=(s.take f.toNat).count 97+1)∧(d.2=false→s.count 97=(s.take f.toNat).count 97)
theorem Ait{s:Bs}{f i:Int}(f0:0≤f)(f1:f≤(s.length:Int))(i0:0≤i)(i1:i<((s.drop f.toNat).length:Int))(hi:((s.drop f.toNat).take (i.toNat+1)).count 97=1):f≤f+i∧f+i<(s.length:Int)∧(s.take ((f+i).toNat+1)).count 97=(s.take f.toNat).count 97+1:=by
 rw[List.length_drop]at i1;refine⟨by omega,by omega,?_⟩;rw[show(f+i).toNat+1=f.toNat+(i.toNat+1)by omega,List.take_add,Qb3,hi]
def Vv(P:Pg):Prop:=∀x:Bs×Int,x.1.length≤140737488351232→0≤x.2→x.2≤(x.1.length:Int)→Fn P AeL EO (([97]:Bs),(x.1,x.2)) fun(d:Int×Bool) _=>AeO x.1 x.2 d
theorem Ai6(h:Has P Jt)(hI:SU P):Vv P:=by
 rintro⟨s,f⟩ hs f0 f1;dsimp only at hs f0 f1;refine XP h ?_;unfold Ri;dsimp only
 have hc:(cond (cond (([97]:Bs)==([]:List UInt8)) true (decide (f<(0:Int)))) true (decide (f>((Qa7 s:Nat):Int))))=false:=by
  rw[show(([97]:Bs)==([]:List UInt8))=false from rfl,decide_eq_false (by omega),cond_false,cond_false,decide_eq_false (by omega)]
 rw[hc];refine⟨fun k=>(nomatch k),fun _=>⟨⟨f0,f1⟩,(hI (s.drop f.toNat) (by rw[List.length_drop];omega)).to ?_⟩⟩
 rintro(i:Int) _ ⟨h1,h2⟩;refine⟨fun hi=>⟨fun k=>(nomatch k),fun _=>?_⟩,fun hi=>⟨fun _=>?_,fun k=>(nomatch k)⟩⟩
 ·have:=h1 (of_decide_eq_true hi);show s.count 97=(s.take f.toNat).count 97
  conv=>lhs;rw[←Qf3 f.toNat s]
  rw[Qb3,this,Nat.add_zero]
 ·have i0:0≤i:=by have:=of_decide_eq_false hi;omega
  obtain⟨i1,hk⟩:=h2 i0;have:=Ait f0 f1 i0 i1 hk;rw[w64 (by omega) (by omega)];exact this
theorem X9(s:Bs)(n:Nat):(s.take n).count 97≤n:=Qb8 Qc5 (by rw[Qa9];omega)
def Zc(P:Pg):Prop:=∀s:Bs,s.length≤17592186040320→Fn P Aju Ek (([97]:Bs),s) fun(d:List Int) _=>d.length=s.count 97
theorem AkY(h:Has P Ft)(hN:Vv P):Zc P:=by
 intro s hs;refine Qw h ?_;unfold Lz;dsimp only;refine(hN (s,0) (by dsimp only;omega) (Qa3 _) (by dsimp only;omega)).to ?_
 rintro(d:Int×Bool) _ hd;have hd:AeO s 0 d:=hd
 refine Ah.mid (fun l=>l.length=s.count 97) ?_ fun _ h=>h
 refine A4.of (fun q=>(q.2.2=true→0≤q.2.1∧q.2.1<(s.length:Int)∧q.1.length+1=(s.take (q.2.1.toNat+1)).count 97)∧(q.2.2=false→q.1.length=s.count 97)) (fun q=>if q.2.2 then(s.length -q.2.1).toNat+1 else 0) ⟨fun hk=>?_,fun hk=>?_⟩ ?_
 ·have:=hd.1 hk;refine⟨this.1,this.2.1,?_⟩;rw[this.2.2];rfl
 ·have:=hd.2 hk;rw[this];rfl
 rintro⟨l,i,ok⟩ ⟨h1,h2⟩;dsimp only at h1 h2⊢;refine⟨fun hk=>?_,h2⟩;subst hk;obtain⟨i0,i1,hl⟩:=h1 rfl;have hle:=X9 s (i.toNat+1)
 have hw:IntKind.i64.wrap (i+(([97]:Bs).length:Int))=i+1:=by
  rw[show((([97]:Bs).length:Nat):Int)=1 from rfl,w64 (by omega) (by omega)]
 refine Ah.mid (fun q=>q.1=l++[i]∧AeO s (i+1) q.2) ⟨by simp only[Qa1,Qa5];omega,?_⟩ ?_
 ·rw[hw];refine(hN (s,i+1) (by dsimp only;omega) (by dsimp only;omega) (by dsimp only;omega)).to ?_
  rintro(d:Int×Bool) _ hd;exact⟨rfl,hd⟩
 ·rintro⟨l2,i2,ok2⟩ ⟨e,hd⟩;dsimp only at e hd;subst e;unfold AeO at hd;dsimp only at hd;rw[show(i+1).toNat=i.toNat+1 by omega,←hl]at hd;refine⟨⟨fun hk=>?_,fun hk=>?_⟩,?_⟩
  ·have:=hd.1 hk;refine⟨by dsimp only;omega,this.2.1,?_⟩
   rw[this.2.2];simp
  ·have:=hd.2 hk;rw[this];simp
  ·dsimp only
   cases ok2 with
   |false=>simp
   |true=>
    have:=hd.1 rfl;simp only[if_true];omega
def Mo(P:Pg):Prop:=∀s:Bs,s.length≤17592186040320→Fn P zS0 Ap (([97]:Bs),s) fun(d:Int) _=>d=(s.count 97:Nat)
theorem AgO(h:Has P IA)(hP:Zc P):Mo P:=by
 intro s hs;refine VY h ?_;unfold PZ;refine(hP s hs).to ?_;rintro(d:List Int) _ hd;have hd:d.length=s.count 97:=hd;show((d.length:Nat):Int)=_;rw[hd]
abbrev BN:=Bs×Int
def RR(a b:List Av)(p:Bs):Option Int:=match BM a p,BM b p with
 |none,some _=>some 1
 |some _,none=>some 2
 |some x,some y=>if x=y then none else some 3
 |none,none=>none
def AkZ(l:List BN):Prop:=l.Pairwise fun x y=>Op.bytesLess x.1 y.1=true
theorem Afz:∀{l m:List BN},AkZ l→AkZ m→(∀t,t∈l↔t∈m)→l=m
 |[],[],_,_,_=>rfl
 |[],b::m,_,_,h=>by have:=(h b).2 (Qa6 ..);cases this
 |a::l,[],_,_,h=>by have:=(h a).1 (Qa6 ..);cases this
 |a::l,b::m,hl,hm,h=>by
  have hl2:=List.pairwise_cons.1 hl;have hm2:=List.pairwise_cons.1 hm
  have hab:a=b:=by
   rcases List.mem_cons.1 ((h a).1 (Qa6 ..))with e|h1
   ·exact e
   ·rcases List.mem_cons.1 ((h b).2 (Qa6 ..))with e|h2
    ·exact e.symm
    ·have h3:=Mu (hm2.1 a h1) (hl2.1 b h2);rw[F7]at h3;cases h3
  subst hab;rw[Afz hl2.2 hm2.2 fun t=>⟨fun ht=>?_,fun ht=>?_⟩]
  ·rcases List.mem_cons.1 ((h t).1 (Qa8 _ ht))with e|h1
   ·have h3:=hl2.1 t ht;rw[e,F7]at h3;cases h3
   ·exact h1
  ·rcases List.mem_cons.1 ((h t).2 (Qa8 _ ht))with e|h1
   ·have h3:=hm2.1 t ht;rw[e,F7]at h3;cases h3
   ·exact h1
def Ii(a b:List Av)(d:List BN):Prop:=AkZ d∧∀p k,(p,k)∈d↔RR a b p=some k
theorem Abm{a b:List Av}{d e:List BN}(hd:Ii a b d)(he:Ii a b e):d=e:=
 Afz hd.1 he.1 fun t=>by
  obtain⟨p,k⟩:=t;rw[hd.2,he.2]
def P1(a b:List Av):Int:=if Ga a≠0 then Ga a else Ga b
def Oj(P:Pg):Prop:=∀x:List Av×List Av,HI x.1→HI x.2→Fn P Alb Lu x fun(d:List BN×Int) _=>d.2=P1 x.1 x.2∧(d.2≠0→d.1=[])∧(d.2=0→Ii x.1 x.2 d.1)
def findF:List Av→Bs→Bs×Bool
 |[],_=>([],false)
 |f::r,p=>if f.1=p then(f.2,true)else findF r p
theorem Af8{l:List Av}{i:Nat}(hi:i<l.length)(p:Bs):findF (l.drop i) p=if(l.getD i ([],[])).1=p then((l.getD i ([],[])).2,true)else findF (l.drop (i+1)) p:=by
 rw[Qc1 hi,findF,getD_eq hi]
def Ol(P:Pg):Prop:=∀x:List Av×Bs,x.1.length≤1000000→Fn P AcF Em x fun(d:Bs×Bool) _=>d=findF x.1 x.2
theorem Ai8(h:Has P Hb):Ol P:=by
 rintro⟨l,p⟩ hl;dsimp only at hl;refine Zu h ?_;unfold Ue;dsimp only
 refine Ah.mid (fun _=>findF l p=([],false)) ?_ fun _ h=>h.symm
 refine A4.of (fun q=>(0≤q.2.2∧q.2.2≤l.length)∧findF (l.drop q.2.2.toNat) p=findF l p) (fun q=>(l.length -q.2.2).toNat) ⟨⟨Qa3 _,by dsimp only;omega⟩,rfl⟩ ?_
 rintro⟨q1,q2,i⟩ ⟨⟨i0,i1⟩,hq⟩;dsimp only at i0 i1 hq⊢;refine⟨fun hi=>?_,fun hi=>?_⟩
 ·have hi:=of_decide_eq_true hi
  have hi2:i.toNat<l.length:=by omega
  rw[Af8 hi2]at hq
  refine Ah.mid (fun _=>(l.getD i.toNat ([],[])).1≠p) ⟨⟨i0,hi⟩,hi2,fun hb=>?_,fun hb=>beq_eq_false_iff_ne.1 hb⟩ fun _ hn=>?_
  ·rw[if_pos (eq_of_beq hb)]at hq;exact hq
  ·rw[if_neg hn]at hq;rw[w64 (by omega) (by omega),show(i+1).toNat=i.toNat+1 by omega];exact⟨⟨⟨by omega,by omega⟩,hq⟩,by omega⟩
 ·have hi:=of_decide_eq_false hi;rw[Qe8 (by omega)]at hq;exact hq.symm
theorem Ol.at(h:Ol P){l:List Av}{p:Bs}(hl:l.length≤1000000){K:Bs×Bool→Unit→Prop}(hk:K (findF l p) ()):Fn P AcF Em (l,p) K:=
 (h (l,p) hl).to fun(d:Bs×Bool) _ hd=>by
  have hd:d=findF l p:=hd;subst hd;exact hk
def Vw(P:Pg):Prop:=∀x:List Av×List Av,HI x.1→HI x.2→Fn P "mergelens/tree.both" Lv x fun(d:Int) _=>d=P1 x.1 x.2
theorem Ai7(h:Has P Ll)(hT:F5 P):Vw P:=by
 rintro⟨a,b⟩ ha hb;dsimp only at ha hb;refine Zv h ?_;unfold Uf P1;dsimp only;refine hT.at ha ⟨fun hc=>?_,fun hc=>?_⟩
 ·rw[if_pos (by simpa using hc)]
 ·rw[if_neg (by simpa using hc)];exact hT.at hb rfl
theorem PR.mono{l:List Av}(h:PR l){i k:Nat}(hk:k<l.length)(hi:i<k):Op.bytesLess (pth l i) (pth l k)=true:=(h k hk i hi).1
theorem Tp:∀{l:List Av},l.Pairwise (fun x y=>x.1≠y.1)→∀p,findF l p=match BM l p with|some v=>(v,true)|none=>([],false)
 |[],_,p=>rfl
 |f::r,h,p=>by
  have h2:=List.pairwise_cons.1 h;have ih:=Tp h2.2 p;rw[findF,BM]
  by_cases e:f.1=p
  ·rw[if_pos e]
   have hn:BM r p=none:=by
    cases hb:BM r p with
    |none=>rfl
    |some v=>
     obtain⟨g,hg,hgp⟩:=(He r p).1 (by rw[hb];rfl)
     exact absurd (e.trans hgp.symm) (h2.1 g hg)
   rw[hn,if_pos e.symm]
  ·rw[if_neg e,ih]
   cases hb:BM r p with
   |some v=>rfl
   |none=>rw[if_neg (fun h=>e h.symm)]
theorem PR.ne{l:List Av}(h:PR l):l.Pairwise (fun x y=>x.1≠y.1):=by
 rw[Qc7];intro i j hi hj hij e;have h1:=(h j hj i hij).1
 have h2:pth l i=pth l j:=by
  unfold pth;rw[getD_eq hi,getD_eq hj];exact e
 rw[h2,F7]at h1;cases h1
def CS{α:Type}(f:α→Int):List α→Int
 |[]=>0
 |x::l=>f x+CS f l
theorem OZ{α:Type}(f:α→Int):∀l m:List α,CS f (l++m)=CS f l+CS f m
 |[],m=>by simp[CS]
 |x::l,m=>by rw[Qf0,CS,CS,OZ f l m];omega
theorem Ag3{α:Type}(f:α→Int){l m:List α}(h:l.Perm m):CS f l=CS f m:=by
 induction h with
 |nil=>rfl
 |cons x _ ih=>rw[CS,CS,ih]
 |swap x y l=>simp only[CS];omega
 |trans _ _ h1 h2=>rw[h1,h2]
theorem LK{α:Type}(f:α→Int):∀l:List α,CS f (l.filter fun x=>decide (f x≠0))=CS f l
 |[]=>rfl
 |x::l=>by
  by_cases h:f x=0
  ·rw[Qc9 (by simpa using h),LK f l,CS,h];omega
  ·rw[Qd0 (by simpa using h),CS,CS,LK f l]
theorem Xj{α:Type}{f:α→Int}{l m:List α}(hl:l.Nodup)(hm:m.Nodup)(h:∀x,f x≠0→(x∈l↔x∈m)):CS f l=CS f m:=by
 rw[←LK f l,←LK f m];refine Ag3 f ((List.perm_ext_iff_of_nodup (hl.filter _) (hm.filter _)).2 fun x=>?_);rw[Qe3,Qe3,decide_eq_true_eq];exact⟨fun k=>⟨(h x k.2).1 k.1,k.2⟩,fun k=>⟨(h x k.2).2 k.1,k.2⟩⟩
theorem SB{α β:Type}(f:β→Int)(g:α→β):∀l:List α,CS f (l.map g)=CS (fun x=>f (g x)) l
 |[]=>rfl
 |x::l=>by rw[Qd1,CS,CS,SB f g l]
theorem Xi{α:Type}{f g:α→Int}:∀{l:List α},(∀x∈l,f x=g x)→CS f l=CS g l
 |[],_=>rfl
 |x::l,h=>by rw[CS,CS,h x (Qa6 ..),Xi fun y hy=>h y (Qa8 _ hy)]
theorem Acu{α:Type}(f g:α→Int):∀l:List α,CS (fun x=>f x -g x) l=CS f l -CS g l
 |[]=>rfl
 |x::l=>by rw[CS,CS,CS,Acu f g l];omega
theorem AfC{α:Type}{f:α→Int}:∀{l:List α},CS f l≠0→∃x∈l,f x≠0
 |[],h=>absurd rfl h
 |x::l,h=>by
  by_cases hx:f x=0
  ·have h2:CS f l≠0:=fun e=>h (by rw[CS,hx,e];rfl)
   obtain⟨y,hy,hk⟩:=AfC h2;exact⟨y,Qa8 _ hy,hk⟩
  ·exact⟨x,Qa6 ..,hx⟩
theorem Aac{α:Type}{f:α→Int}{B:Int}:∀{l:List α},(∀x∈l,-B≤f x∧f x≤B)→-(B*l.length)≤CS f l∧CS f l≤B*l.length
 |[],_=>by simp[CS]
 |x::l,h=>by
  have h1:=h x (Qa6 ..)
  have h2:=Aac fun y hy=>h y (Qa8 _ hy)
  rw[CS,Qa1,Int.natCast_succ,Int.mul_add,Int.mul_one];omega
def phT(T:List Av)(p:Bs):Int:=((findF T p).1.count 97:Nat)
def Gz(T:List Av):Int:=CS (fun f:Av=>((f.2.count 97:Nat):Int)) T
theorem Ae0:∀{T:List Av} {p:Bs},(∀f∈T,f.1≠p)→findF T p=([],false)
 |[],p,_=>rfl
 |f::r,p,h=>by rw[findF,if_neg (h f (Qa6 ..)),Ae0 fun x hx=>h x (Qa8 _ hx)]
theorem AaR:∀{T:List Av},T.Pairwise (fun x y=>x.1≠y.1)→∀{f:Av},f∈T→findF T f.1=(f.2,true)
 |[],_,f,h=>(nomatch h)
 |g::r,hp,f,h=>by
  have h2:=List.pairwise_cons.1 hp
  rcases List.mem_cons.1 h with e|h
  ·subst e;rw[findF,if_pos rfl]
  ·rw[findF,if_neg (h2.1 f h),AaR h2.2 h]
theorem ZW{T:List Av}{p:Bs}(h:phT T p≠0):p∈T.map fun f=>f.1:=
 Classical.byContradiction fun k=>h (by
  unfold phT;rw[Ae0 fun f hf e=>k (List.mem_map.2 ⟨f,hf,e⟩)]
  rfl)
theorem Aje{T:List Av}(h:T.Pairwise fun x y=>x.1≠y.1):Gz T=CS (phT T) (T.map fun f=>f.1):=by
 rw[SB]
 refine Xi fun f hf=>?_
 unfold phT;rw[AaR h hf]
theorem Ux{T:List Av}(h:T.Pairwise fun x y=>x.1≠y.1):(T.map fun f=>f.1).Nodup:=by
 rw[Qb4,Qc4];exact h
theorem Akv{a b:List Av}(ha:a.Pairwise fun x y=>x.1≠y.1)(hb:b.Pairwise fun x y=>x.1≠y.1){p:Bs}(h:RR a b p=none):phT b p=phT a p:=by
 unfold phT;rw[Tp ha,Tp hb];unfold RR at h
 cases h1:BM a p<;>cases h2:BM b p<;>rw[h1,h2]at h
 ·cases h
 ·cases h
 ·dsimp only at h;split at h
  ·rename_i e;rw[e]
  ·cases h
theorem AhU{a b:List Av}(ha:a.Pairwise fun x y=>x.1≠y.1)(hb:b.Pairwise fun x y=>x.1≠y.1){D:List BN}(h:Ii a b D):CS (fun x:BN=>phT b x.1 -phT a x.1) D=Gz b -Gz a:=by
 have hD:(D.map fun x=>x.1).Nodup:=by
  rw[Qb4,Qc4]
  exact h.1.imp fun{x y} hxy e=>by rw[e,F7]at hxy;cases hxy
 have pa:=Ux ha;have pb:=Ux hb
 have hL:((a.map fun f=>f.1)++((b.map fun f=>f.1).filter fun p=>decide (p∉a.map fun f=>f.1))).Nodup:=by
  rw[Qd7];refine⟨pa,pb.filter _,fun x hx y hy e=>?_⟩;subst e;have:=(List.mem_filter.1 hy).2;exact(of_decide_eq_true this) hx
 have mL:∀p,p∈((a.map fun f=>f.1)++((b.map fun f=>f.1).filter fun p=>decide (p∉a.map fun f=>f.1)))↔p∈(a.map fun f=>f.1)∨p∈(b.map fun f=>f.1):=fun p=>by
  rw[Qd3,Qe3,decide_eq_true_eq]
  by_cases k:p∈a.map fun f=>f.1<;>simp[k]
 generalize((a.map fun f=>f.1)++((b.map fun f=>f.1).filter fun p=>decide (p∉a.map fun f=>f.1)))=L at hL mL;rw[←SB (fun p=>phT b p -phT a p) (fun x:BN=>x.1),Aje ha,Aje hb,Xj (m:=L) hD hL fun p hp=>⟨fun _=>?_,fun _=>?_⟩,Acu,Xj (f:=phT b) (l:=L) hL pb fun p hp=>?_,Xj (f:=phT a) (l:=L) hL pa fun p hp=>?_]
 ·exact⟨fun _=>ZW hp,fun k=>(mL p).2 (.inl k)⟩
 ·exact⟨fun _=>ZW hp,fun k=>(mL p).2 (.inr k)⟩
 ·rw[mL]
  by_cases k:phT a p=0
  ·exact .inr (ZW (by omega))
  ·exact .inl (ZW k)
 ·cases k:RR a b p with
  |none=>have:=Akv ha hb k;omega
  |some t=>exact List.mem_map.2 ⟨(p,t),(h.2 p t).2 k,rfl⟩
abbrev Ai:=List Int×(Int×List Av)
def A6(g:List Ai)(c:Int):List Int:=(g.getD c.toNat ([],(0,[]))).1
def inR(g:List Ai)(c:Int):Prop:=0≤c∧c<g.length
def U5(g:List Ai):Prop:=∀c,inR g c→∀p∈A6 g c,inR g p
inductive Rch (g:List Ai):Int→Int→Prop
 |refl (c:Int):Rch g c c
 |step {c p x:Int} (h:p∈A6 g c) (t:Rch g p x):Rch g c x
theorem Rch.trans{g:List Ai}{a b c:Int}(h:Rch g a b)(k:Rch g b c):Rch g a c:=by
 induction h with
 |refl=>exact k
 |step h _ ih=>exact .step h (ih k)
theorem Rch.snoc{g:List Ai}{a b p:Int}(h:Rch g a b)(k:p∈A6 g b):Rch g a p:=h.trans (.step k (.refl p))
theorem Rch.inR{g:List Ai}(hv:U5 g){a b:Int}(h:Rch g a b)(ha:inR g a):Go.VS.inR g b:=by
 induction h with
 |refl=>exact ha
 |step h _ ih=>exact ih (hv _ ha _ h)
def JB(b:List Av)(f:Av):Option BN:=match BM b f.1 with
 |none=>some (f.1,2)
 |some v=>if v=f.2 then none else some (f.1,3)
def Oq(a:List Av)(f:Av):Option BN:=match BM a f.1 with
 |none=>some (f.1,1)
 |some _=>none
def P4(a b:List Av):List BN:=a.filterMap (JB b)++b.filterMap (Oq a)
theorem WY{b:List Av}{f:Av}{t:BN}(h:JB b f=some t):t.1=f.1:=by
 unfold JB at h;split at h
 ·cases h;rfl
 ·split at h
  ·cases h
  ·cases h;rfl
theorem VB{a:List Av}{f:Av}{t:BN}(h:Oq a f=some t):t.1=f.1∧BM a f.1=none:=by
 unfold Oq at h;split at h
 ·rename_i h1;cases h;exact⟨rfl,h1⟩
 ·cases h
theorem PR.blob{l:List Av}(h:PR l){f:Av}(hf:f∈l):BM l f.1=some f.2:=by
 have h1:=h.ne;clear h
 induction l with
 |nil=>cases hf
 |cons g r ih=>
  have h2:=List.pairwise_cons.1 h1;rw[BM]
  rcases List.mem_cons.1 hf with rfl|hf
  ·cases hb:BM r f.1 with
   |none=>dsimp only;rw[if_pos rfl]
   |some v=>
    obtain⟨g,hg,he⟩:=(He r f.1).1 (by rw[hb];rfl)
    exact absurd he.symm (h2.1 g hg)
  ·rw[ih hf h2.2]
theorem PR.AbB{l:List Av}(h:PR l){p v:Bs}:BM l p=some v↔(p,v)∈l:=by
 constructor
 ·intro hb;obtain⟨f,hf,rfl⟩:=(He l p).1 (by rw[hb];rfl)
  have:=h.blob hf;rw[this]at hb;cases hb;exact hf
 ·intro hf;exact h.blob hf
theorem Aiq{a b:List Av}(ha:PR a)(hb:PR b)(p:Bs)(k:Int):(p,k)∈P4 a b↔RR a b p=some k:=by
 unfold P4 RR;rw[Qd3,List.mem_filterMap,List.mem_filterMap];constructor
 ·rintro(⟨f,hf,h⟩|⟨f,hf,h⟩)
  ·have h1:=WY h;have h1:p=f.1:=h1;subst h1;rw[ha.blob hf];unfold JB at h;split at h
   ·rename_i h2;rw[h2];cases h;rfl
   ·rename_i v h2;rw[h2];split at h
    ·cases h
    ·rename_i h3;cases h;dsimp only;rw[if_neg (fun e=>h3 e.symm)]
  ·obtain⟨h1,h2⟩:=VB h;have h1:p=f.1:=h1;subst h1;rw[h2,hb.blob hf];unfold Oq at h;rw[h2]at h;cases h;rfl
 ·intro h
  cases h1:BM a p with
  |none=>
   cases h2:BM b p with
   |none=>rw[h1,h2]at h;cases h
   |some v=>
    rw[h1,h2]at h;cases h;exact .inr ⟨(p,v),hb.AbB.1 h2,by unfold Oq;rw[h1]⟩
  |some u=>
   refine .inl ⟨(p,u),ha.AbB.1 h1,?_⟩;unfold JB
   cases h2:BM b p with
   |none=>rw[h1,h2]at h;cases h;rfl
   |some v=>
    rw[h1,h2]at h;dsimp only at h⊢;split at h
    ·cases h
    ·rename_i h3;cases h;rw[if_neg (fun e=>h3 e.symm)]
theorem AbW{l:List Av}(h:l.Pairwise fun x y=>x.1≠y.1){g:Av→Option BN}(hg:∀f t,g f=some t→t.1=f.1):(l.filterMap g).Pairwise fun x y=>x.1≠y.1:=
 h.filterMap g fun x y hxy t ht u hu=>by rw[hg x t ht,hg y u hu];exact hxy
theorem Aj8{a b:List Av}(ha:PR a)(hb:PR b):(P4 a b).Pairwise fun x y=>x.1≠y.1:=by
 unfold P4;refine List.pairwise_append.2 ⟨AbW ha.ne fun _ _ h=>WY h,AbW hb.ne fun _ _ h=>(VB h).1,fun x hx y hy e=>?_⟩;obtain⟨f,hf,h1⟩:=List.mem_filterMap.1 hx;obtain⟨g,hg,h2⟩:=List.mem_filterMap.1 hy;obtain⟨h3,h4⟩:=VB h2;rw[←h3,←e,WY h1,ha.blob hf]at h4;cases h4
theorem Aib(a b:List Av):(P4 a b).length≤a.length+b.length:=by
 unfold P4;rw[Qa2];exact Nat.add_le_add (Qe4 ..) (Qe4 ..)
theorem Abl{a b:List Av}(ha:PR a)(hb:PR b){d:List BN}(hp:d.Perm (P4 a b))(hs:d.Pairwise fun x y=>Op.bytesLess y.1 x.1=false):Ii a b d:=by
 refine⟨?_,fun p k=>by rw[hp.mem_iff,Aiq ha hb]⟩
 have hn:d.Pairwise fun x y=>x.1≠y.1:=hp.symm.pairwise (Aj8 ha hb) fun h e=>h e.symm
 unfold AkZ;refine(hs.and hn).imp ?_;rintro x y ⟨h1,h2⟩
 rcases VK h2 with h3|h3
 ·exact h3
 ·rw[h3]at h1;cases h1
theorem DX{α:Type}[DecidableEq α]:∀{l m:List α},l.Nodup→(∀x∈l,x∈m)→l.length≤m.length
 |[],_,_,_=>Qe9 _
 |a::l,m,hn,hs=>by
  have h2:=List.nodup_cons.1 hn;have ha:=hs a (Qa6 ..)
  have ih:=DX (m:=m.erase a) h2.2 fun x hx=>(Qh4 (show x≠a from fun e=>h2.1 (by rw[←e];exact hx))).2 (hs x (Qa8 _ hx))
  rw[Qg6 ha]at ih;have:=List.length_pos_of_mem ha;rw[Qa1];omega
def rng(n:Nat):List Int:=(Qe7 n).map fun(i:Nat)=>(i:Int)
theorem Dk{n:Nat}{x:Int}:x∈rng n↔0≤x∧x<n:=by
 unfold rng;rw[List.mem_map];constructor
 ·rintro⟨i,hi,rfl⟩;have:=List.mem_range.1 hi;omega
 ·intro h;exact⟨x.toNat,List.mem_range.2 (by omega),by omega⟩
theorem TJ(n:Nat):(rng n).Nodup:=by
 unfold rng;rw[Qb4,Qc4]
 exact(List.nodup_iff_pairwise_ne.1 List.nodup_range).imp fun h e=>h (by omega)
theorem Fy(n:Nat):(rng n).length=n:=by simp[rng]
theorem Ab8(n:Nat):rng (n+1)=rng n++[(n:Int)]:=by
 unfold rng;rw[List.range_succ,Qb6];rfl
def Dh(g:List Ai)(L:List Int)(p:Int):Nat:=(L.map fun c=>(A6 g c).count p).sum
def ndG(g:List Ai):Prop:=∀c,inR g c→(A6 g c).Nodup
theorem AhS(g:List Ai)(L M:List Int)(p:Int):Dh g (L++M) p=Dh g L p+Dh g M p:=by
 unfold Dh;rw[Qb6,List.sum_append]
theorem Vb{g:List Ai}{p:Int}:∀{L:List Int},(∀c∈L,(A6 g c).count p≤1)→Dh g L p≤L.length
 |[],_=>Qd4 _
 |c::L,h=>by
  have h1:=h c (Qa6 ..)
  have h2:=Vb (g:=g) (p:=p) (L:=L) fun x hx=>h x (Qa8 _ hx)
  unfold Dh at h2⊢;rw[Qd1,Qe1,Qa1];omega
theorem JK{g:List Ai}{p:Int}:∀{L:List Int},Dh g L p=0↔∀c∈L,p∉A6 g c
 |[]=>by simp[Dh]
 |c::L=>by
  have ih:=JK (g:=g) (p:=p) (L:=L)
  have hs:Dh g (c::L) p=(A6 g c).count p+Dh g L p:=by unfold Dh;rw[Qd1,Qe1]
  rw[hs];constructor
  ·intro h x hx
   rcases List.mem_cons.1 hx with rfl|hx
   ·intro hm;have:=List.count_pos_iff.2 hm;omega
   ·exact ih.1 (by omega) x hx
  ·intro h;have h1:(A6 g c).count p=0:=List.count_eq_zero.2 (h c (Qa6 ..))
   have h2:=ih.2 fun x hx=>h x (Qa8 _ hx)
   omega
def Kx(g:List Ai)(Q:List Int):List Int:=(rng g.length).filter fun c=>!decide (c∈Q)
theorem Vj{g:List Ai}{Q:List Int}{c:Int}:c∈Kx g Q↔inR g c∧c∉Q:=by
 unfold Kx;rw[Qe3,Dk];simp[inR]
theorem Qt(g:List Ai)(Q:List Int)(c p:Int)(hq:c∉Q):∀{R:List Int},R.Nodup→c∈R→Dh g (R.filter fun x=>!decide (x∈Q)) p=Dh g (R.filter fun x=>!decide (x∈Q++[c])) p+(A6 g c).count p
 |[],_,h=>nomatch h
 |a::R,hn,h=>by
  have hn2:=List.nodup_cons.1 hn
  by_cases e:a=c
  ·subst e
   have hsame:(R.filter fun x=>!decide (x∈Q++[a]))=R.filter fun x=>!decide (x∈Q):=by
    refine List.filter_congr fun x hx=>?_
    have hxa:x≠a:=fun e=>hn2.1 (by rw[←e];exact hx)
    simp[hxa]
   rw[Qd0 (by simpa using hq),Qc9 (by simp),hsame];unfold Dh;rw[Qd1,Qe1];omega
  ·have hc:c∈R:=(List.mem_cons.1 h).resolve_left fun h=>e h.symm
   have ih:=Qt g Q c p hq hn2.2 hc
   by_cases ha:a∈Q
   ·rw[Qc9 (by simpa using ha),Qc9 (by simp[ha])];exact ih
   ·rw[Qd0 (by simpa using ha),Qd0 (by simp[ha,e])];unfold Dh at ih⊢;rw[Qd1,Qe1,Qd1,Qe1];omega
theorem Af0{g:List Ai}{Q:List Int}{c:Int}(p:Int)(hq:c∉Q)(hc:inR g c):Dh g (Kx g Q) p=Dh g (Kx g (Q++[c])) p+(A6 g c).count p:=
 Qt g Q c p hq (TJ _) (Dk.2 hc)
theorem AkP(g:List Ai):Kx g []=rng g.length:=by
 unfold Kx;rw[List.filter_eq_self];intro a _;simp
structure UpG(g:List Ai)(d:List Int):Prop where
 nd:d.Nodup
 rn:∀p∈d,inR g p
 ord:∀i,i<d.length→∀c,inR g c→d.getD i 0∈A6 g c→c∈d.take i
 rem:∀p,inR g p→p∉d→∃c,inR g c∧c∉d∧p∈A6 g c
def Nh(g:List Ai):Prop:=∃c,inR g c∧∃p∈A6 g c,Rch g p c
theorem UpG.len{g:List Ai}{d:List Int}(h:UpG g d):d.length≤g.length:=by
 have:=DX h.nd (m:=rng g.length) fun x hx=>Dk.2 (h.rn x hx)
 rwa [Fy]at this
theorem UpG.all{g:List Ai}{d:List Int}(h:UpG g d)(hl:g.length≤d.length){p:Int}(hp:inR g p):p∈d:=by
 by_cases e:p∈d
 ·exact e
 ·have:=DX h.nd (m:=(rng g.length).erase p) fun x hx=>(Qh4 (show x≠p from fun e2=>e (by rw[←e2];exact hx))).2 (Dk.2 (h.rn x hx))
  have hm:=Dk.2 hp;rw[Qg6 hm,Fy]at this;have:=hp.1;have:=hp.2;omega
theorem AaQ{g:List Ai}{d:List Int}(h:UpG g d):∀(m:Nat) (x:Int) (L:List Int),g.length -(x::L).length<m→(x::L).Nodup→(∀y∈x::L,inR g y∧Rch g x y)→x∉d→Nh g
 |0,_,_,h0,_,_,_=>absurd h0 (Qh0 _)
 |m+1,x,L,hm,hn,hr,hx=>by
  obtain⟨c,hc,hcd,hp⟩:=h.rem x (hr x (Qa6 ..)).1 hx
  by_cases e:c∈x::L
  ·exact⟨c,hc,x,hp,(hr c e).2⟩
  ·have hl:=DX (List.nodup_cons.2 ⟨e,hn⟩) (m:=rng g.length) fun y hy=>by
    rcases List.mem_cons.1 hy with rfl|hy
    ·exact Dk.2 hc
    ·exact Dk.2 (hr y hy).1
   rw[Fy]at hl;simp only[Qa1]at hl hm;refine AaQ h m c (x::L) (by simp only[Qa1];omega) (List.nodup_cons.2 ⟨e,hn⟩) (fun y hy=>?_) hcd
   rcases List.mem_cons.1 hy with rfl|hy
   ·exact⟨hc,.refl _⟩
   ·exact⟨(hr y hy).1,.step hp (hr y hy).2⟩
theorem AmQ{g:List Ai}{d:List Int}(hv:U5 g)(h:UpG g d):d.length<g.length↔Nh g:=by
 constructor
 ·intro hl
  have:∃p,inR g p∧p∉d:=by
   by_cases e:∃p,inR g p∧p∉d
   ·exact e
   ·have:=DX (TJ g.length) (m:=d) fun x hx=>by
     by_cases e2:x∈d
     ·exact e2
     ·exact absurd ⟨x,Dk.1 hx,e2⟩ e
    rw[Fy]at this;omega
  obtain⟨p,hp,hpd⟩:=this;refine AaQ h (g.length+1) p [] (by simp only[Qa1,Qa5];omega) (by simp) (fun y hy=>?_) hpd
  rw[List.mem_singleton.1 hy];exact⟨hp,.refl _⟩
 ·rintro⟨c,hc,p,hp,hr⟩
  by_cases hl:d.length<g.length
  ·exact hl
  exfalso
  have hall:=fun{x:Int} (hx:inR g x)=>h.all (by omega) hx
  have hidx:∀{x:Int},inR g x→∃i,∃hi:i<d.length,d[i]=x:=fun hx=>List.getElem_of_mem (hall hx)
  have hinj:∀{i j:Nat} (hi:i<d.length) (hj:j<d.length),d[i]=d[j]→i=j:=fun{i j} hi hj e=>by
   have hpw:=List.pairwise_iff_getElem.1 (List.nodup_iff_pairwise_ne.1 h.nd)
   rcases Nat.lt_trichotomy i j with h1|h1|h1
   ·exact absurd e (hpw i j hi hj h1)
   ·exact h1
   ·exact absurd e.symm (hpw j i hj hi h1)
  have hstep:∀{a b:Int} {i j:Nat} (hi:i<d.length) (hj:j<d.length),inR g a→d[i]=a→d[j]=b→b∈A6 g a→i<j:=fun{a b i j} hi hj ha e1 e2 hb=>by
   have h1:=h.ord j hj a ha (by rw[getD_eq hj,e2];exact hb)
   obtain⟨k,hk,hke⟩:=List.getElem_of_mem h1;rw[List.getElem_take]at hke
   have hk2:k<j∧k<d.length:=by rw[Qa9]at hk;omega
   have:=hinj hk2.2 hi (by rw[hke,e1]);omega
  have hmono:∀{a b:Int},Rch g a b→inR g a→∀{i j:Nat} (hi:i<d.length) (hj:j<d.length),d[i]=a→d[j]=b→i≤j:=by
   intro a b hab
   induction hab with
   |refl c=>intro _ i j hi hj e1 e2;exact Nat.le_of_eq (hinj hi hj (by rw[e1,e2]))
   |step hq _ ih=>
    intro ha i j hi hj e1 e2;have hqr:=hv _ ha _ hq;obtain⟨k,hk,hke⟩:=hidx hqr;have h1:=hstep hi hk ha e1 hke hq;have h2:=ih hqr hk hj hke e2;omega
  have hpr:=hv c hc p hp;obtain⟨i,hi,hie⟩:=hidx hc;obtain⟨j,hj,hje⟩:=hidx hpr;have h1:=hstep hi hj hc hie hje hp;have h2:=hmono hr hpr hj hi hje hie;omega
structure Up3(g:List Ai)(ch out:List Int)(k:Nat):Prop where
 len:ch.length=g.length
 cnt:∀p,inR g p→ch.getD p.toNat 0=((Dh g (Kx g (out.take k)) p:Nat):Int)
 mem:∀p,inR g p→(p∈out↔ch.getD p.toNat 0=0)
 rn:∀p∈out,inR g p
 nd:out.Nodup
 ord:∀i,i<out.length→∀c,inR g c→out.getD i 0∈A6 g c→c∈out.take i
 kl:k≤out.length
structure Up4(g:List Ai)(c:Int)(Q ch out:List Int)(k j:Nat):Prop where
 len:ch.length=g.length
 cnt:∀p,inR g p→ch.getD p.toNat 0=((Dh g (Kx g Q) p+((A6 g c).drop j).count p:Nat):Int)
 mem:∀p,inR g p→(p∈out↔ch.getD p.toNat 0=0)
 rn:∀p∈out,inR g p
 nd:out.Nodup
 ord:∀i,i<out.length→∀c,inR g c→out.getD i 0∈A6 g c→c∈out.take i
 pre:out.take (k+1)=Q
 kl:k<out.length
theorem ZS{g:List Ai}{out:List Int}(nd:out.Nodup)(rn:∀p∈out,inR g p):out.length≤g.length:=by
 have:=DX nd (m:=rng g.length) fun x hx=>Dk.2 (rn x hx)
 rwa [Fy]at this
theorem Aj3{l:List Int}(hn:l.Nodup){j:Nat}(hj:j<l.length):l.drop j=l.getD j 0::l.drop (j+1)∧(l.drop (j+1)).count (l.getD j 0)=0:=by
 have h1:l.drop j=l.getD j 0::l.drop (j+1):=by rw[Qc1 hj,getD_eq hj]
 refine⟨h1,List.count_eq_zero.2 ?_⟩;have h2:(l.drop j).Nodup:=List.Nodup.sublist (List.drop_sublist j l) hn;rw[h1]at h2;exact(List.nodup_cons.1 h2).1
def Tb(P:Pg):Prop:=∀g:List Ai,g.length≤1000000→U5 g→ndG g→(∀c,inR g c→(A6 g c).length≤1000000)→Fn P Ajy Hu g fun(d:List Int) _=>UpG g d
theorem AgZ(h:Has P Jq):Tb P:=by
 intro g hn hv hnd hpl;refine XM h ?_;unfold Rf;dsimp only;refine⟨⟨Qb1 _,Qa3 _,by omega⟩,?_⟩
 have hc1:∀(L:List Int) (p:Int),(∀c∈L,inR g c)→Dh g L p≤L.length:=fun L p hL=>Vb fun c hc=>List.nodup_iff_count.1 (hnd c (hL c hc)) p
 have hrl:∀(i:Nat) (p:Int),i≤g.length→Dh g (rng i) p≤i:=fun i p hi=>by
  have:=hc1 (rng i) p fun c hc=>⟨(Dk.1 hc).1,by have:=(Dk.1 hc).2;omega⟩
  rwa [Fy]at this
 refine Ah.mid (fun ch=>ch.length=g.length∧∀p,inR g p→ch.getD p.toNat 0=((Dh g (rng g.length) p:Nat):Int)) ?_ ?_
 ·refine A4.of (fun q=>(0≤q.2∧q.2≤g.length)∧q.1.length=g.length∧∀p,inR g p→q.1.getD p.toNat 0=((Dh g (rng q.2.toNat) p:Nat):Int)) (fun q=>(g.length -q.2).toNat) ⟨⟨Qa3 _,Qb1 _⟩,by simp,fun p hp=>by
   rw[Wb (by have:=hp.1;have:=hp.2;omega)];rfl⟩ ?_
  rintro⟨ch,i⟩ ⟨⟨i0,i1⟩,hl,hcn⟩;dsimp only at i0 i1 hl hcn⊢;refine⟨fun hi=>?_,fun hi=>?_⟩
  ·have hi:=of_decide_eq_true hi
   have hi2:i.toNat<g.length:=by omega
   have hir:inR g i:=⟨i0,hi⟩
   have hpc:=hpl i hir
   have hit:((i.toNat:Nat):Int)=i:=by omega
   refine Ah.mid (fun ch=>ch.length=g.length∧∀p,inR g p→ch.getD p.toNat 0=((Dh g (rng (i.toNat+1)) p:Nat):Int)) ⟨⟨i0,hi⟩,hi2,?_⟩ ?_
   ·refine Ah.mid (fun ch=>ch.length=g.length∧∀p,inR g p→ch.getD p.toNat 0=((Dh g (rng (i.toNat+1)) p:Nat):Int)) ?_ fun _ h=>h
    have hnx:∀p,Dh g (rng (i.toNat+1)) p=Dh g (rng i.toNat) p+(A6 g i).count p:=fun p=>by
     rw[Ab8,AhS,hit];unfold Dh;simp
    show A4 _ _
    refine A4.of (fun q=>(0≤q.2∧q.2≤(A6 g i).length)∧q.1.length=g.length∧∀p,inR g p→q.1.getD p.toNat 0=((Dh g (rng i.toNat) p+((A6 g i).take q.2.toNat).count p:Nat):Int)) (fun q=>((A6 g i).length -q.2).toNat) ⟨⟨Qa3 _,Qb1 _⟩,hl,fun p hp=>by
     rw[hcn p hp];rfl⟩ ?_
    rintro⟨ch,j⟩ ⟨⟨j0,j1⟩,hl,hcn⟩;dsimp only at j0 j1 hl hcn⊢;refine⟨fun hj=>?_,fun hj=>?_⟩
    ·have hj:j<(A6 g i).length:=of_decide_eq_true hj
     have hj2:j.toNat<(A6 g i).length:=by omega
     have hqm:(A6 g i).getD j.toNat 0∈A6 g i:=BK hj2
     have htk:(A6 g i).take (j.toNat+1)=(A6 g i).take j.toNat++[(A6 g i).getD j.toNat 0]:=by
      rw[Qf1 hj2,getD_eq hj2]
     have hqr:=hv i hir _ hqm;have hcq:=hcn _ hqr;have hd1:=hrl i.toNat ((A6 g i).getD j.toNat 0) (by omega);have hd2:((A6 g i).take j.toNat).count ((A6 g i).getD j.toNat 0)≤1000000:=Qb8 Qc5 (by rw[Qa9];omega)
     show Ah _ _;have hqe:(g.getD i.toNat Ak).1.getD j.toNat 0=(A6 g i).getD j.toNat 0:=rfl;rw[hqe];generalize(A6 g i).getD j.toNat 0=q at hqm htk hqr hcq hd1 hd2⊢
     have hql:q.toNat<ch.length:=by have:=hqr.1;have:=hqr.2;omega
     have hqlt:q<((ch.length:Nat):Int):=by have:=hqr.2;omega
     refine Ah.mid (fun t=>t=ch.set q.toNat (ch.getD q.toNat 0+1)) ⟨⟨j0,hj⟩,hj2,⟨hqr.1,hqlt⟩,hql,⟨hqr.1,hqlt⟩,hql,by rw[w64 (by omega) (by omega)]⟩ ?_;rintro t rfl;rw[w64 (by omega) (by omega)];refine⟨⟨⟨by omega,by omega⟩,by rw[Qc2];exact hl,fun p hp=>?_⟩,by omega⟩
     rw[FP hql,show(j+1).toNat=j.toNat+1 by omega,htk,Qb3,Qh5];have hp0:=hp.1;have hq0:=hqr.1
     by_cases e:p=q
     ·subst e;rw[if_pos rfl,hcq];simp;omega
     ·rw[if_neg (by omega),hcn p hp]
      have:(q==p)=false:=beq_eq_false_iff_ne.2 fun h=>e h.symm
      rw[this];simp
    ·have hj:¬j<(A6 g i).length:=of_decide_eq_false hj;refine⟨hl,fun p hp=>?_⟩;rw[hcn p hp,Qb0 (by omega),hnx]
   ·rintro t ⟨ht,htc⟩;rw[w64 (by omega) (by omega)];exact⟨⟨⟨by omega,by omega⟩,ht,by rw[show(i+1).toNat=i.toNat+1 by omega];exact htc⟩,by omega⟩
  ·have hi:=of_decide_eq_false hi;rw[show i.toNat=g.length by omega]at hcn;exact⟨hl,hcn⟩
 rintro ch ⟨hl,hcn⟩;refine Ah.mid (fun out=>Up3 g ch out 0) ?_ ?_
 ·refine A4.of (fun q=>(0≤q.2∧q.2≤g.length)∧q.1.Nodup∧∀x,x∈q.1↔(0≤x∧x<q.2)∧ch.getD x.toNat 0=0) (fun q=>(g.length -q.2).toNat) ⟨⟨Qa3 _,Qb1 _⟩,Qh2,fun x=>⟨fun h=>(nomatch h),fun h=>by have:=h.1.1;have:=h.1.2;omega⟩⟩ ?_
  rintro⟨out,i⟩ ⟨⟨i0,i1⟩,hnd2,hm⟩;dsimp only at i0 i1 hnd2 hm⊢
  have hol:out.length≤g.length:=ZS hnd2 fun p hp=>⟨((hm p).1 hp).1.1,by have:=((hm p).1 hp).1.2;omega⟩
  refine⟨fun hi=>?_,fun hi=>?_⟩
  ·have hi:=of_decide_eq_true hi
   have hi2:i.toNat<ch.length:=by omega
   refine Ah.mid (fun t=>t.Nodup∧∀x,x∈t↔(0≤x∧x<i+1)∧ch.getD x.toNat 0=0) ⟨⟨i0,hi⟩,hi2,?_⟩ fun t ht=>?_
   ·refine Ah.mid (fun t=>t.Nodup∧∀x,x∈t↔(0≤x∧x<i+1)∧ch.getD x.toNat 0=0) ⟨fun hz=>⟨by simp only[Qa1,Qa5];omega,?_,fun x=>?_⟩,fun hz=>⟨hnd2,fun x=>?_⟩⟩ fun _ h=>h
    ·rw[Qd7];refine⟨hnd2,by simp,fun a ha b hb e=>?_⟩;rw[Qe5]at hb;have:=((hm a).1 ha).1.2;omega
    ·have hz:ch.getD i.toNat 0=0:=by simpa using hz
     rw[Qd3,Qe5,hm x];constructor
     ·rintro(⟨h1,h2⟩|rfl)
      ·exact⟨⟨h1.1,by omega⟩,h2⟩
      ·exact⟨⟨i0,by omega⟩,hz⟩
     ·rintro⟨h1,h2⟩
      by_cases e:x=i
      ·exact .inr e
      ·exact .inl ⟨⟨h1.1,by omega⟩,h2⟩
    ·have hz:ch.getD i.toNat 0≠0:=by simpa using hz
     rw[hm x];constructor
     ·rintro⟨h1,h2⟩;exact⟨⟨h1.1,by omega⟩,h2⟩
     ·rintro⟨h1,h2⟩
      by_cases e:x=i
      ·exact absurd (by rw[←e];exact h2) hz
      ·exact⟨⟨h1.1,by omega⟩,h2⟩
   ·rw[w64 (by omega) (by omega)];exact⟨⟨⟨by omega,by omega⟩,ht⟩,by omega⟩
  ·have hi:=of_decide_eq_false hi;refine⟨hl,fun p hp=>?_,fun p hp=>?_,fun p hp=>?_,hnd2,fun k hk c hc hp=>?_,Qe9 _⟩
   ·rw[hcn p hp,List.take_zero,AkP]
   ·rw[hm p];exact⟨fun h=>h.2,fun h=>⟨⟨hp.1,by have:=hp.2;omega⟩,h⟩⟩
   ·exact⟨((hm p).1 hp).1.1,by have:=((hm p).1 hp).1.2;omega⟩
   ·have hz:=((hm _).1 (BK (d:=(0:Int)) hk)).2
    have hr:inR g (out.getD k 0):=⟨((hm _).1 (BK (d:=(0:Int)) hk)).1.1,by have:=((hm _).1 (BK (d:=(0:Int)) hk)).1.2;omega⟩
    rw[hcn _ hr]at hz
    have hz2:Dh g (rng g.length) (out.getD k 0)=0:=by omega
    exact absurd hp (JK.1 hz2 c (Dk.2 hc))
 intro out0 hU0
 refine Ah.mid (fun out=>UpG g out) ?_ fun _ h=>h
 refine A4.of (fun q=>0≤q.2.2∧Up3 g q.1 q.2.1 q.2.2.toNat) (fun q=>(g.length -q.2.2).toNat) ⟨Qa3 _,hU0⟩ ?_;rintro⟨ch,out,k⟩ ⟨k0,hU⟩;dsimp only at k0 hU⊢;have hol:=ZS hU.nd hU.rn;have hkl:=hU.kl;refine⟨fun hk=>?_,fun hk=>?_⟩
 ·have hk:=of_decide_eq_true hk
  have hk2:k.toNat<out.length:=by omega
  have hcm:out.getD k.toNat 0∈out:=BK hk2;have hcr:=hU.rn _ hcm
  have hpre:out.take (k.toNat+1)=out.take k.toNat++[out.getD k.toNat 0]:=by rw[Qf1 hk2,getD_eq hk2]
  have hcn2:out.getD k.toNat 0∉out.take k.toNat:=fun hm=>by
   have h2:(out.take (k.toNat+1)).Nodup:=List.Nodup.sublist (List.take_sublist _ _) hU.nd;rw[hpre,Qd7]at h2;exact h2.2.2 _ hm _ (List.mem_singleton.2 rfl) rfl
  generalize hc:out.getD k.toNat 0=c at hcm hcr hpre hcn2
  have hcl:c.toNat<g.length:=by have:=hcr.1;have:=hcr.2;omega
  have hpc:=hpl c hcr
  refine Ah.mid (fun q=>Up3 g q.1 q.2 (k.toNat+1)) ⟨⟨k0,hk⟩,hk2,?_⟩ fun q hq=>?_
  ·refine⟨⟨hcr.1,hcr.2⟩,hcl,?_⟩
   refine Ah.mid (fun q=>Up3 g q.1 q.2 (k.toNat+1)) ?_ fun _ h=>h
   show A4 _ _;refine A4.of (fun q=>(0≤q.2.2∧q.2.2≤(A6 g c).length)∧Up4 g c (out.take (k.toNat+1)) q.1 q.2.1 k.toNat q.2.2.toNat) (fun q=>((A6 g c).length -q.2.2).toNat) ⟨⟨Qa3 _,Qb1 _⟩,hU.len,fun p hp=>?_,hU.mem,hU.rn,hU.nd,hU.ord,rfl,hk2⟩ ?_
   ·rw[hU.cnt p hp,Af0 p hcn2 hcr,←hpre];rfl
   rintro⟨ch,out',j⟩ ⟨⟨j0,j1⟩,hV⟩;dsimp only at j0 j1 hV⊢;have hol':=ZS hV.nd hV.rn;refine⟨fun hj=>?_,fun hj=>?_⟩
   ·have hj:j<(A6 g c).length:=of_decide_eq_true hj
    have hj2:j.toNat<(A6 g c).length:=by omega
    have hqm:(A6 g c).getD j.toNat 0∈A6 g c:=BK hj2;have hqr:=hv c hcr _ hqm;obtain⟨hdr,hdz⟩:=Aj3 (hnd c hcr) hj2;show Ah _ _;have hqe:(g.getD c.toNat Ak).1.getD j.toNat 0=(A6 g c).getD j.toNat 0:=rfl;rw[hqe];generalize(A6 g c).getD j.toNat 0=q at hqm hqr hdr hdz⊢
    have hql:q.toNat<ch.length:=by have:=hqr.1;have:=hqr.2;have:=hV.len;omega
    have hqlt:q<((ch.length:Nat):Int):=by have:=hqr.2;have:=hV.len;omega
    have hcq:=hV.cnt q hqr
    have hdb:Dh g (Kx g (out.take (k.toNat+1))) q≤g.length:=by
     refine Qb8 (hc1 _ q fun x hx=>(Vj.1 hx).1) ?_;unfold Kx;exact Qb8 (List.length_filter_le ..) (by rw[Fy];exact Qd4 _)
    rw[hdr,Qd9,hdz]at hcq
    have hw:IntKind.i64.wrap (ch.getD q.toNat 0 -1)=((Dh g (Kx g (out.take (k.toNat+1))) q:Nat):Int):=by rw[w64 (by omega) (by omega)];omega
    rw[hw]
    have hgs:(ch.set q.toNat ((Dh g (Kx g (out.take (k.toNat+1))) q:Nat):Int)).getD q.toNat 0=((Dh g (Kx g (out.take (k.toNat+1))) q:Nat):Int):=by rw[FP hql,if_pos rfl]
    rw[hgs];have hls:(ch.set q.toNat ((Dh g (Kx g (out.take (k.toNat+1))) q:Nat):Int)).length=ch.length:=Qc2
    have hqno:q∉out':=fun hm=>by
     have:=(hV.mem q hqr).1 hm;omega
    have hcnt:∀p,inR g p→(ch.set q.toNat ((Dh g (Kx g (out.take (k.toNat+1))) q:Nat):Int)).getD p.toNat 0=((Dh g (Kx g (out.take (k.toNat+1))) p+((A6 g c).drop (j.toNat+1)).count p:Nat):Int):=fun p hp=>by
     rw[FP hql];have hp0:=hp.1;have hq0:=hqr.1
     by_cases e:p=q
     ·subst e;rw[if_pos rfl,hdz];rfl
     ·rw[if_neg (by omega),hV.cnt p hp,hdr,Qf2 (fun h=>e h.symm)]
    have hgo:∀p,inR g p→p≠q→(ch.set q.toNat ((Dh g (Kx g (out.take (k.toNat+1))) q:Nat):Int)).getD p.toNat 0=ch.getD p.toNat 0:=fun p hp e=>by
     rw[FP hql];have hp0:=hp.1;have hq0:=hqr.1;rw[if_neg (by omega)]
    have hkl:=hV.kl
    have hqp:∀c',inR g c'→Dh g (Kx g (out.take (k.toNat+1))) q=0→q∈A6 g c'→c'∈out':=fun c' hc' hz hq=>by
     by_cases e:c'∈out.take (k.toNat+1)
     ·rw[←hV.pre]at e;exact Qf5 e
     ·exact absurd hq (JK.1 hz c' (Vj.2 ⟨hc',e⟩))
    generalize hch:ch.set q.toNat ((Dh g (Kx g (out.take (k.toNat+1))) q:Nat):Int)=ch' at*;refine Ah.mid (fun d=>Up4 g c (out.take (k.toNat+1)) d.1 d.2 k.toNat (j.toNat+1)) ⟨⟨j0,hj⟩,hj2,⟨hqr.1,hqlt⟩,hql,⟨hqr.1,hqlt⟩,hql,⟨hqr.1,by rw[hls];exact hqlt⟩,by rw[hls];exact hql,?_⟩ ?_
    ·refine Ah.mid (fun d=>Up4 g c (out.take (k.toNat+1)) ch' d k.toNat (j.toNat+1)) ⟨fun hz=>⟨by simp only[Qa1,Qa5];omega,?_⟩,fun hz=>?_⟩ fun _ h=>h
     ·have hz:Dh g (Kx g (out.take (k.toNat+1))) q=0:=by
       have:((Dh g (Kx g (out.take (k.toNat+1))) q:Nat):Int)=0:=beq_iff_eq.1 hz;omega
      refine⟨by rw[hls];exact hV.len,hcnt,fun p hp=>?_,fun p hp=>?_,?_,fun i hi c' hc' hp=>?_,?_,by rw[Qa2];omega⟩
      ·rw[Qd3,Qe5]
       by_cases e:p=q
       ·subst e;exact⟨fun _=>by rw[hgs,hz];rfl,fun _=>.inr rfl⟩
       ·rw[hgo p hp e,←hV.mem p hp];exact⟨fun h=>h.resolve_right e,.inl⟩
      ·rcases List.mem_append.1 hp with hp|hp
       ·exact hV.rn p hp
       ·rw[List.mem_singleton.1 hp];exact hqr
      ·rw[Qd7];refine⟨hV.nd,by simp,fun a ha b hb e=>?_⟩;rw[Qe5]at hb;exact hqno (by rw[←hb,←e];exact ha)
      ·by_cases e:i<out'.length
       ·rw[Ty e]at hp;rw[Qd5 (by omega)];exact hV.ord i e c' hc' hp
       ·rw[Qa2]at hi;simp only[Qa1,Qa5]at hi
        obtain rfl:i=out'.length:=by omega
        rw[Wa]at hp;rw[Qd5 (Qd4 _),Qg7];exact hqp c' hc' hz hp
      ·rw[Qd5 (by omega)];exact hV.pre
     ·have hz:((Dh g (Kx g (out.take (k.toNat+1))) q:Nat):Int)≠0:=by simpa using hz
      refine⟨by rw[hls];exact hV.len,hcnt,fun p hp=>?_,hV.rn,hV.nd,hV.ord,hV.pre,hV.kl⟩
      by_cases e:p=q
      ·subst e;exact⟨fun h=>absurd h hqno,fun h=>absurd (by rw[hgs]at h;exact h) hz⟩
      ·rw[hgo p hp e];exact hV.mem p hp
    ·rintro⟨ch2,o⟩ hq;rw[w64 (by omega) (by omega)];exact⟨⟨⟨by omega,by omega⟩,by rw[show(j+1).toNat=j.toNat+1 by omega];exact hq⟩,by omega⟩
   ·have hj:¬j<(A6 g c).length:=of_decide_eq_false hj;refine⟨hV.len,fun p hp=>?_,hV.mem,hV.rn,hV.nd,hV.ord,hV.kl⟩;rw[hV.cnt p hp,Qe8 (by omega),hV.pre];rfl
  ·rw[w64 (by omega) (by omega)];exact⟨⟨by omega,by rw[show(k+1).toNat=k.toNat+1 by omega];exact hq⟩,by omega⟩
 ·have hk:=of_decide_eq_false hk;refine⟨hU.nd,hU.rn,hU.ord,fun p hp hpo=>?_⟩
  have h1:ch.getD p.toNat 0≠0:=fun h=>hpo ((hU.mem p hp).2 h)
  rw[hU.cnt p hp,Qb0 (by omega)]at h1
  have h2:¬Dh g (Kx g out) p=0:=by omega
  rw[JK]at h2
  by_cases e:∃c,inR g c∧c∉out∧p∈A6 g c
  ·exact e
  ·exact absurd (fun c hc hpc=>e ⟨c,(Vj.1 hc).1,(Vj.1 hc).2,hpc⟩) h2
def MH(g:List Ai):Prop:=g.length≤300∧∀c∈g,c.1.length≤32
def Ab5(n:Nat)(l:List Int)(j:Nat):Prop:=(0≤l.getD j 0∧l.getD j 0<(n:Int))∧l.getD j 0∉l.take j
def Ab6(n:Nat)(l:List Int):Prop:=∀j,j<l.length→Ab5 n l j
def L9(g:List Ai):Prop:=∀c∈g,Ab6 g.length c.1
def Tj(g:List Ai):Prop:=∀c∈g,0≤c.2.1∧c.2.1≤2147483647
def LU:List Ai→Int
 |[]=>0
 |c::g=>if Ga c.2.2≠0 then Ga c.2.2 else LU g
def Gg(g:List Ai)(e:Int):Prop:=(¬MH g→e=1)∧(MH g→¬L9 g→e=230)∧(MH g→L9 g→Nh g→e=231)∧(MH g→L9 g→¬Nh g→¬Tj g→e=3)∧(MH g→L9 g→¬Nh g→Tj g→e=LU g)
theorem Wm{g:List Ai}{e d:Int}(h:Gg g e)(k:Gg g d):e=d:=by
 by_cases h1:MH g
 ·by_cases h2:L9 g
  ·by_cases h3:Nh g
   ·rw[h.2.2.1 h1 h2 h3,k.2.2.1 h1 h2 h3]
   ·by_cases h4:Tj g
    ·rw[h.2.2.2.2 h1 h2 h3 h4,k.2.2.2.2 h1 h2 h3 h4]
    ·rw[h.2.2.2.1 h1 h2 h3 h4,k.2.2.2.1 h1 h2 h3 h4]
  ·rw[h.2.1 h1 h2,k.2.1 h1 h2]
 ·rw[h.1 h1,k.1 h1]
theorem AlX{g:List Ai}(h:¬MH g):Gg g 1:=⟨fun _=>rfl,fun k=>absurd k h,fun k=>absurd k h,fun k=>absurd k h,fun k=>absurd k h⟩
theorem AlY{g:List Ai}(k:MH g)(h:¬L9 g):Gg g 230:=⟨fun h=>absurd k h,fun _ _=>rfl,fun _ k=>absurd k h,fun _ k=>absurd k h,fun _ k=>absurd k h⟩
theorem AlZ{g:List Ai}(k:MH g)(k2:L9 g)(h:Nh g):Gg g 231:=⟨fun h=>absurd k h,fun _ h=>absurd k2 h,fun _ _ _=>rfl,fun _ _ k=>absurd h k,fun _ _ k=>absurd h k⟩
theorem Al0{g:List Ai}(k:MH g)(k2:L9 g)(h:¬Nh g)(h4:¬Tj g):Gg g 3:=⟨fun h=>absurd k h,fun _ h=>absurd k2 h,fun _ _ k=>absurd k h,fun _ _ _ _=>rfl,fun _ _ _ k=>absurd k h4⟩
theorem ZI{g:List Ai}(k:MH g)(k2:L9 g)(h:¬Nh g)(h4:Tj g){e:Int}(he:e=LU g):Gg g e:=⟨fun h=>absurd k h,fun _ h=>absurd k2 h,fun _ _ k=>absurd k h,fun _ _ _ k=>absurd h4 k,fun _ _ _ _=>he⟩
theorem EF{g:List Ai}{i:Nat}(hi:i<g.length):g.getD i ([],(0,[]))∈g:=BK hi
theorem AiP{g:List Ai}{i j:Nat}(hi:i<g.length)(hj:j<(g.getD i ([],(0,[]))).1.length)(h:¬Ab5 g.length (g.getD i ([],(0,[]))).1 j):¬L9 g:=fun k=>h (k _ (EF hi) j hj)
theorem FL{α:Type}{l:List α}{d:α}{p:α→Prop}(h:∀j,j<l.length→p (l.getD j d)):∀x∈l,p x:=by
 intro x hx;obtain⟨j,hj⟩:=Qc6 hx;have hl:j<l.length:=(List.getElem?_eq_some_iff.1 hj).1;have:=h j hl;rw[Qa0,hj,Qb9]at this;exact this
theorem HO{g:List Ai}(h:L9 g):U5 g:=by
 intro c hc p hp;obtain⟨j,hj⟩:=Qc6 hp;have hl:j<(A6 g c).length:=(List.getElem?_eq_some_iff.1 hj).1;have:=(h _ (EF (g:=g) (i:=c.toNat) (by have:=hc.1;have:=hc.2;omega)) j hl).1
 have e:(A6 g c).getD j 0=p:=by rw[Qa0,hj,Qb9]
 have this:0≤(A6 g c).getD j 0∧(A6 g c).getD j 0<(g.length:Int):=this;rw[e]at this;exact this
theorem Afr{g:List Ai}(h:L9 g):ndG g:=by
 intro c hc;have hr:Ab6 g.length (A6 g c):=h _ (EF (g:=g) (i:=c.toNat) (by have:=hc.1;have:=hc.2;omega))
 rw[Qb4,Qc7];intro i j hi hj hij e;refine(hr j hj).2 ?_;rw[Qa0,Qa4 hj,Qb9,←e];refine List.mem_of_getElem? (i:=i) ?_;rw[Qg8 hij,Qa4 hi]
theorem ZL{g:List Ai}(h:MH g):∀c,inR g c→(A6 g c).length≤1000000:=fun c hc=>by
 have:=h.2 _ (EF (g:=g) (i:=c.toNat) (by have:=hc.1;have:=hc.2;omega))
 have:(A6 g c).length≤32:=this;omega
theorem Aez{g:List Ai}{i:Nat}(hi:i<g.length):LU (g.drop i)=if Ga (g.getD i ([],(0,[]))).2.2≠0 then Ga (g.getD i ([],(0,[]))).2.2 else LU (g.drop (i+1)):=by
 rw[Qc1 hi,Qa0,Qa4 hi,Qb9];rfl
theorem Aks(x:Int)(n:Nat):(cond (decide (x<0)) true (decide (x≥(n:Int))))=false↔(0≤x∧x<(n:Int)):=by
 rw[Qc8]
 by_cases h:x<0
 ·rw[if_pos (decide_eq_true h)];exact⟨fun k=>(by cases k),fun k=>absurd k.1 (by omega)⟩
 ·rw[if_neg (by simpa using h)];exact⟨fun k=>(by have:=of_decide_eq_false k;omega),fun k=>decide_eq_false (by omega)⟩
theorem Aft(x:Int):(cond (decide (x<(0:Int))) true (decide (x>(2147483647:Int))))=false↔(0≤x∧x≤2147483647):=by
 rw[Qc8]
 by_cases h:x<0
 ·rw[if_pos (decide_eq_true h)];exact⟨fun k=>(by cases k),fun k=>absurd k.1 (by omega)⟩
 ·rw[if_neg (by simpa using h)];exact⟨fun k=>(by have:=of_decide_eq_false k;omega),fun k=>decide_eq_false (by omega)⟩
def Y9(P:Pg):Prop:=∀x:List Int×Int,x.1.length≤1000000→Fn P "slices.Index[[]int,int]" CL x fun(d:Int) _=>decide (d≥0)=true↔x.2∈x.1
theorem AkU(h:Has P DR):Y9 P:=by
 rintro⟨l,v⟩ hl;dsimp only at hl;refine MA h ?_;unfold HA;dsimp only
 refine Ah.mid (fun _=>v∉l) ?_ fun _ h=>⟨fun k=>absurd (of_decide_eq_true k) (by omega),fun k=>absurd k h⟩
 refine A4.of (fun q=>(0≤q.2∧q.2≤l.length)∧∀j,j<q.2.toNat→l.getD j 0≠v) (fun q=>(l.length -q.2).toNat) ⟨⟨Qa3 _,by dsimp only;omega⟩,fun j hj=>absurd hj (by simp)⟩ ?_
 rintro⟨q,i⟩ ⟨⟨i0,i1⟩,hq⟩;dsimp only at i0 i1 hq⊢;refine⟨fun hi=>?_,fun hi=>?_⟩
 ·have hi:=of_decide_eq_true hi
  have hi2:i.toNat<l.length:=by omega
  refine Ah.mid (fun _=>l.getD i.toNat 0≠v) ⟨⟨i0,hi⟩,hi2,fun hb=>?_,fun hb=>?_⟩ fun _ hn=>?_
  ·have e:v=l.getD i.toNat 0:=by simpa using hb
   exact⟨fun _=>e▸BK hi2,fun _=>decide_eq_true (by omega)⟩
  ·exact fun e=>by rw[e]at hb;simp at hb
  ·rw[w64 (by omega) (by omega)];refine⟨⟨⟨by omega,by omega⟩,fun j hj=>?_⟩,by omega⟩
   by_cases hji:j=i.toNat
   ·subst hji;exact hn
   ·exact hq j (by omega)
 ·have hi:=of_decide_eq_false hi
  exact fun hv=>FL (p:=fun x=>x≠v) (d:=0) (fun j hj=>hq j (by omega)) v hv rfl
def Vs(P:Pg):Prop:=∀x:List Int×Int,x.1.length≤1000000→Fn P "slices.Contains[[]int,int]" Cr x fun(d:Bool) _=>d=true↔x.2∈x.1
theorem Ai1(h:Has P CW)(hI:Y9 P):Vs P:=by
 intro x hx;refine Kk h ?_;unfold Gk
 exact(hI x hx).to fun(d:Int) _ hd=>hd
def AcP(P:Pg):Prop:=∀l:List Ai,l.length≤1000000→Fn P zS4 AG (l,()) fun(d:Int) _=>decide (d≥0)=false↔∀c∈l,c.1.length≤32
theorem Amz(h:Has P A0)(h1:Has P GP):AcP P:=by
 intro l hl;refine Dp h ?_;unfold B8;dsimp only
 refine Ah.mid (fun _=>∀c∈l,c.1.length≤32) ?_ fun _ h=>⟨fun _=>h,fun _=>rfl⟩
 refine A4.of (fun q=>(0≤q.2∧q.2≤l.length)∧∀j,j<q.2.toNat→(l.getD j ([],(0,[]))).1.length≤32) (fun q=>(l.length -q.2).toNat) ⟨⟨Qa3 _,by dsimp only;omega⟩,fun j hj=>absurd hj (by simp)⟩ ?_
 rintro⟨q,i⟩ ⟨⟨i0,i1⟩,hq⟩;dsimp only at i0 i1 hq⊢;refine⟨fun hi=>?_,fun hi=>?_⟩
 ·have hi:=of_decide_eq_true hi
  have hi2:i.toNat<l.length:=by omega
  refine Ah.mid (fun _=>(l.getD i.toNat ([],(0,[]))).1.length≤32) ⟨⟨i0,hi⟩,hi2,Tu h1 ⟨fun hb=>?_,fun hb=>?_⟩⟩ fun _ hn=>?_
  ·have hb:=of_decide_eq_true hb;have hb:(((l.getD i.toNat ([],(0,[]))).1.length:Nat):Int)>32:=hb;exact⟨fun k=>absurd (of_decide_eq_false k) (by omega),fun k=>absurd (k _ (EF hi2)) (by omega)⟩
  ·have hb:=of_decide_eq_false hb;have hb:¬((((l.getD i.toNat ([],(0,[]))).1.length:Nat):Int)>32):=hb;show(l.getD i.toNat ([],(0,[]))).1.length≤32;omega
  ·rw[w64 (by omega) (by omega)];refine⟨⟨⟨by omega,by omega⟩,fun j hj=>?_⟩,by omega⟩
   by_cases hji:j=i.toNat
   ·subst hji;exact hn
   ·exact hq j (by omega)
 ·have hi:=of_decide_eq_false hi
  exact FL (d:=([],(0,[]))) fun j hj=>hq j (by omega)
def AcS(P:Pg):Prop:=∀l:List Ai,l.length≤1000000→Fn P zS5 AA (l,()) fun(d:Bool) _=>d=false↔∀c∈l,c.1.length≤32
theorem AmC(h:Has P AX)(hI:AcP P):AcS P:=by
 intro l hl;refine C7 h ?_;unfold BQ
 exact(hI l hl).to fun(d:Int) _ hd=>hd
def Qi(P:Pg):Prop:=∀l:List Ai,Fn P Ajw GB l fun(d:Bool) _=>d=true↔MH l
theorem Aep(h:Has P Iy)(hX:AcS P):Qi P:=by
 intro l;refine VW h ?_;unfold PX
 refine Ah.mid (fun d=>l.length≤300→(d=false↔∀c∈l,c.1.length≤32)) ⟨fun hc=>?_,fun hc hl=>absurd (of_decide_eq_false hc) (by omega),trivial⟩ fun d hd=>?_
 ·have hc:=of_decide_eq_true hc
  exact(hX l (by omega)).to fun(d:Bool) _ hd _=>hd
 ·by_cases hl:l.length≤300
  ·have hd:=hd hl;rw[decide_eq_true (show((l.length:Nat):Int)≤300 by omega)];unfold MH
   cases d with
   |false=>exact⟨fun _=>⟨hl,hd.1 rfl⟩,fun _=>rfl⟩
   |true=>exact⟨fun k=>(by cases k),fun k=>(by have:=hd.2 k.2;cases this)⟩
  ·rw[decide_eq_false (show¬((l.length:Nat):Int)≤300 by omega)];exact⟨fun k=>(by cases k),fun k=>absurd k.1 hl⟩
def AcQ(P:Pg):Prop:=∀l:List Ai,l.length≤1000000→Fn P zS4 AO (l,()) fun(d:Int) _=>decide (d≥0)=false↔Tj l
theorem AmA(h:Has P A3)(h1:Has P Iw):AcQ P:=by
 intro l hl;refine DH h ?_;unfold Cg;dsimp only
 refine Ah.mid (fun _=>Tj l) ?_ fun _ h=>⟨fun _=>h,fun _=>rfl⟩
 refine A4.of (fun q=>(0≤q.2∧q.2≤l.length)∧∀j,j<q.2.toNat→0≤(l.getD j ([],(0,[]))).2.1∧(l.getD j ([],(0,[]))).2.1≤2147483647) (fun q=>(l.length -q.2).toNat) ⟨⟨Qa3 _,by dsimp only;omega⟩,fun j hj=>absurd hj (by simp)⟩ ?_
 rintro⟨q,i⟩ ⟨⟨i0,i1⟩,hq⟩;dsimp only at i0 i1 hq⊢;refine⟨fun hi=>?_,fun hi=>?_⟩
 ·have hi:=of_decide_eq_true hi
  have hi2:i.toNat<l.length:=by omega
  refine Ah.mid (fun _=>0≤(l.getD i.toNat ([],(0,[]))).2.1∧(l.getD i.toNat ([],(0,[]))).2.1≤2147483647) ⟨⟨i0,hi⟩,hi2,VV h1 ⟨fun hb=>?_,fun hb=>?_⟩⟩ fun _ hn=>?_
  ·refine⟨fun k=>absurd (of_decide_eq_false k) (by omega),fun k=>?_⟩;have:=(Aft _).2 (k _ (EF hi2));exact absurd (this.symm.trans hb) (by simp)
  ·exact(Aft _).1 hb
  ·rw[w64 (by omega) (by omega)];refine⟨⟨⟨by omega,by omega⟩,fun j hj=>?_⟩,by omega⟩
   by_cases hji:j=i.toNat
   ·subst hji;exact hn
   ·exact hq j (by omega)
 ·have hi:=of_decide_eq_false hi
  exact FL (d:=([],(0,[]))) (p:=fun c=>0≤c.2.1∧c.2.1≤2147483647) fun j hj=>hq j (by omega)
def AcT(P:Pg):Prop:=∀l:List Ai,l.length≤1000000→Fn P zS5 AE (l,()) fun(d:Bool) _=>d=false↔Tj l
theorem AmD(h:Has P AY)(hI:AcQ P):AcT P:=by
 intro l hl;refine Di h ?_;unfold BZ
 exact(hI l hl).to fun(d:Int) _ hd=>hd
def Qk(P:Pg):Prop:=∀g:List Ai,MH g→Fn P Ajx GC g fun(d:Bool) _=>d=true↔L9 g
theorem Aes(h:Has P Iz)(hC:Vs P):Qk P:=by
 intro g hlim;refine VX h ?_;unfold PY;have hg:=hlim.1
 refine Ah.mid (fun _=>L9 g) ?_ fun _ h=>⟨fun _=>h,fun _=>rfl⟩
 refine A4.of (fun q=>(0≤q.2∧q.2≤g.length)∧∀j,j<q.2.toNat→Ab6 g.length (g.getD j ([],(0,[]))).1) (fun q=>(g.length -q.2).toNat) ⟨⟨Qa3 _,by dsimp only;omega⟩,fun j hj=>absurd hj (by simp)⟩ ?_
 rintro⟨q,i⟩ ⟨⟨i0,i1⟩,hq⟩;dsimp only at i0 i1 hq⊢;refine⟨fun hi=>?_,fun hi=>?_⟩
 ·have hi:=of_decide_eq_true hi
  have hi2:i.toNat<g.length:=by omega
  have hl:(g.getD i.toNat ([],(0,[]))).1.length≤32:=hlim.2 _ (EF hi2)
  have hbad:∀j,j<(g.getD i.toNat ([],(0,[]))).1.length→¬Ab5 g.length (g.getD i.toNat ([],(0,[]))).1 j→¬L9 g:=fun j hj=>AiP hi2 hj
  refine Ah.mid (fun _=>Ab6 g.length (g.getD i.toNat ([],(0,[]))).1) ⟨⟨i0,hi⟩,hi2,?_⟩ fun _ hn=>?_
  ·show Ah (D:=Bool) _ _;have ez:g.getD i.toNat Ak=g.getD i.toNat ([],(0,[])):=rfl;rw[ez];generalize(g.getD i.toNat ([],(0,[]))).1=l at hl hbad⊢
   refine Ah.mid (fun _=>Ab6 g.length l) ?_ fun _ h=>h
   refine A4.of (fun q=>(0≤q.2∧q.2≤l.length)∧∀j,j<q.2.toNat→Ab5 g.length l j) (fun q=>(l.length -q.2).toNat) ⟨⟨Qa3 _,by dsimp only;omega⟩,fun j hj=>absurd hj (by simp)⟩ ?_
   rintro⟨r,k⟩ ⟨⟨k0,k1⟩,hk⟩;dsimp only at k0 k1 hk⊢;refine⟨fun hki=>?_,fun hki=>?_⟩
   ·have hki:=of_decide_eq_true hki
    have hk2:k.toNat<l.length:=by omega
    have hou:=Aks (l.getD k.toNat 0) g.length;generalize(cond (decide (l.getD k.toNat 0<0)) true (decide (l.getD k.toNat 0≥(g.length:Int))))=b at hou⊢
    refine Ah.mid (fun _=>Ab5 g.length l k.toNat) ⟨⟨k0,hki⟩,hk2,fun _=>⟨k0,by omega⟩,?_⟩ fun _ hn=>?_
    ·refine Ah.mid (fun d=>b=false→(d=true↔l.getD k.toNat 0∈l.take k.toNat)) ⟨fun hc=>?_,fun hc h=>(by rw[hc]at h;cases h),trivial⟩ fun d hd=>⟨fun hb=>?_,fun hb=>?_⟩
     ·exact(hC (l.take k.toNat,l.getD k.toNat 0) (by rw[Qa9];omega)).to fun(d:Bool) _ hd _=>hd
     ·refine⟨fun k=>(by cases k),fun hr=>absurd hr (hbad k.toNat hk2 fun ha=>?_)⟩;have hbf:=hou.2 ha.1;rw[hbf]at hb;exact ha.2 ((hd hbf).1 hb)
     ·cases b with
      |true=>cases hb
      |false=>exact⟨hou.1 rfl,fun hm=>(by have:=(hd rfl).2 hm;rw[this]at hb;cases hb)⟩
    ·rw[w64 (by omega) (by omega)];refine⟨⟨⟨by omega,by omega⟩,fun j hj=>?_⟩,by omega⟩
     by_cases hji:j=k.toNat
     ·subst hji;exact hn
     ·exact hk j (by omega)
   ·have hki:=of_decide_eq_false hki
    exact fun j hj=>hk j (by omega)
  ·rw[w64 (by omega) (by omega)];refine⟨⟨⟨by omega,by omega⟩,fun j hj=>?_⟩,by omega⟩
   by_cases hji:j=i.toNat
   ·subst hji;exact hn
   ·exact hq j (by omega)
 ·have hi:=of_decide_eq_false hi
  exact FL (d:=([],(0,[]))) (p:=fun c=>Ab6 g.length c.1) fun j hj=>hq j (by omega)
def TQ(g:List Ai):Prop:=∀c∈g,∀f∈c.2.2,f.1.length≤140737488351232∧f.2.length≤140737488351232
def Aoj(l:List Av):Prop:=∀f∈l,f.1.length≤140737488351232∧f.2.length≤140737488351232
def LZ(P:Pg):Prop:=∀l:List Av,Aoj l→Fn P zS3 CN l fun(d:Int) _=>d=Ga l
theorem X6(h:Has P Hr)(hT:F5 P):LZ P:=by
 intro l hl
 by_cases hn:l.length≤1000000
 ·exact hT l ⟨hn,hl⟩
 ·refine P3 h ?_;unfold Nc
  refine Ah.mid (fun _=>False) ⟨fun hc=>?_,fun hc=>absurd (of_decide_eq_false hc) (by omega)⟩ fun _ hh=>hh.elim
  unfold Ga;rw[if_pos (by omega)]
def Lw(P:Pg):Prop:=∀g:List Ai,TQ g→Fn P Ajz Hc g fun(d:Int) _=>Gg g d
theorem Aco(h:Has P Li)(hL:Qi P)(hR:Qk P)(hU:Tb P)(hX:AcT P)(hT:LZ P):Lw P:=by
 intro g hs;refine Zr h ?_;unfold Ub
 refine Ah.mid (fun _=>MH g∧L9 g∧¬Nh g∧Tj g) ?_ fun d2 hh=>?_
 ·refine(hL g).to ?_;rintro(d:Bool) _ hd;have hd:d=true↔MH g:=hd;refine⟨fun hb=>AlX fun k=>(by rw[hd.2 k]at hb;cases hb),fun hb=>?_⟩
  have k1:MH g:=hd.1 (by cases d with|true=>rfl|false=>cases hb);clear hd hb;refine(hR g k1).to ?_;rintro(d:Bool) _ hd;have hd:d=true↔L9 g:=hd;refine⟨fun hb=>AlY k1 fun k=>(by rw[hd.2 k]at hb;cases hb),fun hb=>?_⟩
  have k2:L9 g:=hd.1 (by cases d with|true=>rfl|false=>cases hb);clear hd hb;have hg:=k1.1;refine(hU g (by omega) (HO k2) (Afr k2) (ZL k1)).to ?_;rintro(u:List Int) _ hu;have hu:UpG g u:=hu;have hcy:=AmQ (HO k2) hu;refine⟨fun hb=>AlZ k1 k2 (hcy.1 (by have:=of_decide_eq_true hb;omega)),fun hb=>?_⟩
  have k3:¬Nh g:=fun k=>by have:=hcy.2 k;have:=of_decide_eq_false hb;omega
  refine(hX g (by omega)).to ?_;rintro(d:Bool) _ hd;have hd:d=false↔Tj g:=hd;exact⟨fun hb=>Al0 k1 k2 k3 fun k=>(by rw[hd.2 k]at hb;cases hb),fun hb=>⟨k1,k2,k3,hd.1 hb⟩⟩
 ·obtain⟨k1,k2,k3,k4⟩:=hh;have hg:=k1.1
  refine Ah.mid (fun _=>LU g=0) ?_ fun _ h=>ZI k1 k2 k3 k4 h.symm
  refine A4.of (fun q=>(0≤q.2∧q.2≤g.length)∧LU g=LU (g.drop q.2.toNat)) (fun q=>(g.length -q.2).toNat) ⟨⟨Qa3 _,by dsimp only;omega⟩,rfl⟩ ?_
  rintro⟨q,i⟩ ⟨⟨i0,i1⟩,hq⟩;dsimp only at i0 i1 hq⊢;refine⟨fun hi=>?_,fun hi=>?_⟩
  ·have hi:=of_decide_eq_true hi
   have hi2:i.toNat<g.length:=by omega
   rw[Aez hi2]at hq
   refine Ah.mid (fun _=>Ga (g.getD i.toNat ([],(0,[]))).2.2=0) ⟨⟨i0,hi⟩,hi2,(hT _ (hs _ (EF hi2))).to ?_⟩ fun _ hn=>?_
   ·rintro(d:Int) _ hd;have hd:d=Ga (g.getD i.toNat ([],(0,[]))).2.2:=hd;rw[←hd]at hq⊢;refine⟨fun hb=>ZI k1 k2 k3 k4 ?_,fun hb=>by simpa using hb⟩;rw[hq,if_pos (by simpa using hb)]
   ·rw[if_neg (by simpa using hn)]at hq;rw[w64 (by omega) (by omega)];refine⟨⟨⟨by omega,by omega⟩,?_⟩,by omega⟩;rw[hq,show(i+1).toNat=i.toNat+1 by omega]
  ·have hi:=of_decide_eq_false hi;show LU g=0;rw[hq,Qe8 (by omega)];rfl
theorem Va{l:List Av}(h:Ga l=0):PR l:=by
 unfold Ga at h;split at h
 ·cases h
 ·split at h
  ·cases h
  ·split at h
   ·cases h
   ·rename_i h3;exact(AbM l).1 (by simpa using h3)
abbrev Ak7:List Bs:=[([97]:List UInt8),([98]:List UInt8),([99]:List UInt8),([97,98]:List UInt8),([98,97]:List UInt8),([]:List UInt8),([97,97]:List UInt8),([98,32,97]:List UInt8),([120,43,121]:List UInt8),([92]:List UInt8)]
def Uv(k:Int):Bs:=Ak7.getD (H3 k 10).toNat []
theorem TG(k:Int):(Uv k).length≤3:=by
 have hr:=EW (a:=k) (n:=10) (by decide) (by decide);unfold Uv;generalize H3 k 10=m at*
 have:m=0∨m=1∨m=2∨m=3∨m=4∨m=5∨m=6∨m=7∨m=8∨m=9:=by omega
 rcases this with rfl|rfl|rfl|rfl|rfl|rfl|rfl|rfl|rfl|rfl<;>decide
def Ra(P:Pg):Prop:=∀k:Int,Fn P AeG G6 k fun(d:Bs) _=>d=Uv k
theorem Ai3(h:Has P MZ)(hM:Na P):Ra P:=by
 intro k;refine AaV h ?_;unfold Vz;refine hM.at (by decide) (by decide) ?_;have hr:=EW (a:=k) (n:=10) (by decide) (by decide);exact⟨⟨by omega,by simp;omega⟩,by simp;omega,rfl⟩
def IV(raw:List Int)(fr kinds:Int):Nat→Bs
 |0=>[]
 |k+1=>(IV raw fr kinds k++Uv (H3 (atF raw (fr+1+(k:Int))) kinds))++[10]
theorem Mv(raw:List Int)(fr kinds:Int):∀k,(IV raw fr kinds k).length≤4*k
 |0=>Qd4 _
 |k+1=>by
  have h1:=Mv raw fr kinds k;have h2:=TG (H3 (atF raw (fr+1+(k:Int))) kinds);rw[IV,Qa2,Qa2];simp only[Qa1,Qa5];omega
def Yj(s:Bs)(z:Int):Bool:=cond (cond ((Int.tmod z (4:Int))==(0:Int)) (decide (((Qa7 s:Nat):Int)>(1:Int))) false) (((UInt8.toNat (Qf8 s (Qb7 (IntKind.i64.wrap (((Qa7 s:Nat):Int) -(2:Int)))) 0):Nat):Int) !=(10:Int)) false
def Ro(raw:List Int)(fr mx kinds:Int):Bs:=
 if Yj (IV raw fr kinds (H3 (atF raw fr) (mx+1)).toNat) (atF raw (fr+90))=true then(IV raw fr kinds (H3 (atF raw fr) (mx+1)).toNat).take ((IV raw fr kinds (H3 (atF raw fr) (mx+1)).toNat).length -1)else IV raw fr kinds (H3 (atF raw fr) (mx+1)).toNat
theorem AfW{raw:List Int}{fr mx kinds:Int}(h0:0≤mx)(h1:mx≤100):(Ro raw fr mx kinds).length≤400:=by
 have hr:=EW (a:=atF raw fr) (n:=mx+1) (by omega) (by omega);have h2:=Mv raw fr kinds (H3 (atF raw fr) (mx+1)).toNat;unfold Ro;split
 ·rw[Qa9];omega
 ·omega
def Vr(P:Pg):Prop:=∀x:List Int×(Int×(Int×Int)),(0≤x.2.1∧x.2.1≤1000000)→(0≤x.2.2.1∧x.2.2.1≤100)→(1≤x.2.2.2∧x.2.2.2≤100000)→Fn P zS9 FF x fun(d:Bs) _=>d=Ro x.1 x.2.1 x.2.2.1 x.2.2.2
theorem Ai0(h:Has P MY)(hA:PW P)(hM:Na P)(hL:Ra P):Vr P:=by
 rintro⟨raw,fr,mx,kinds⟩ ⟨f0,f1⟩ ⟨m0,m1⟩ ⟨k0,k1⟩;dsimp only at f0 f1 m0 m1 k0 k1;refine AaU h ?_;unfold Vy;dsimp only;rw[w64 (n:=mx+1) (by omega) (by omega),w64 (n:=fr+1) (by omega) (by omega),w64 (n:=fr+90) (by omega) (by omega)];refine hA.at f0 (hM.at (by omega) (by omega) ?_);unfold Ro;have hr:=EW (a:=atF raw fr) (n:=mx+1) (by omega) (by omega)
 generalize H3 (atF raw fr) (mx+1)=m at hr⊢
 refine Ah.mid (fun d=>d=IV raw fr kinds m.toNat) ?_ fun d hd=>?_
 ·refine A4.of (fun q=>(0≤q.2∧q.2≤m)∧q.1=IV raw fr kinds q.2.toNat) (fun q=>(m -q.2).toNat) ⟨⟨Qa3 _,hr.1⟩,rfl⟩ ?_;rintro⟨s,i⟩ ⟨⟨i0,i1⟩,hs⟩;dsimp only at i0 i1 hs⊢;have hsl:=Mv raw fr kinds i.toNat;rw[←hs]at hsl;refine⟨fun hi=>?_,fun hi=>by have hi:=of_decide_eq_false hi;rw[hs,show i=m by omega]⟩
  have hi:=of_decide_eq_true hi
  have hnx:IV raw fr kinds (i.toNat+1)=(s++Uv (H3 (atF raw (fr+1+i)) kinds))++[10]:=by
   rw[IV,←hs,show((i.toNat:Nat):Int)=i by omega]
  have hll:=TG (H3 (atF raw (fr+1+i)) kinds)
  refine Ah.mid (fun d=>d=IV raw fr kinds (i.toNat+1)) ?_ fun d hd=>?_
  ·rw[w64 (by omega) (by omega)];refine hA.at (by omega) (hM.at k0 (by omega) ((hL _).to ?_));rintro(ln:Bs) _ hln;have hln:ln=_:=hln;subst hln;refine⟨by omega,by rw[Qa2];simp only[Qa1,Qa5];omega,hnx.symm⟩
  ·rw[w64 (by omega) (by omega)];exact⟨⟨⟨by omega,by omega⟩,by rw[hd,show(i+1).toNat=i.toNat+1 by omega]⟩,by omega⟩
 ·subst hd;have hbl:=Mv raw fr kinds m.toNat;generalize IV raw fr kinds m.toNat=d at hbl⊢;refine hA.at (by omega) ⟨by decide,fun hc=>?_,?_⟩
  ·rw[Qc8]at hc;split at hc
   ·have h1:=of_decide_eq_true hc;rw[w64 (by omega) (by omega)];omega
   ·cases hc
  ·refine Ah.mid (fun e=>e=if Yj d (atF raw (fr+90))=true then d.take (d.length -1)else d) ⟨fun hc=>?_,fun hc=>?_⟩ fun _ h=>h
   ·have h1:1<d.length:=by
     rw[Qc8]at hc;split at hc
     ·rename_i h2;rw[Qc8]at h2;split at h2
      ·have:=of_decide_eq_true h2;omega
      ·cases h2
     ·cases hc
    rw[w64 (by omega) (by omega)];refine⟨⟨by omega,by omega⟩,?_⟩
    have hc:Yj d (atF raw (fr+90))=true:=by unfold Yj;exact hc
    rw[if_pos hc,show(((d.length:Nat):Int) -1).toNat=d.length -1 by omega]
   ·have hc:Yj d (atF raw (fr+90))=false:=by unfold Yj;exact hc
    rw[if_neg (by rw[hc];exact Bool.false_ne_true)]
theorem Vi:∀(s acc:Bs),(lnN acc s).length≤s.length
 |[],acc=>by rw[lnN];exact Qd4 _
 |b::r,acc=>by
  rw[lnN];split
  ·have:=Vi r [];simp only[Qa1];omega
  ·have:=Vi r (acc++[b]);simp only[Qa1];omega
theorem Adi{s:Bs}(h:s.length≤4000):Ng s=0:=by
 have h1:(lnF s).length≤s.length:=Vi s [];unfold Ng;rw[if_neg (by omega)]
abbrev Fp:List Bs:=[([97]:List UInt8),([98,47,120]:List UInt8),([98,47,121]:List UInt8),([99,32,100]:List UInt8)]
def Af6(raw:List Int)(fr lines:Int)(i:Nat):Option Av:=if atF raw (fr+(i:Int))%3>0 then some (Fp.getD i [],Ro raw (fr+10+20*(i:Int)) lines 4)else none
def UK(raw:List Int)(fr lines:Int)(k:Nat):List Av:=(Qe7 k).filterMap (Af6 raw fr lines)
def Ki(raw:List Int)(fr lines:Int):List Av:=UK raw fr lines 4
theorem Af7(raw:List Int)(fr lines:Int)(k:Nat):UK raw fr lines (k+1)=UK raw fr lines k++(Af6 raw fr lines k).toList:=by
 unfold UK;rw[List.range_succ,List.filterMap_append]
 cases h:Af6 raw fr lines k with
 |none=>simp[h]
 |some v=>simp[h]
def Alj(l:List Av):Prop:=∃q:Nat→Option Bs,(∀i v,q i=some v→v.length≤4000)∧l=(Qe7 4).filterMap fun i=>(q i).map fun v=>(Fp.getD i [],v)
theorem AaP{raw:List Int}{fr lines:Int}(h0:0≤lines)(h1:lines≤100):Alj (Ki raw fr lines):=by
 refine⟨fun i=>if atF raw (fr+(i:Int))%3>0 then some (Ro raw (fr+10+20*(i:Int)) lines 4)else none,fun i v hv=>?_,?_⟩
 ·dsimp only at hv;split at hv
  ·cases hv;have:=AfW (raw:=raw) (fr:=fr+10+20*(i:Int)) (kinds:=4) h0 h1;omega
  ·cases hv
 ·unfold Ki UK
  congr 1
  funext i
  unfold Af6;dsimp only
  split<;>rfl
theorem Acy{l:List Av}(h:Alj l):∃a b c d:Option Bs,(∀v,a=some v∨b=some v∨c=some v∨d=some v→v.length≤4000)∧l=(a.map fun v=>(Fp.getD 0 [],v)).toList++((b.map fun v=>(Fp.getD 1 [],v)).toList++((c.map fun v=>(Fp.getD 2 [],v)).toList++(d.map fun v=>(Fp.getD 3 [],v)).toList)):=by
 obtain⟨q,hq,rfl⟩:=h;refine⟨q 0,q 1,q 2,q 3,fun v hv=>?_,?_⟩
 ·rcases hv with h|h|h|h
  ·exact hq _ _ h
  ·exact hq _ _ h
  ·exact hq _ _ h
  ·exact hq _ _ h
 ·show(Qe7 4).filterMap _=_;rw[show Qe7 4=[0,1,2,3]from rfl]
  cases h0:q 0<;>cases h1:q 1<;>cases h2:q 2<;>cases h3:q 3<;>simp[h0,h1,h2,h3,List.filterMap]
def Mp(P:Pg):Prop:=∀x:List Int×(Int×Int),(0≤x.2.1∧x.2.1≤100000)→(0≤x.2.2∧x.2.2≤100)→Fn P AcC EJ x fun(d:List Av) _=>d=Ki x.1 x.2.1 x.2.2
theorem Ai2(h:Has P Lj)(hA:PW P)(hB:Vr P):Mp P:=by
 rintro⟨raw,fr,lines⟩ ⟨f0,f1⟩ ⟨l0,l1⟩;dsimp only at f0 f1 l0 l1;refine Zs h ?_;unfold Uc;dsimp only
 refine Ah.mid (fun d=>d=Ki raw fr lines) ?_ fun _ h=>h
 have hlen4:(Fp:List Bs).length=4:=rfl;unfold Ki
 have hsl:∀k,(UK raw fr lines k).length≤k:=fun k=>by unfold UK;exact Qb8 (Qe4 ..) (by rw[List.length_range];exact Qd4 _)
 refine A4.of (fun q=>(0≤q.2∧q.2≤4)∧q.1=UK raw fr lines q.2.toNat) (fun q=>(4 -q.2).toNat) ⟨⟨Qa3 _,by decide⟩,rfl⟩ ?_;rintro⟨o,i⟩ ⟨⟨i0,i1⟩,ho⟩;dsimp only at i0 i1 ho⊢;refine⟨fun hi=>?_,fun hi=>by have hi:=of_decide_eq_false hi;rw[ho,show i=4 by omega];rfl⟩
 have hi:=of_decide_eq_true hi;have hnx:=Af7 raw fr lines i.toNat;have hol:=hsl i.toNat;rw[←ho]at hnx hol;unfold Af6 at hnx;rw[show((i.toNat:Nat):Int)=i by omega]at hnx;have hr:=AfN raw (fr+i)
 have hi4:i<((Qa7 (Fp:List Bs):Nat):Int):=by rw[hlen4];omega
 have hi5:i.toNat<Qa7 (Fp:List Bs):=by rw[hlen4];omega
 have hsz:∀v:Bs,(o.length+([(Fp.getD i.toNat [],v)]:List Av).length)*32≤140737488355328:=fun v=>by
  simp only[Qa1,Qa5];omega
 refine Ah.mid (fun d=>d=UK raw fr lines (i.toNat+1)) ?_ fun d hd=>?_
 ·rw[w64 (n:=fr+i) (by omega) (by omega),w64 (n:=fr+10) (by omega) (by omega),w64 (n:=20*i) (by omega) (by omega),w64 (n:=fr+10+20*i) (by omega) (by omega)];refine hA.at (by omega) ⟨by decide,?_⟩;rw[Qe0 hr.1]
  refine Ah.mid (fun d=>d=UK raw fr lines (i.toNat+1)) ⟨fun hc=>?_,fun hc=>?_⟩ fun _ h=>h
  ·have hc:=of_decide_eq_true hc;rw[if_pos hc]at hnx
   have hbl:∀{K:Bs→Unit→Prop},K (Ro raw (fr+10+20*i) lines 4) ()→Fn P zS9 FF (raw,(fr+10+20*i,(lines,(4:Int)))) K:=fun{K} hk=>(hB (raw,(fr+10+20*i,(lines,(4:Int)))) ⟨by dsimp only;omega,by dsimp only;omega⟩ ⟨l0,l1⟩ ⟨(by decide:(1:Int)≤4),(by decide:(4:Int)≤100000)⟩).to fun(d:Bs) _ hd=>by
    have hd:d=_:=hd;subst hd;exact hk
   refine Ah.mid (fun d=>d=UK raw fr lines (i.toNat+1)) (by repeat' (first|exact trivial|exact i0|exact hi4|exact hi5|exact hsz _|exact hnx.symm|apply And.intro|(refine hbl ?_))) fun _ h=>h
  ·have hc:=of_decide_eq_false hc;rw[if_neg hc]at hnx;rw[hnx];exact(Qe2 o).symm
 ·subst hd;rw[w64 (by omega) (by omega)];exact⟨⟨⟨by omega,by omega⟩,by rw[show(i+1).toNat=i.toNat+1 by omega]⟩,by omega⟩
theorem Mp.at(h:Mp P){raw:List Int}{fr lines:Int}(f0:0≤fr)(f1:fr≤100000)(l0:0≤lines)(l1:lines≤100){K:List Av→Unit→Prop}(hk:K (Ki raw fr lines) ()):Fn P AcC EJ (raw,(fr,lines)) K:=
 (h (raw,(fr,lines)) ⟨f0,f1⟩ ⟨l0,l1⟩).to fun(d:List Av) _ hd=>by
  have hd:d=Ki raw fr lines:=hd;subst hd;exact hk
def SO(a b:List Av)(d:List BN×Int):Prop:=d.2=P1 a b∧(d.2≠0→d.1=[])∧(d.2=0→Ii a b d.1)
theorem Wn{a b:List Av}{d:List BN}(h:Ii a b d):d.length≤a.length+b.length:=by
 have hn:(d.map (·.1)).Nodup:=by
  rw[Qb4,Qc4]
  refine h.1.imp fun{x y} hxy e=>?_
  rw[e,F7]at hxy;cases hxy
 have hs:∀p∈d.map (·.1),p∈(a++b).map (·.1):=fun p hp=>by
  obtain⟨t,ht,rfl⟩:=List.mem_map.1 hp;have:=(h.2 t.1 t.2).1 ht;unfold RR at this;rw[Qb6,Qd3]
  cases h1:BM a t.1 with
  |some v=>
   obtain⟨f,hf,e⟩:=(He a t.1).1 (by rw[h1];rfl)
   exact .inl (List.mem_map.2 ⟨f,hf,e⟩)
  |none=>
   cases h2:BM b t.1 with
   |some v=>
    obtain⟨f,hf,e⟩:=(He b t.1).1 (by rw[h2];rfl)
    exact .inr (List.mem_map.2 ⟨f,hf,e⟩)
   |none=>rw[h1,h2]at this;cases this
 have:=DX hn hs;rw[Qb2,Qb2,Qa2]at this;exact this
def Ct(g:List Ai)(c:Int):List Av:=(g.getD c.toNat ([],(0,[]))).2.2
def Cp(g:List Ai)(c:Int):List (List Av):=if(A6 g c).length=0 then[[]]else(A6 g c).map fun p=>Ct g p
theorem Dd{g:List Ai}(h:Gg g 0):MH g∧L9 g∧¬Nh g∧Tj g∧LU g=0:=by
 have k1:MH g:=Classical.byContradiction fun k=>by have:=h.1 k;omega
 have k2:L9 g:=Classical.byContradiction fun k=>by have:=h.2.1 k1 k;omega
 have k3:¬Nh g:=fun k=>by have:=h.2.2.1 k1 k2 k;omega
 have k4:Tj g:=Classical.byContradiction fun k=>by have:=h.2.2.2.1 k1 k2 k3 k;omega
 exact⟨k1,k2,k3,k4,(h.2.2.2.2 k1 k2 k3 k4).symm⟩
theorem Al1(g:List Ai)(c:Int):(cond (decide (c≥(0:Int))) (decide (c<((Qa7 g:Nat):Int))) false)=true↔inR g c:=by
 unfold inR;rw[Qc8]
 by_cases h:c≥0
 ·rw[if_pos (decide_eq_true h)];exact⟨fun k=>⟨h,of_decide_eq_true k⟩,fun k=>decide_eq_true k.2⟩
 ·rw[if_neg (by simpa using h)];exact⟨fun k=>(by cases k),fun k=>absurd k.1 h⟩
def Qg(P:Pg):Prop:=∀x:List Ai×Int,TQ x.1→Fn P AjB E5 x fun(d:Int) _=>∃e,Gg x.1 e∧(e≠0→d=e)∧(e=0→(inR x.1 x.2→d=0)∧(¬inR x.1 x.2→d=5))
theorem Aen(h:Has P GO)(hI:Has P Oc)(hD:Lw P):Qg P:=by
 rintro⟨g,c⟩ hs;refine Tt h ?_;unfold NP;dsimp only at hs⊢;refine(hD g hs).to ?_;rintro(e:Int) _ he;have he:Gg g e:=he;refine⟨fun hb=>⟨e,he,fun _=>rfl,fun h0=>absurd h0 (by simpa using hb)⟩,fun hb=>?_⟩
 have h0:e=0:=by simpa using hb
 refine Yr hI ?_;unfold Vx;dsimp only;have hi:=Al1 g c;refine⟨fun hb=>⟨e,he,fun k=>absurd h0 k,fun _=>⟨fun k=>?_,fun _=>rfl⟩⟩,fun hb=>⟨e,he,fun k=>absurd h0 k,fun _=>⟨fun _=>rfl,fun k=>?_⟩⟩⟩
 ·rw[hi.2 k]at hb;cases hb
 ·refine absurd (hi.1 ?_) k;simpa using hb
theorem I5{α:Type}{l:List α}{k:Nat}{d:α}(h:k<l.length):l.take (k+1)=l.take k++[l.getD k d]:=by
 rw[Qd6,Qa0,Qa4 h];rfl
def Nb(P:Pg):Prop:=∀x:List Ai×Int,inR x.1 x.2→U5 x.1→(A6 x.1 x.2).length≤1000000→Fn P AeH Cw x fun(d:List (List Av)) _=>d=Cp x.1 x.2
theorem Aer(h:Has P Dx):Nb P:=by
 rintro⟨g,c⟩ hc hv hl;dsimp only at hc hv hl;refine Qv h ?_;unfold Ly;dsimp only
 have hc2:c.toNat<g.length:=by have:=hc.1;have:=hc.2;omega
 have ez:(g.getD c.toNat Ak).1=A6 g c:=rfl;have hv2:=hv c hc;rw[ez];refine⟨⟨hc.1,hc.2⟩,hc2,fun hb=>?_,fun hb=>⟨⟨hc.1,hc.2⟩,hc2,?_⟩⟩
 ·show[[]]=Cp g c
  have hb:((A6 g c).length:Int)=0:=by simpa using hb
  unfold Cp;rw[if_pos (by omega)]
 ·have hb:¬((A6 g c).length:Int)=0:=by simpa using hb
  have et:Cp g c=(A6 g c).map fun p=>Ct g p:=by unfold Cp;rw[if_neg (by omega)]
  rw[et];generalize A6 g c=l at hl hv2 hb⊢
  refine Ah.mid (fun d=>d=l.map fun p=>Ct g p) ?_ fun _ h=>h
  refine A4.of (fun q=>(0≤q.2∧q.2≤l.length)∧q.1=(l.take q.2.toNat).map fun p=>Ct g p) (fun q=>(l.length -q.2).toNat) ⟨⟨Qa3 _,by dsimp only;omega⟩,rfl⟩ ?_
  rintro⟨q,i⟩ ⟨⟨i0,i1⟩,hq⟩;dsimp only at i0 i1 hq⊢;refine⟨fun hi=>?_,fun hi=>?_⟩
  ·have hi:=of_decide_eq_true hi
   have hi2:i.toNat<l.length:=by omega
   have hp:=hv2 _ (BK (d:=0) hi2)
   have hql:q.length=i.toNat:=by rw[hq,Qb2,Qa9];omega
   refine Ah.mid (fun d=>d=(l.take (i.toNat+1)).map fun p=>Ct g p) ⟨⟨i0,hi⟩,hi2,⟨hp.1,hp.2⟩,by have:=hp.1;have:=hp.2;omega,by simp only[Qa1,Qa5];omega,?_⟩ fun d hn=>?_
   ·rw[I5 (d:=0) hi2,Qb6,hq];rfl
   ·rw[w64 (by omega) (by omega)];refine⟨⟨⟨by omega,by omega⟩,?_⟩,by omega⟩;rw[hn,show(i+1).toNat=i.toNat+1 by omega]
  ·have hi:=of_decide_eq_false hi;show q=_;rw[hq,Qb0 (by omega)]
theorem Ae5{α:Type}{q r:List α}{k:Nat}{d:α}(h:k<q.length):(q++r).getD k d=q.getD k d:=by
 rw[Qa0,Qg3 h,←Qa0]
theorem Ae6{α:Type}{q:List α}{v d:α}:(q++[v]).getD q.length d=v:=by
 rw[Qa0,List.getElem?_append_right (Qd4 _),Nat.sub_self];rfl
def AlB(g:List Ai)(c:Int)(d:List (List BN)):Prop:=d.length=(Cp g c).length∧∀k,k<d.length→∃e,SO ((Cp g c).getD k []) (Ct g c) (d.getD k [],e)
theorem NH{g:List Ai}{c:Int}(hl:(A6 g c).length≤1000000):(Cp g c).length≤1000000∧0<(Cp g c).length:=by
 unfold Cp;split
 ·simp
 ·rw[Qb2];omega
def AeQ(P:Pg):Prop:=∀x:List Ai×Int,inR x.1 x.2→U5 x.1→(A6 x.1 x.2).length≤1000000→(∀t∈Cp x.1 x.2,HI t)→HI (Ct x.1 x.2)→Fn P AeI Ej x fun(d:List (List BN)) _=>AlB x.1 x.2 d
theorem AnQ(h:Has P FX)(hP:Nb P)(hT:Oj P):AeQ P:=by
 rintro⟨g,c⟩ hc hv hl ht hf;dsimp only at hc hv hl ht hf;refine XL h ?_;unfold Re;refine(hP (g,c) hc hv hl).to ?_;rintro(d:List (List Av)) _ hd;have hd:d=Cp g c:=hd;subst hd;dsimp only
 have hc2:c.toNat<g.length:=by have:=hc.1;have:=hc.2;omega
 have htl:=(NH hl).1;unfold AlB;generalize Cp g c=T at ht htl⊢
 refine Ah.mid (fun d=>d.length=T.length∧∀k,k<d.length→∃e,SO (T.getD k []) (Ct g c) (d.getD k [],e)) ?_ fun _ h=>h
 refine A4.of (fun q=>(0≤q.2∧q.2≤T.length)∧q.1.length=q.2.toNat∧∀k,k<q.1.length→∃e,SO (T.getD k []) (Ct g c) (q.1.getD k [],e)) (fun q=>(T.length -q.2).toNat) ⟨⟨Qa3 _,by dsimp only;omega⟩,rfl,fun k hk=>absurd hk (by simp)⟩ ?_
 rintro⟨q,i⟩ ⟨⟨i0,i1⟩,hql,hq⟩;dsimp only at i0 i1 hql hq⊢;refine⟨fun hi=>?_,fun hi=>?_⟩
 ·have hi:=of_decide_eq_true hi
  have hi2:i.toNat<T.length:=by omega
  refine Ah.mid (fun d=>d.length=i.toNat+1∧∀k,k<d.length→∃e,SO (T.getD k []) (Ct g c) (d.getD k [],e)) ⟨⟨i0,hi⟩,hi2,⟨hc.1,hc.2⟩,hc2,(hT (T.getD i.toNat [],Ct g c) (ht _ (BK hi2)) hf).to ?_⟩ fun d hn=>?_
  ·rintro(d:List BN×Int) _ hd;have hd:SO (T.getD i.toNat []) (Ct g c) d:=hd;refine⟨by simp only[Qa1,Qa5];omega,?_,fun k hk=>?_⟩
   ·rw[Qa2,hql];rfl
   ·rw[Qa2,Qc0]at hk
    by_cases hki:k<q.length
    ·obtain⟨e,he⟩:=hq k hki;refine⟨e,?_⟩;rw[Ae5 hki];exact he
    ·have e1:k=q.length:=by omega
     refine⟨d.2,?_⟩;rw[e1,Ae6,hql];exact hd
  ·rw[w64 (by omega) (by omega)];exact⟨⟨⟨by omega,by omega⟩,by rw[hn.1];omega,hn.2⟩,by omega⟩
 ·have hi:=of_decide_eq_false hi;exact⟨by omega,hq⟩
theorem Y2:∀{g:List Ai},LU g=0→∀c∈g,Ga c.2.2=0
 |[],_,c,hc=>(nomatch hc)
 |x::g,h,c,hc=>by
  rw[LU]at h
  by_cases hx:Ga x.2.2=0
  ·rw[if_neg (by simpa using hx)]at h
   rcases List.mem_cons.1 hc with rfl|hc
   ·exact hx
   ·exact Y2 h c hc
  ·rw[if_pos hx]at h;exact absurd h hx
theorem Ow{l:List Av}(h:Ga l=0):l.length≤200:=by
 unfold Ga at h;split at h
 ·cases h
 ·omega
theorem Io{g:List Ai}(h0:Gg g 0)(hs:TQ g){c:Int}(hc:inR g c):Ga (Ct g c)=0∧HI (Ct g c):=by
 have hm:=EF (g:=g) (i:=c.toNat) (by have:=hc.1;have:=hc.2;omega)
 have h1:=Y2 (Dd h0).2.2.2.2 _ hm;refine⟨h1,?_,hs _ hm⟩;have:=Ow h1;have:(Ct g c).length≤200:=this;omega
theorem PH{g:List Ai}(h0:Gg g 0)(hs:TQ g){c:Int}(hc:inR g c):∀t∈Cp g c,Ga t=0∧HI t:=by
 intro t ht;unfold Cp at ht;split at ht
 ·have:t=[]:=by simpa using ht
  subst this;exact⟨by decide,Qe9 _,fun f hf=>nomatch hf⟩
 ·obtain⟨p,hp,rfl⟩:=List.mem_map.1 ht;exact Io h0 hs (HO (Dd h0).2.1 c hc p hp)
def SX(P:Pg):Prop:=∀x:List Ai×Int,TQ x.1→Gg x.1 0→inR x.1 x.2→Fn P AjC E4 x fun(d:List (List BN)×Int) _=>AlB x.1 x.2 d.1∧d.2=0
theorem AgR(h:Has P GN)(hC:Qg P)(hO:AeQ P):SX P:=by
 intro x hs h0 hc;refine Ts h ?_;unfold NO;refine(hC x hs).to ?_;rintro(d:Int) _ ⟨e,he,_,h1⟩;have hd:=(h1 (Wm he h0)).1 hc;subst hd;refine⟨fun hb=>absurd hb (by simp),fun hb=>?_⟩;have k:=Dd h0;refine(hO x hc (HO k.2.1) (ZL k.1 _ hc) (fun t ht=>(PH h0 hs hc t ht).2) (Io h0 hs hc).2).to ?_;rintro(d:List (List BN)) _ hd;exact⟨hd,rfl⟩
abbrev Gh:=Bs×Bs
def WL(a b:List Av)(x:BN):Gh:=((findF a x.1).1,(findF b x.1).1)
def Q5(g:List Ai)(c:Int)(d:List (List Gh)):Prop:=d.length=(Cp g c).length∧∀k,k<d.length→∃D,Ii ((Cp g c).getD k []) (Ct g c) D∧d.getD k []=D.map (WL ((Cp g c).getD k []) (Ct g c))
theorem Ano{a b:List Av}{D:List BN}{e:Int}(ha:Ga a=0)(hb:Ga b=0)(h:SO a b (D,e)):Ii a b D:=by
 have he:e=0:=by
  have:=h.1;unfold P1 at this;rw[ha,hb]at this;simpa using this
 exact h.2.2 he
def Pk(P:Pg):Prop:=∀x:List Ai×Int,TQ x.1→Gg x.1 0→inR x.1 x.2→Fn P AcG CE x fun(d:List (List Gh)) _=>Q5 x.1 x.2 d
theorem AgU(h:Has P Eh)(hP:Nb P)(hO:AeQ P)(hF:Ol P):Pk P:=by
 rintro⟨g,c⟩ hs h0 hc;dsimp only at hs h0 hc;have hv:=HO (Dd h0).2.1;have hpl:(A6 g c).length≤1000000:=Qb8 ((Dd h0).1.2 _ (EF (by have:=hc.1;have:=hc.2;omega))) (by decide)
 have hT:=PH h0 hs hc;have hf:=Io h0 hs hc;refine Tv h ?_;unfold NQ;refine(hP (g,c) hc hv hpl).to ?_;rintro(d:List (List Av)) _ hd;have hd:d=Cp g c:=hd;subst hd;refine(hO (g,c) hc hv hpl (fun t ht=>(hT t ht).2) hf.2).to ?_;rintro(O:List (List BN)) _ ⟨hOl,hOk⟩;dsimp only at hOl hOk⊢
 have hc2:c.toNat<g.length:=by have:=hc.1;have:=hc.2;omega
 have htl:=(NH hpl).1;have hz:(Qf8 g (Qb7 c) Ak).2.2=Ct g c:=rfl;rw[hz];unfold Q5;generalize Cp g c=T at hT htl hOl hOk⊢;generalize Ct g c=b at hf hOk⊢
 refine Ah.mid (fun d=>d.length=T.length∧∀k,k<d.length→∃D,Ii (T.getD k []) b D∧d.getD k []=D.map (WL (T.getD k []) b)) ?_ fun _ h=>h
 refine A4.of (fun q=>(0≤q.2∧q.2≤O.length)∧q.1.length=q.2.toNat∧∀k,k<q.1.length→∃D,Ii (T.getD k []) b D∧q.1.getD k []=D.map (WL (T.getD k []) b)) (fun q=>(O.length -q.2).toNat) ⟨⟨Qa3 _,by dsimp only;omega⟩,rfl,fun k hk=>absurd hk (by simp)⟩ ?_
 rintro⟨q,i⟩ ⟨⟨i0,i1⟩,hql,hq⟩;dsimp only at i0 i1 hql hq⊢;refine⟨fun hi=>?_,fun hi=>?_⟩
 ·have hi:=of_decide_eq_true hi
  have hi2:i.toNat<O.length:=by omega
  have hi3:i.toNat<T.length:=by omega
  have hTi:=hT _ (BK (d:=[]) hi3);obtain⟨e,hDi⟩:=hOk i.toNat hi2;have hDi:=Ano hTi.1 hf.1 hDi;have hDl:=Wn hDi;have l1:=hTi.2.1;have l2:=hf.2.1
  refine Ah.mid (fun d=>d.length=i.toNat+1∧∀k,k<d.length→∃D,Ii (T.getD k []) b D∧d.getD k []=D.map (WL (T.getD k []) b)) ⟨⟨i0,hi⟩,hi2,?_⟩ fun d hn=>?_
  ·refine Ah.mid (fun l=>l=(O.getD i.toNat []).map (WL (T.getD i.toNat []) b)) ?_ ?_
   ·generalize O.getD i.toNat []=D at hDi hDl⊢;refine A4.of (fun q=>(0≤q.2∧q.2≤D.length)∧q.1=(D.take q.2.toNat).map (WL (T.getD i.toNat []) b)) (fun q=>(D.length -q.2).toNat) ⟨⟨Qa3 _,by dsimp only;omega⟩,rfl⟩ ?_
    rintro⟨m,j⟩ ⟨⟨j0,j1⟩,hm⟩;dsimp only at j0 j1 hm⊢;refine⟨fun hj=>?_,fun hj=>?_⟩
    ·have hj:=of_decide_eq_true hj
     have hj2:j.toNat<D.length:=by omega
     have hml:m.length=j.toNat:=by rw[hm,Qb2,Qa9];omega
     refine Ah.mid (fun l=>l=(D.take (j.toNat+1)).map (WL (T.getD i.toNat []) b)) ⟨⟨j0,hj⟩,hj2,?_⟩ fun l hl=>?_
     ·refine Ah.mid (fun v=>v=(findF (T.getD i.toNat []) (D.getD j.toNat ([],0)).1).1) ⟨⟨i0,by omega⟩,hi3,hF.at l1 ?_,trivial⟩ fun v hv=>?_
      ·simp only[and_self,and_true]
      ·subst hv
       refine Ah.mid (fun v=>v=(findF b (D.getD j.toNat ([],0)).1).1) ⟨⟨hc.1,hc.2⟩,hc2,hF.at l2 ?_,trivial⟩ fun v hv=>?_
       ·simp only[and_self,and_true]
       ·subst hv;refine⟨by simp only[Qa1,Qa5];omega,?_⟩
        rw[I5 (d:=([],0)) hj2,Qb6,hm];rfl
     ·rw[w64 (by omega) (by omega)];exact⟨⟨⟨by omega,by omega⟩,by rw[hl,show(j+1).toNat=j.toNat+1 by omega]⟩,by omega⟩
    ·have hj:=of_decide_eq_false hj;show m=_;rw[hm,Qb0 (by omega)]
   ·rintro l rfl;refine⟨by simp only[Qa1,Qa5];omega,?_,fun k hk=>?_⟩
    ·rw[Qa2,hql];rfl
    ·rw[Qa2,Qc0]at hk
     by_cases hki:k<q.length
     ·obtain⟨D,he⟩:=hq k hki;refine⟨D,?_⟩;rw[Ae5 hki];exact he
     ·have e1:k=q.length:=by omega
      refine⟨O.getD i.toNat [],?_⟩;rw[e1,Ae6,hql];exact⟨hDi,rfl⟩
  ·rw[w64 (by omega) (by omega)];exact⟨⟨⟨by omega,by omega⟩,by rw[hn.1];omega,hn.2⟩,by omega⟩
 ·have hi:=of_decide_eq_false hi;exact⟨by omega,hq⟩
structure AcJ(g:List Ai)(S A:List Int):Prop where
 nd:A.Nodup
 mem:∀c,c∈A↔∃s∈S,Rch g s c
theorem AcJ.inR{g:List Ai}{S A:List Int}(h:AcJ g S A)(hv:U5 g)(hs:∀s∈S,inR g s){c:Int}(hc:c∈A):inR g c:=by
 obtain⟨s,h1,h2⟩:=(h.mem c).1 hc;exact h2.inR hv (hs s h1)
theorem AcJ.up{g:List Ai}{S A:List Int}(h:AcJ g S A){c p:Int}(hc:c∈A)(hp:p∈A6 g c):p∈A:=by
 obtain⟨s,h1,h2⟩:=(h.mem c).1 hc;exact(h.mem p).2 ⟨s,h1,h2.snoc hp⟩
def unl(A out:List Int):List Int:=A.filter fun x=>!decide (x∈out)
theorem Afi{A out:List Int}{c:Int}:c∈unl A out↔c∈A∧c∉out:=by simp[unl]
theorem Ak3(A:List Int):unl A []=A:=by simp[unl]
structure KIn(g:List Ai)(A C out Q L:List Int):Prop where
 len:C.length=g.length
 nd:(out++Q).Nodup
 sub:∀c∈out++Q,c∈A
 deg:∀p∈A,C.getD p.toNat 0=((Dh g (unl A out) p+L.count p:Nat):Int)
 zer:∀p∈A,p∈out++Q↔C.getD p.toNat 0=0
theorem KIn.perm{g:List Ai}{A C out Q Q' L:List Int}(h:KIn g A C out Q L)(hp:Qh7 Q' Q):KIn g A C out Q' L:=
 ⟨h.len,(List.Perm.append_left out hp).nodup_iff.2 h.nd,fun c hc=>h.sub c ((List.Perm.append_left out hp).mem_iff.1 hc),h.deg,fun p hA=>by rw[(List.Perm.append_left out hp).mem_iff];exact h.zer p hA⟩
theorem KIn.start{g:List Ai}{A C out Q:List Int}{c:Int}(hn:A.Nodup)(h:KIn g A C out (c::Q) []):KIn g A C (out++[c]) Q (A6 g c):=by
 have hcA:c∈A:=h.sub c (by simp)
 have hco:c∉out:=fun hc=>(List.nodup_append.1 h.nd).2.2 c hc c (by simp) rfl
 have e:(out++[c])++Q=out++c::Q:=by simp
 refine⟨h.len,by rw[e];exact h.nd,fun x hx=>h.sub x (by rw[←e];exact hx),fun p hp=>?_,fun p hp=>by rw[e];exact h.zer p hp⟩
 have:=Qt g out c p hco hn hcA;have h1:=h.deg p hp;unfold unl at h1⊢;rw[h1];simp only[List.count_nil,Nat.add_zero];rw[this]
theorem KIn.pos{g:List Ai}{A C out Q L:List Int}{p:Int}(h:KIn g A C out Q (p::L))(hp:p∈A):1≤C.getD p.toNat 0∧p∉out++Q:=by
 have h1:=h.deg p hp;rw[Qd9]at h1;refine⟨by omega,fun hm=>?_⟩;have:=(h.zer p hp).1 hm;omega
theorem G9{C:List Int}{i j:Nat}{x:Int}(hi:i<C.length):(C.set i x).getD j 0=if i=j then x else C.getD j 0:=by
 rw[Qa0,Qa0,List.getElem?_set];split
 ·simp[hi]
 ·rfl
theorem KIn.step{g:List Ai}{A C out Q L:List Int}{p:Int}(h:KIn g A C out Q (p::L))(hA:∀c∈A,inR g c)(hp:p∈A):
  (C.getD p.toNat 0 -1=0→KIn g A (C.set p.toNat (C.getD p.toNat 0 -1)) out (p::Q) L)∧(C.getD p.toNat 0 -1≠0→KIn g A (C.set p.toNat (C.getD p.toNat 0 -1)) out Q L):=by
 obtain⟨h1,h2⟩:=h.pos hp;have hr:=hA p hp
 have hlt:p.toNat<C.length:=by rw[h.len];have:=hr.1;have:=hr.2;omega
 have hpm:Qh7 (out++p::Q) (p::(out++Q)):=List.perm_middle
 have hd:∀x∈A,(C.set p.toNat (C.getD p.toNat 0 -1)).getD x.toNat 0=((Dh g (unl A out) x+L.count x:Nat):Int):=by
  intro x hx;have h3:=h.deg x hx;rw[G9 hlt]
  by_cases e:x=p
  ·subst e;rw[if_pos rfl,h3,Qd9];omega
  ·have:=(hA x hx).1;have:=hr.1;rw[if_neg (by omega),h3,Qf2 (fun q=>e q.symm)]
 have hz:∀x∈A,x≠p→((C.set p.toNat (C.getD p.toNat 0 -1)).getD x.toNat 0=0↔x∈out++Q):=by
  intro x hx e;have:=(hA x hx).1;have:=hr.1;rw[G9 hlt,if_neg (by omega)];exact(h.zer x hx).symm
 have hs:(C.set p.toNat (C.getD p.toNat 0 -1)).getD p.toNat 0=C.getD p.toNat 0 -1:=by rw[G9 hlt,if_pos rfl]
 refine⟨fun h0=>⟨by rw[Qc2];exact h.len,hpm.nodup_iff.2 (List.nodup_cons.2 ⟨h2,h.nd⟩),fun c hc=>?_,hd,fun x hx=>?_⟩,fun h0=>⟨by rw[Qc2];exact h.len,h.nd,h.sub,hd,fun x hx=>?_⟩⟩
 ·rcases List.mem_cons.1 (hpm.mem_iff.1 hc)with rfl|hc
  ·exact hp
  ·exact h.sub c hc
 ·rw[hpm.mem_iff,List.mem_cons]
  by_cases e:x=p
  ·subst e;rw[hs];exact⟨fun _=>h0,fun _=>.inl rfl⟩
  ·rw[hz x hx e];exact⟨fun k=>k.resolve_left e,.inr⟩
 ·by_cases e:x=p
  ·subst e;rw[hs];exact⟨fun k=>absurd k h2,fun k=>absurd k h0⟩
  ·exact(hz x hx e).symm
theorem KIn.room{g:List Ai}{A C out Q L:List Int}(h:KIn g A C out Q L)(hA:∀c∈A,inR g c):out.length+Q.length≤g.length:=by
 have:=DX h.nd (m:=rng g.length) fun x hx=>Dk.2 (hA x (h.sub x hx))
 rw[Fy,Qa2]at this;exact this
theorem KIn.chain{g:List Ai}{A C out:List Int}(h:KIn g A C out [] [])(hA:∀c∈A,inR g c):∀(m:Nat) (x:Int) (L:List Int),g.length -(x::L).length<m→(x::L).Nodup→(∀y∈x::L,inR g y∧Rch g x y)→x∈A→x∉out→Nh g
 |0,_,_,h0,_,_,_,_=>absurd h0 (Qh0 _)
 |m+1,x,L,hm,hn,hr,hxA,hx=>by
  have hd:=h.deg x hxA
  have hz:=(h.zer x hxA)
  rw[Qe2]at hz
  have hpos:Dh g (unl A out) x≠0:=fun e=>hx (hz.2 (by rw[hd,e];rfl))
  have hne:¬∀c∈unl A out,x∉A6 g c:=fun k=>hpos (JK.2 k)
  obtain⟨c,hc⟩:=Classical.not_forall.1 hne;obtain⟨hc1,hp⟩:=Classical.not_imp.1 hc;have hp:=Classical.not_not.1 hp;obtain⟨hcA,hcd⟩:=Afi.1 hc1
  by_cases e:c∈x::L
  ·exact⟨c,hA c hcA,x,hp,(hr c e).2⟩
  ·have hl:=DX (List.nodup_cons.2 ⟨e,hn⟩) (m:=rng g.length) fun y hy=>by
    rcases List.mem_cons.1 hy with rfl|hy
    ·exact Dk.2 (hA _ hcA)
    ·exact Dk.2 (hr y hy).1
   rw[Fy]at hl;simp only[Qa1]at hl hm;refine KIn.chain h hA m c (x::L) (by simp only[Qa1];omega) (List.nodup_cons.2 ⟨e,hn⟩) (fun y hy=>?_) hcA hcd
   rcases List.mem_cons.1 hy with rfl|hy
   ·exact⟨hA _ hcA,.refl _⟩
   ·exact⟨(hr y hy).1,.step hp (hr y hy).2⟩
def AeP(g:List Ai)(S l:List Int):Prop:=l.Nodup∧∀c,c∈l↔∃s∈S,Rch g s c
theorem KIn.fin{g:List Ai}{S A C out:List Int}(hS:AcJ g S A)(h:KIn g A C out [] [])(hA:∀c∈A,inR g c)(hcy:¬Nh g):AeP g S out:=by
 have hnd:=h.nd;have hsub:=h.sub;rw[Qe2]at hnd hsub;refine⟨hnd,fun c=>⟨fun hc=>(hS.mem c).1 (hsub c hc),fun hc=>?_⟩⟩;have hcA:=(hS.mem c).2 hc
 by_cases e:c∈out
 ·exact e
 ·exact absurd (h.chain hA _ c [] (Nat.lt_succ_self _) (by simp) (fun y hy=>by rw[List.mem_singleton.1 hy];exact⟨hA c hcA,.refl c⟩) hcA e) hcy
def Ph(g:List Ai)(S C:List Int):Prop:=∃A,AcJ g S A∧C.length=g.length∧(∀p∈A,C.getD p.toNat 0=(Dh g A p:Int))∧∀p,inR g p→p∉A→C.getD p.toNat 0=-1
theorem KIn.first{g:List Ai}{S A C Q:List Int}(hS:AcJ g S A)(hl:C.length=g.length)(h1:∀p∈A,C.getD p.toNat 0=(Dh g A p:Int))(h2:∀p,inR g p→p∉A→C.getD p.toNat 0=-1)(hA:∀c∈A,inR g c)
  (hQ:Qh7 Q ((rng g.length).filter fun c=>decide (C.getD c.toNat 0=0))):KIn g A C [] Q []:=by
 have hm:∀c,c∈Q↔inR g c∧C.getD c.toNat 0=0:=fun c=>by
  rw[hQ.mem_iff,Qe3,Dk,decide_eq_true_eq];exact Iff.rfl
 refine⟨hl,hQ.nodup_iff.2 ((TJ _).filter _),fun c hc=>?_,fun p hp=>by rw[Ak3];simpa using h1 p hp,fun p hp=>?_⟩
 ·obtain⟨k1,k2⟩:=(hm c).1 hc
  by_cases e:c∈A
  ·exact e
  ·have:=h2 c k1 e;omega
 ·rw[List.nil_append,hm];exact⟨fun k=>k.2,fun k=>⟨hA p hp,k⟩⟩
structure DI(g:List Ai)(S C O U F R:List Int):Prop where
 len:C.length=g.length
 nd:(O++(U++F)).Nodup
 inr:∀c∈O++(U++F),inR g c
 seen:∀c,inR g c→(0≤C.getD c.toNat 0↔c∈O++(U++F))
 neg:∀c,inR g c→C.getD c.toNat 0<0→C.getD c.toNat 0=-1
 deg:∀c∈O++(U++F),C.getD c.toNat 0=((Dh g F c+R.count c:Nat):Int)
 clo:∀c∈F,∀p∈A6 g c,p∈O++(U++F)
 clr:∀p∈R,p∈O++(U++F)
 anc:∀c∈O++(U++F),∃s∈S,Rch g s c
theorem DI.ZK{g:List Ai}{S C O U F R:List Int}(h:DI g S C O U F R):O.length+F.length≤g.length:=by
 have:=DX h.nd (m:=rng g.length) fun x hx=>Dk.2 (h.inr x hx)
 rw[Fy,Qa2,Qa2]at this;omega
theorem DI.reach{g:List Ai}{S C O U F R:List Int}{p:Int}(h:DI g S C O U F R)(hp:inR g p)(ha:∃s∈S,Rch g s p)(hn:C.getD p.toNat 0<0):DI g S (C.set p.toNat 0) (O++[p]) U F R:=by
 have hlt:p.toNat<C.length:=by rw[h.len];have:=hp.1;have:=hp.2;omega
 have hps:p∉O++(U++F):=fun k=>by have:=(h.seen p hp).2 k;omega
 have hpm:Qh7 ((O++[p])++(U++F)) (p::(O++(U++F))):=by
  rw[List.append_assoc];exact List.perm_middle
 have hm:∀c,c∈(O++[p])++(U++F)↔c=p∨c∈O++(U++F):=fun c=>by rw[hpm.mem_iff,List.mem_cons]
 have hz:∀c,inR g c→(C.set p.toNat 0).getD c.toNat 0=if c=p then 0 else C.getD c.toNat 0:=fun c hc=>by
  rw[G9 hlt];have:=hc.1;have:=hp.1
  by_cases e:c=p
  ·rw[if_pos (by rw[e]),if_pos e]
  ·rw[if_neg (by omega),if_neg e]
 refine⟨by rw[Qc2];exact h.len,hpm.nodup_iff.2 (List.nodup_cons.2 ⟨hps,h.nd⟩),fun c hc=>?_,fun c hc=>?_,fun c hc=>?_,fun c hc=>?_,fun c hc q hq=>(hm q).2 (.inr (h.clo c hc q hq)),fun q hq=>(hm q).2 (.inr (h.clr q hq)),fun c hc=>?_⟩
 ·rcases(hm c).1 hc with rfl|hc
  ·exact hp
  ·exact h.inr c hc
 ·rw[hz c hc,hm]
  by_cases e:c=p
  ·rw[if_pos e];exact⟨fun _=>.inl e,fun _=>Qa3 _⟩
  ·rw[if_neg e,h.seen c hc];exact⟨.inr,fun k=>k.resolve_left e⟩
 ·rw[hz c hc];split
  ·intro k;omega
  ·exact h.neg c hc
 ·rcases(hm c).1 hc with rfl|hc
  ·rw[hz c hp,if_pos rfl]
   have d0:Dh g F c=0:=JK.2 fun f hf hq=>hps (h.clo f hf c hq)
   have r0:R.count c=0:=List.count_eq_zero.2 fun hq=>hps (h.clr c hq)
   rw[d0,r0];rfl
  ·have hne:c≠p:=fun e=>hps (e▸hc)
   rw[hz c (h.inr c hc),if_neg hne];exact h.deg c hc
 ·rcases(hm c).1 hc with rfl|hc
  ·exact ha
  ·exact h.anc c hc
theorem DI.inc{g:List Ai}{S C O U F R:List Int}{p:Int}(h:DI g S C O U F R)(hp:p∈O++(U++F)):DI g S (C.set p.toNat (C.getD p.toNat 0+1)) O U F (R++[p]):=by
 have hr:=h.inr p hp
 have hlt:p.toNat<C.length:=by rw[h.len];have:=hr.1;have:=hr.2;omega
 have hz:∀c,inR g c→(C.set p.toNat (C.getD p.toNat 0+1)).getD c.toNat 0=if c=p then C.getD p.toNat 0+1 else C.getD c.toNat 0:=fun c hc=>by
  rw[G9 hlt];have:=hc.1;have:=hr.1
  by_cases e:c=p
  ·rw[if_pos (by rw[e]),if_pos e]
  ·rw[if_neg (by omega),if_neg e]
 have h0:=(h.seen p hr).2 hp;refine⟨by rw[Qc2];exact h.len,h.nd,h.inr,fun c hc=>?_,fun c hc=>?_,fun c hc=>?_,h.clo,fun q hq=>?_,h.anc⟩
 ·rw[hz c hc]
  by_cases e:c=p
  ·rw[if_pos e];exact⟨fun _=>e▸hp,fun _=>by omega⟩
  ·rw[if_neg e];exact h.seen c hc
 ·rw[hz c hc];split
  ·intro k;omega
  ·exact h.neg c hc
 ·rw[hz c (h.inr c hc),Qb3];have hd:=h.deg c hc
  by_cases e:c=p
  ·subst e;rw[if_pos rfl,hd,Qg4];omega
  ·rw[if_neg e,hd,Qh5,if_neg (by simpa using fun q:p=c=>e q.symm)];rfl
 ·rcases List.mem_append.1 hq with hq|hq
  ·exact h.clr q hq
  ·rw[List.mem_singleton.1 hq];exact hp
theorem DI.pop{g:List Ai}{S C O F:List Int}{x:Int}(h:DI g S C (O++[x]) [] F []):DI g S C O [x] F []:=by
 have e:(O++[x])++([]++F)=O++([x]++F):=by simp
 obtain⟨a1,a2,a3,a4,a5,a6,a7,a8,a9⟩:=h;rw[e]at a2 a3 a6 a9;refine⟨a1,a2,a3,fun c hc=>by rw[←e];exact a4 c hc,a5,a6,fun c hc p hp=>by rw[←e];exact a7 c hc p hp,(fun _ k=>nomatch k),a9⟩
theorem DI.done{g:List Ai}{S C O F:List Int}{x:Int}(h:DI g S C O [x] F (A6 g x)):DI g S C O [] (x::F) []:=by
 have e:O++([x]++F)=O++([]++(x::F)):=by simp
 obtain⟨a1,a2,a3,a4,a5,a6,a7,a8,a9⟩:=h;rw[e]at a2 a3 a6 a9;refine⟨a1,a2,a3,fun c hc=>by rw[←e];exact a4 c hc,a5,fun c hc=>?_,fun c hc p hp=>?_,(fun _ k=>nomatch k),a9⟩
 ·rw[a6 c hc];unfold Dh;rw[Qd1,Qe1,List.count_nil]
  congr 1
  omega
 ·rw[←e]
  rcases List.mem_cons.1 hc with rfl|hc
  ·exact a8 p hp
  ·exact a7 c hc p hp
theorem DI.fin{g:List Ai}{S C F:List Int}(h:DI g S C [] [] F [])(hs:∀s∈S,s∈F):Ph g S C:=by
 have e:([]:List Int)++([]++F)=F:=by simp
 obtain⟨a1,a2,a3,a4,a5,a6,a7,a8,a9⟩:=h;rw[e]at a2 a3 a6 a7 a9;refine⟨F,⟨a2,fun c=>⟨a9 c,?_⟩⟩,a1,fun p hp=>by rw[a6 p hp];simp,fun p hp hn=>a5 p hp ?_⟩
 ·rintro⟨s,h1,h2⟩;have:=hs s h1;clear h1 hs
  induction h2 with
  |refl=>exact this
  |step k _ ih=>exact ih (a7 _ this _ k)
 ·rcases Int.lt_or_le (C.getD p.toNat 0) 0 with k|k
  ·exact k
  ·have:=(a4 p hp).1 k;rw[e]at this;exact absurd this hn
def Qh(P:Pg):Prop:=∀x:Int×(List Int×List Int),(0≤x.1∧x.1<(x.2.1.length:Int))→x.2.2.length≤1000000→Fn P Ahe BL x fun(_:Unit) (e:List Int×List Int)=>e=if x.2.1.getD x.1.toNat 0<0 then(x.2.1.set x.1.toNat 0,x.2.2++[x.1])else x.2
theorem Aeo(h:Has P CX):Qh P:=by
 rintro⟨c,C,O⟩ hc hO;dsimp only at hc hO;refine Kl h ?_;unfold Gl;dsimp only
 have hlt:c.toNat<C.length:=by omega
 refine⟨hc,hlt,Ah.mid (fun d=>d=if C.getD c.toNat 0<0 then(C.set c.toNat 0,O++[c])else(C,O)) ⟨fun k=>?_,fun k=>?_⟩ fun d hd=>hd⟩
 ·have k:=of_decide_eq_true k;rw[if_pos k];exact⟨hc,hlt,by simp;omega,rfl⟩
 ·have k:=of_decide_eq_false k;rw[if_neg k]
def Oi(P:Pg):Prop:=∀x:List Ai×List Int,x.1.length≤300→U5 x.1→ndG x.1→(∀c,inR x.1 c→(A6 x.1 c).length≤1000000)→x.2.length≤1000000→(∀c∈x.2,inR x.1 c)→Fn P Am3 Dz x fun(d:List Int) _=>Ph x.1 x.2 d
theorem Acn(h:Has P Dy)(hR:Qh P):Oi P:=by
 rintro⟨g,S⟩ hn hv hnd hpl hSl hS;dsimp only at hn hv hnd hpl hSl hS;refine L5 h ?_;unfold Hd;dsimp only;refine⟨by omega,Ah.mid (fun d=>d=Qe6 g.length (-1)) ?_ ?_⟩
 ·refine A4.of (fun q=>(0≤q.1∧q.1≤g.length)∧q.2.length=g.length∧∀i,i<q.1.toNat→q.2.getD i 0=-1) (fun q=>(g.length -q.1).toNat) ⟨⟨Qa3 _,Qb1 _⟩,by simp,fun i hi=>absurd hi (by simp)⟩ ?_;rintro⟨i,C⟩ ⟨⟨i0,i1⟩,hl,hC⟩;dsimp only at i0 i1 hl hC⊢;refine⟨fun hi=>?_,fun hi=>?_⟩
  ·have hi:i<(g.length:Int):=by simpa using hi
   refine Ah.mid (fun d=>d=C.set i.toNat (-1)) ⟨⟨i0,by omega⟩,by omega,rfl⟩ ?_;rintro d rfl;rw[w64 (by omega) (by omega)];refine⟨⟨⟨by omega,by omega⟩,by rw[Qc2];exact hl,fun j hj=>?_⟩,by omega⟩
   rw[G9 (by omega)];split
   ·rfl
   ·exact hC j (by omega)
  ·have hi:¬i<(g.length:Int):=by simpa using hi
   refine Ah1 0 (by simp[hl]) fun j hj=>?_
   rw[hC j (by omega),Qa0,Qg9,if_pos (by omega)];rfl
 rintro C0 rfl
 have h00:DI g S (Qe6 g.length (-1)) [] [] [] []:=by
  have hz:∀c,inR g c→(Qe6 g.length (-1:Int)).getD c.toNat 0=-1:=fun c hc=>by
   have:=hc.1;have:=hc.2;rw[Qa0,Qg9,if_pos (by omega)];rfl
  exact⟨by simp,by simp,(fun _ k=>nomatch k),fun c hc=>by rw[hz c hc];simp,fun c hc _=>hz c hc,(fun _ k=>nomatch k),(fun _ k=>nomatch k),(fun _ k=>nomatch k),(fun _ k=>nomatch k)⟩
 generalize Qe6 g.length (-1:Int)=C0 at h00;refine Ah.mid (fun d=>DI g S d.1 d.2 [] [] []∧∀s∈S,s∈d.2) ?_ ?_
 ·refine A4.of (fun q=>(0≤q.1∧q.1≤S.length)∧DI g S q.2.1 q.2.2 [] [] []∧∀s∈S.take q.1.toNat,s∈q.2.2) (fun q=>(S.length -q.1).toNat) ⟨⟨Qa3 _,Qb1 _⟩,h00,fun s k=>by simp at k⟩ ?_;rintro⟨i,C,O⟩ ⟨⟨i0,i1⟩,hD,hO⟩;dsimp only at i0 i1 hD hO⊢;refine⟨fun hi=>?_,fun hi=>?_⟩
  ·have hi:=of_decide_eq_true hi
   have hi2:i.toNat<S.length:=by omega
   have hsm:=BK (d:=(0:Int)) hi2;have hsr:=hS _ hsm
   have htk:∀s∈S.take (i.toNat+1),s∈S.take i.toNat∨s=S.getD i.toNat 0:=fun s hs=>by
    rw[Qd6,Qa4 hi2,Qd3]at hs;rw[getD_eq hi2]
    rcases hs with hs|hs
    ·exact .inl hs
    ·exact .inr (by simpa using hs)
   have hol:=hD.ZK;refine Ah.mid (fun d=>DI g S d.1 d.2 [] [] []∧∀t∈S.take (i.toNat+1),t∈d.2) ⟨⟨i0,hi⟩,hi2,(hR (S.getD i.toNat 0,(C,O)) (by dsimp only;rw[hD.len];exact hsr) (by dsimp only;omega)).to ?_⟩ ?_
   ·rintro _ (e:List Int×List Int) he;dsimp only at he;subst he;have hmem:=hD.seen _ hsr;simp only[Qe2]at hmem;split
    ·rename_i hneg;refine⟨hD.reach hsr ⟨_,hsm,.refl _⟩ hneg,fun t ht=>?_⟩
     rcases htk t ht with ht|rfl
     ·exact List.mem_append_left _ (hO t ht)
     ·simp
    ·refine⟨hD,fun t ht=>?_⟩
     rcases htk t ht with ht|rfl
     ·exact hO t ht
     ·exact hmem.1 (by omega)
   ·rintro⟨C2,O2⟩ ⟨hD2,hO2⟩;dsimp only at hD2 hO2⊢;rw[w64 (by omega) (by omega)];exact⟨⟨⟨by omega,by omega⟩,hD2,by rw[show(i+1).toNat=i.toNat+1 by omega];exact hO2⟩,by omega⟩
  ·have hi:=of_decide_eq_false hi;rw[Qb0 (by omega)]at hO;exact⟨hD,hO⟩
 rintro⟨C1,O1⟩ ⟨hD1,hO1⟩;dsimp only at hD1 hO1⊢
 refine Ah.mid (fun d=>Ph g S d) ?_ fun d hd=>hd
 refine⟨fun n q=>∃F,DI g S q.1 q.2 [] F []∧(∀s∈S,s∈q.2++F)∧n=g.length -F.length,⟨_,[],hD1,by simpa using hO1,rfl⟩,?_⟩;rintro n ⟨C,O⟩ ⟨F,hD,hO,rfl⟩;dsimp only at hD hO⊢;have hol:=hD.ZK;refine⟨fun hi=>?_,fun hi=>?_⟩
 ·have hi:=of_decide_eq_true hi
  obtain⟨O',x,rfl⟩:∃O' x,O=O'++[x]:=⟨O.dropLast,O.getLast (by rintro rfl;simp at hi),(List.dropLast_concat_getLast _).symm⟩
  rw[Qa2,Qc0]at hol
  have hw:IntKind.i64.wrap (((O'++[x]).length:Int) -1)=(O'.length:Int):=by
   rw[Qa2,Qc0,w64 (by omega) (by omega)];omega
  have hgx:(O'++[x]).getD O'.length 0=x:=by simp
  have htk:Qd2 O'.length (Qf9 0 (O'++[x]))=O':=by simp
  have hxm:=hD.inr x (by simp);have hxa:=hD.anc x (by simp);have hD2:=hD.pop
  have hx2:x.toNat<g.length:=by have:=hxm.1;have:=hxm.2;omega
  simp only[hw,Int.toNat_natCast,hgx,htk]
  have hst0:∀s∈S,s∈O'++([x]++F):=fun s hs=>by have:=hO s hs;simpa using this
  have hpl2:=hpl x hxm;refine Ah.mid (fun d=>DI g S d.1 d.2 [x] F (A6 g x)∧∀s∈S,s∈d.2++([x]++F)) ⟨by simp;omega,by simp,by simp;omega,by simp,hxm,hx2,?_⟩ ?_
  ·refine Ah.mid (fun d=>DI g S d.1 d.2 [x] F (A6 g x)∧∀s∈S,s∈d.2++([x]++F)) ?_ fun d hd=>hd
   refine A4.of (fun q=>(0≤q.1∧q.1≤(A6 g x).length)∧DI g S q.2.1 q.2.2 [x] F ((A6 g x).take q.1.toNat)∧∀s∈S,s∈q.2.2++([x]++F)) (fun q=>((A6 g x).length -q.1).toNat) ⟨⟨Qa3 _,Qb1 _⟩,hD2,hst0⟩ ?_;rintro⟨i,C3,O3⟩ ⟨⟨i0,i1⟩,hD3,hst⟩;dsimp only at i0 i1 hD3 hst⊢;have hL:(Qf8 g x.toNat Ak).1=A6 g x:=rfl
   refine⟨fun hi=>?_,fun hi=>?_⟩
   ·have hi:i<((A6 g x).length:Int):=of_decide_eq_true hi
    have hi2:i.toNat<(A6 g x).length:=by omega
    have hpm:=BK (d:=(0:Int)) hi2;have hpr:=hv x hxm _ hpm
    have htk2:(A6 g x).take (i.toNat+1)=(A6 g x).take i.toNat++[(A6 g x).getD i.toNat 0]:=by
     rw[Qd6,Qa4 hi2,getD_eq hi2];rfl
    have hpa:∃s∈S,Rch g s ((A6 g x).getD i.toNat 0):=by
     obtain⟨s,k1,k2⟩:=hxa;exact⟨s,k1,k2.snoc hpm⟩
    have hol3:=hD3.ZK;refine Ah.mid (fun d=>DI g S d.1 d.2 [x] F ((A6 g x).take (i.toNat+1))∧∀s∈S,s∈d.2++([x]++F)) ⟨⟨i0,hi⟩,hi2,(hR ((A6 g x).getD i.toNat 0,(C3,O3)) (by dsimp only;rw[hD3.len];exact hpr) (by dsimp only;omega)).to ?_⟩ ?_
    ·rintro _ (e:List Int×List Int) he;dsimp only at he
     have hin:DI g S e.1 e.2 [x] F ((A6 g x).take i.toNat)∧(A6 g x).getD i.toNat 0∈e.2++([x]++F)∧∀s∈S,s∈e.2++([x]++F):=by
      by_cases hneg:C3.getD ((A6 g x).getD i.toNat 0).toNat 0<0
      ·rw[if_pos hneg]at he;rw[he];exact⟨hD3.reach hpr hpa hneg,by simp,fun s hs=>by have:=hst s hs;simp at this⊢;rcases this with h|h|h<;>simp[h]⟩
      ·rw[if_neg hneg]at he;rw[he];exact⟨hD3,(hD3.seen _ hpr).1 (by omega),hst⟩
     obtain⟨hD5,hp5,hst5⟩:=hin
     have hlt5:((A6 g x).getD i.toNat 0).toNat<e.1.length:=by rw[hD5.len];have:=hpr.1;have:=hpr.2;omega
     have hr5:0≤(A6 g x).getD i.toNat 0∧(A6 g x).getD i.toNat 0<(e.1.length:Int):=by rw[hD5.len];exact hpr
     have hd5:=hD5.deg _ hp5
     have hbd:Dh g F ((A6 g x).getD i.toNat 0)≤F.length:=Vb fun c hc=>List.nodup_iff_count.1 (hnd c (hD5.inr c (by simp[hc]))) _
     have hbc:((A6 g x).take i.toNat).count ((A6 g x).getD i.toNat 0)≤((A6 g x).take i.toNat).length:=Qc5
     have hbl:((A6 g x).take i.toNat).length≤(A6 g x).length:=by rw[Qa9];omega
     have hD6:=hD5.inc hp5;rw[←htk2]at hD6;have hwr:IntKind.i64.wrap (e.1.getD ((A6 g x).getD i.toNat 0).toNat 0+1)=e.1.getD ((A6 g x).getD i.toNat 0).toNat 0+1:=w64 (by omega) (by omega);rw[←hwr]at hD6;exact⟨hr5,hlt5,hr5,hlt5,hD6,hst5⟩
    ·rintro⟨C5,O5⟩ ⟨hD5,hO5⟩;dsimp only at hD5 hO5⊢;rw[w64 (by omega) (by omega)];exact⟨⟨⟨by omega,by omega⟩,by rw[show(i+1).toNat=i.toNat+1 by omega];exact hD5,hO5⟩,by omega⟩
   ·have hi:¬i<((A6 g x).length:Int):=of_decide_eq_false hi;rw[Qb0 (by omega)]at hD3;exact⟨hD3,hst⟩
  ·rintro⟨C2,O2⟩ ⟨hD3,hst⟩;dsimp only at hD3 hst⊢;have hD4:=hD3.done;have h4:=hD4.ZK;rw[Qa1]at h4;exact⟨g.length -(x::F).length,by rw[Qa1];omega,x::F,hD4,fun s hs=>by have:=hst s hs;simpa using this,rfl⟩
 ·have hi:=of_decide_eq_false hi;have hOn:O=[]:=List.length_eq_zero_iff.1 (by omega);subst hOn;exact hD.fin (by simpa using hO)
def AcR(P:Pg):Prop:=∀x:List Ai×Int,Fn P AjA Mm x fun(d:Bool) _=>d=true↔inR x.1 x.2
theorem AmB(h:Has P Oc):AcR P:=by
 rintro⟨g,c⟩;refine Yr h ?_;unfold Vx;show(cond (decide (c≥0)) (decide (c<(g.length:Int))) false)=true↔(0≤c∧c<(g.length:Int))
 by_cases h1:c≥0
 ·rw[decide_eq_true h1,cond_true,decide_eq_true_eq];exact⟨fun k=>⟨h1,k⟩,fun k=>k.2⟩
 ·rw[decide_eq_false h1,cond_false];exact⟨fun k=>(nomatch k),fun k=>absurd k.1 h1⟩
def Mr(P:Pg):Prop:=∀x:List Ai×List Int,TQ x.1→Gg x.1 0→x.2.length≤1000000→0<x.1.length→(∀c∈x.2,inR x.1 c)→Fn P Ahd ES x fun(d:List Int×Int) _=>d.2=0∧AeP x.1 x.2 d.1
theorem Qu:∀{T:List Av},(∀f∈T,f.2.length≤1048576)→∀p,(findF T p).1.length≤1048576
 |[],_,p=>by unfold findF;exact Qe9 _
 |f::l,h,p=>by
  unfold findF;split
  ·exact h f (Qa6 ..)
  ·exact Qu (T:=l) (fun x hx=>h x (Qa8 _ hx)) p
theorem Pq{T:List Av}(h:Ga T=0):∀f∈T,f.2.length≤1048576:=by
 unfold Ga at h;split at h
 ·cases h
 ·split at h
  ·cases h
  ·split at h
   ·cases h
   ·split at h
    ·cases h
    ·rename_i k;intro f hf;have k:=(Bool.not_eq_false _).mp k;have:=List.all_eq_true.1 k f hf;have:=eq_of_beq this;unfold Ng at this;split at this
     ·cases this
     ·omega
def Zm(p:Gh):Prop:=p.1.count 97≠p.2.count 97
def QR(p:Gh):Prop:=p.1.length≤1048576∧p.2.length≤1048576
def NK(p:Gh):Int:=((p.2.count 97:Nat):Int) -((p.1.count 97:Nat):Int)
theorem Ul{g:List Ai}{c:Int}{B:List (List Gh)}(hs:TQ g)(h0:Gg g 0)(hc:inR g c)(h:Q5 g c B):∀k,k<B.length→(B.getD k []).length≤400∧(∀p∈B.getD k [],QR p)∧CS NK (B.getD k [])=Gz (Ct g c) -Gz ((Cp g c).getD k []):=by
 intro k hk;obtain⟨D,hD,he⟩:=h.2 k hk;have hT:=PH h0 hs hc _ (BK (d:=[]) (show k<(Cp g c).length by rw[←h.1];exact hk))
 have hf:=Io h0 hs hc;generalize(Cp g c).getD k []=a at hD he hT⊢;generalize Ct g c=b at hD he hf⊢;rw[he];refine⟨?_,fun p hp=>?_,?_⟩
 ·rw[Qb2];have:=Wn hD;have:=Ow hT.1;have:=Ow hf.1;omega
 ·obtain⟨x,_,rfl⟩:=List.mem_map.1 hp;exact⟨Qu (Pq hT.1) _,Qu (Pq hf.1) _⟩
 ·rw[SB,←AhU (Va hT.1).ne (Va hf.1).ne hD];rfl
theorem Adm(s:Bs):((s.count 97:Nat):Int)≤s.length:=Int.ofNat_le.2 Qc5
theorem AfG{p:Gh}(h:QR p):-1048576≤NK p∧NK p≤1048576:=by
 unfold NK;have:=Adm p.1;have:=Adm p.2;have:=h.1;have:=h.2;omega
def SR(P:Pg):Prop:=∀x:List Ai×Int,TQ x.1→Gg x.1 0→inR x.1 x.2→Fn P AjD EB (x.1,(x.2,([97]:Bs))) fun(d:List Int×Int) _=>d.2=0∧d.1.length=(Cp x.1 x.2).length∧∀k,k<d.1.length→d.1.getD k 0=Gz (Ct x.1 x.2) -Gz ((Cp x.1 x.2).getD k [])
theorem Ag4{p:List Gh}(h:∀x∈p,QR x)(n:Nat):-(1048576*(p.take n).length)≤CS NK (p.take n)∧CS NK (p.take n)≤1048576*(p.take n).length:=
 Aac fun x hx=>AfG (h x (Qf5 hx))
theorem AgP(h:Has P FY)(hL:SX P)(hB:Pk P)(hC:Mo P):SR P:=by
 rintro⟨g,c⟩ hs h0 hc;dsimp only at hs h0 hc;refine Rx h ?_;unfold Ms;refine(hL (g,c) hs h0 hc).to ?_;rintro⟨L,e⟩ _ ⟨_,he⟩;dsimp only at he⊢;subst he;refine⟨fun k=>(nomatch k),fun _=>(hB (g,c) hs h0 hc).to ?_⟩;rintro(B:List (List Gh)) _ hB;have hB:Q5 g c B:=hB;have hsm:=Ul hs h0 hc hB
 have hpl:(A6 g c).length≤1000000:=Qb8 ((Dd h0).1.2 _ (EF (by have:=hc.1;have:=hc.2;omega))) (by decide)
 have hBl:B.length≤1000000:=by rw[hB.1];exact(NH hpl).1
 rw[←hB.1];generalize Cp g c=T at hsm⊢;generalize Gz (Ct g c)=tot at hsm⊢
 refine Ah.mid (fun d=>d.length=B.length∧∀k,k<d.length→d.getD k 0=tot -Gz (T.getD k [])) ?_ fun d hd=>⟨rfl,hd⟩
 refine A4.of (fun q=>(0≤q.2∧q.2≤B.length)∧q.1.length=q.2.toNat∧∀k,k<q.1.length→q.1.getD k 0=tot -Gz (T.getD k [])) (fun q=>(B.length -q.2).toNat) ⟨⟨Qa3 _,by dsimp only;omega⟩,rfl,fun k hk=>absurd hk (by simp)⟩ ?_
 rintro⟨q,i⟩ ⟨⟨i0,i1⟩,hql,hq⟩;dsimp only at i0 i1 hql hq⊢;refine⟨fun hi=>?_,fun hi=>?_⟩
 ·have hi:=of_decide_eq_true hi
  have hi2:i.toNat<B.length:=by omega
  obtain⟨s1,s2,s3⟩:=hsm i.toNat hi2
  refine Ah.mid (fun d=>d.length=i.toNat+1∧∀k,k<d.length→d.getD k 0=tot -Gz (T.getD k [])) ⟨⟨i0,hi⟩,hi2,?_⟩ fun d hn=>?_
  ·refine Ah.mid (fun v=>v=tot -Gz (T.getD i.toNat [])) ?_ ?_
   ·rw[←s3];generalize B.getD i.toNat []=l at s1 s2⊢;refine A4.of (fun q=>(0≤q.2∧q.2≤l.length)∧q.1=CS NK (l.take q.2.toNat)) (fun q=>(l.length -q.2).toNat) ⟨⟨Qa3 _,by dsimp only;omega⟩,rfl⟩ ?_
    rintro⟨v,j⟩ ⟨⟨j0,j1⟩,hv⟩;dsimp only at j0 j1 hv⊢;refine⟨fun hj=>?_,fun hj=>?_⟩
    ·have hj:=of_decide_eq_true hj
     have hj2:j.toNat<l.length:=by omega
     have hp:=s2 _ (BK (d:=([],[])) hj2);have b0:=Ag4 s2 j.toNat
     have e1:CS NK (l.take (j.toNat+1))=v+NK (l.getD j.toNat ([],[])):=by
      rw[I5 (d:=([],[])) hj2,OZ,hv,CS,CS,Int.add_zero]
     have hlt:(l.take j.toNat).length≤400:=by rw[Qa9];omega
     have hvb:-419430400≤v∧v≤419430400:=by
      rw[hv];generalize CS NK (l.take j.toNat)=z at b0⊢;omega
     refine Ah.mid (fun v2=>v2=CS NK (l.take (j.toNat+1))) ⟨⟨j0,hj⟩,hj2,?_⟩ fun v2 hv2=>?_
     ·refine Ah.mid (fun v2=>v2=CS NK (l.take (j.toNat+1))) ?_ fun v2 hv2=>hv2
      rw[e1];generalize l.getD j.toNat ([],[])=p at hp⊢;have hb:=AfG hp
      have key:∀a b:Int,a=((p.2.count 97:Nat):Int)→b=((p.1.count 97:Nat):Int)→IntKind.i64.wrap (v+IntKind.i64.wrap (a -b))=v+NK p:=by
       intro a b ha hb2
       have:a -b=NK p:=by rw[ha,hb2];rfl
       generalize NK p=z at hb this⊢;rw[this,show IntKind.i64.wrap z=z from w64 (by omega) (by omega),w64 (by omega) (by omega)]
      have c2:=hC p.2 (by have:=hp.2;omega)
      have c1:=hC p.1 (by have:=hp.1;omega)
      have q1:=Fn.to c2 fun(a:Int) _ ha=>(⟨by decide,Fn.to c1 fun(b:Int) _ hb=>⟨key a b ha hb,trivial⟩,trivial⟩:(Qb7 (0:Int)<2)∧Fn P zS0 Ap (([97]:Bs),p.1) (fun(d:Int) (_:Unit)=>IntKind.i64.wrap (v+IntKind.i64.wrap (a -d))=v+NK p∧True)∧True)
      have q2:=Fn.to c2 fun(a:Int) _ ha=>(⟨Fn.to c1 fun(b:Int) _ hb=>⟨key a b ha hb,trivial⟩,trivial⟩:Fn P zS0 Ap (([97]:Bs),p.1) (fun(d:Int) (_:Unit)=>IntKind.i64.wrap (v+IntKind.i64.wrap (a -d))=v+NK p∧True)∧True)
      exact⟨⟨by decide,by decide⟩,by decide,⟨by decide,by decide⟩,q1,⟨by decide,q2,trivial⟩,trivial⟩
     ·rw[w64 (by omega) (by omega),show(j+1).toNat=j.toNat+1 by omega];exact⟨⟨⟨by omega,by omega⟩,hv2⟩,by omega⟩
    ·have hj:=of_decide_eq_false hj;show v=_;rw[hv,Qb0 (by omega)]
   ·rintro v rfl;refine⟨by simp only[Qa1,Qa5];omega,?_,fun k hk=>?_⟩
    ·rw[Qa2,hql];rfl
    ·rw[Qa2,Qc0]at hk
     by_cases hki:k<q.length
     ·rw[Ae5 hki];exact hq k hki
     ·have e1:k=q.length:=by omega
      rw[e1,Ae6,hql]
  ·rw[w64 (by omega) (by omega)];exact⟨⟨⟨by omega,by omega⟩,by rw[hn.1];omega,hn.2⟩,by omega⟩
 ·have hi:=of_decide_eq_false hi;exact⟨by omega,hq⟩
def Za(P:Pg):Prop:=∀p:Gh,QR p→Fn P zS8 DJ (p,([97]:Bs)) fun(d:Bool) (e:Bs)=>e=[97]∧(Zm p→d=true)
theorem AkV(h:Has P Ex)(hC:Mo P):Za P:=by
 rintro p hp;refine OA h ?_;unfold Jl;dsimp only;have c2:=hC p.2 (by have:=hp.2;omega)
 have c1:=hC p.1 (by have:=hp.1;omega)
 have key:∀a b:Int,a=((p.1.count 97:Nat):Int)→b=((p.2.count 97:Nat):Int)→(Zm p→(a !=b)=true):=by
  intro a b ha hb hd;rw[ha,hb,bne_iff_ne]
  exact fun e=>hd (Int.ofNat.inj e)
 have c3:∀a:Int,a=((p.1.count 97:Nat):Int)→Fn P zS0 Ap (([97]:Bs),p.2) fun(b:Int) _=>(Zm p→(a !=b)=true)∧True:=fun a ha=>Fn.to c2 fun(b:Int) _ hb=>⟨key a b ha hb,trivial⟩
 have q1:Fn P zS0 Ap (([97]:Bs),p.1) fun(a:Int) _=>(Qb7 (1:Int)<2)∧(Fn P zS0 Ap (([97]:Bs),p.2) fun(b:Int) _=>(Zm p→(a !=b)=true)∧True)∧True:=Fn.to c1 fun(a:Int) _ ha=>⟨by decide,c3 a ha,trivial⟩
 have q2:Fn P zS0 Ap (([97]:Bs),p.1) fun(a:Int) _=>(Fn P zS0 Ap (([97]:Bs),p.2) fun(b:Int) _=>(Zm p→(a !=b)=true)∧True)∧True:=Fn.to c1 fun(a:Int) _ ha=>⟨c3 a ha,trivial⟩
 refine Ah.mid (fun d=>Zm p→d=true) ?_ fun d hd=>⟨rfl,hd⟩
 refine⟨⟨by decide,by decide⟩,by decide,⟨by decide,by decide⟩,?_⟩
 repeat' apply And.intro
 all_goals first|exact q1|exact q2|trivial|decide
def AjO(l:List Gh):Prop:=∃p∈l,Zm p
def Vt(P:Pg):Prop:=∀l:List Gh,l.length≤1000000000→(∀p∈l,QR p)→Fn P "slices.IndexFunc[[][2]string,[2]string]" AF (l,((),([97]:Bs))) fun(d:Int) (e:Bs)=>e=[97]∧(AjO l→0≤d)
theorem Ai4(h:Has P AZ)(hL:Za P):Vt P:=by
 intro l hl hs;refine Dn h ?_;unfold B7;dsimp only
 refine Ah.mid (fun q=>q.2=[97]∧¬AjO l) ?_ fun q hq=>⟨hq.1,fun k=>absurd k hq.2⟩
 refine A4.of (fun q=>(0≤q.2.1∧q.2.1≤l.length)∧q.2.2=[97]∧∀k,k<q.2.1.toNat→¬Zm (l.getD k ([],[]))) (fun q=>(l.length -q.2.1).toNat) ⟨⟨Qa3 _,by dsimp only;omega⟩,rfl,fun k hk=>absurd hk (by simp)⟩ ?_
 rintro⟨z,i,n⟩ ⟨⟨i0,i1⟩,hn,hq⟩;dsimp only at i0 i1 hn hq⊢;subst hn;refine⟨fun hi=>?_,fun hi=>⟨rfl,?_⟩⟩
 ·have hi:=of_decide_eq_true hi
  have hi2:i.toNat<l.length:=by omega
  refine Ah.mid (fun q=>q.2=[97]∧¬Zm (l.getD i.toNat ([],[]))) ⟨⟨i0,hi⟩,hi2,(hL _ (hs _ (BK hi2))).to ?_⟩ fun q hn=>?_
  ·rintro(d:Bool) (e:Bs) ⟨he,hd⟩;subst he;refine⟨fun k=>⟨rfl,fun _=>i0⟩,fun k=>⟨rfl,fun hk=>?_⟩⟩;rw[hd hk]at k;cases k
  ·rw[w64 (by omega) (by omega)];refine⟨⟨⟨by omega,by omega⟩,hn.1,fun k hk=>?_⟩,by omega⟩
   by_cases e:k=i.toNat
   ·rw[e];exact hn.2
   ·exact hq k (by omega)
 ·have hi:=of_decide_eq_false hi;rintro⟨p,hp,hd⟩;obtain⟨k,hk,rfl⟩:=List.mem_iff_getElem.1 hp;have:=hq k (by omega);rw[getD_eq hk]at this;exact this hd
def SZ(P:Pg):Prop:=∀l:List Gh,l.length≤1000000000→(∀p∈l,QR p)→Fn P "slices.ContainsFunc[[][2]string,[2]string]" Az (l,((),([97]:Bs))) fun(d:Bool) (e:Bs)=>e=[97]∧(AjO l→d=true)
theorem AgT(h:Has P AW)(hI:Vt P):SZ P:=by
 intro l hl hs;refine C6 h ?_;unfold BP;refine(hI l hl hs).to ?_;rintro(d:Int) (e:Bs) ⟨he,hd⟩;exact⟨he,fun k=>decide_eq_true (hd k)⟩
def Ka(P:Pg):Prop:=∀x:List (List Gh),x.length≤1000→(∀l∈x,l.length≤1000)→Fn P "slices.Concat[[][2]string,[2]string]" Bk x fun(d:List Gh) _=>d=x.flatten
def Adh(g:List Ai)(c:Int):Prop:=∃k,k<(Cp g c).length∧Gz (Ct g c)≠Gz ((Cp g c).getD k [])
theorem Tq{α:Type}{B:Nat}:∀{x:List (List α)},(∀l∈x,l.length≤B)→x.flatten.length≤x.length*B
 |[],_=>by simp
 |l::x,h=>by
  rw[List.flatten_cons,Qa2,Qa1,Nat.succ_mul];have:=h l (Qa6 ..)
  have:=Tq fun m hm=>h m (Qa8 _ hm)
  omega
theorem Air{α:Type}{x:List (List α)}{l:List α}(h:l∈x):∃k,k<x.length∧x.getD k []=l:=by
 obtain⟨k,hk,rfl⟩:=List.mem_iff_getElem.1 h;exact⟨k,hk,getD_eq hk⟩
def SY(P:Pg):Prop:=∀x:List Ai×Int,TQ x.1→Gg x.1 0→0<x.1.length→inR x.1 x.2→Fn P AeJ BE (x.1,(x.2,((),([97]:Bs)))) fun(d:List Int×Int) (_:Bs)=>d.2=0∧d.1.length≤300∧∀c,Rch x.1 x.2 c→Adh x.1 c→c∈d.1
theorem Agu{g:List Ai}{S l:List Int}(h:AeP g S l)(hv:U5 g)(hs:∀s∈S,inR g s):(∀c∈l,inR g c)∧l.length≤g.length:=by
 have h1:∀c∈l,inR g c:=fun c hc=>by
  obtain⟨s,hs1,hr⟩:=(h.2 c).1 hc;exact hr.inR hv (hs s hs1)
 refine⟨h1,?_⟩
 have:=DX (m:=rng g.length) h.1 fun c hc=>Dk.2 (h1 c hc)
 simpa[Fy]using this
theorem AgS(h:Has P BV)(hO:Mr P)(hB:Pk P)(hC:Ka P)(hH:SZ P):SY P:=by
 rintro⟨g,s⟩ hs h0 hg hc;dsimp only at hs h0 hg hc;have hv:=HO (Dd h0).2.1;refine Gx h ?_;unfold DT;refine(hO (g,[s]) hs h0 (by simp) hg (by intro c hc2;rw[List.mem_singleton.1 hc2];exact hc)).to ?_
 rintro⟨(o:List Int),(e:Int)⟩ _ ⟨he,ho⟩;dsimp only at he ho⊢;subst he;refine⟨fun k=>(nomatch k),fun _=>?_⟩;have hlen:=Agu ho hv (by intro c hc2;rw[List.mem_singleton.1 hc2];exact hc)
 have hgl:g.length≤300:=(Dd h0).1.1
 refine Ah.mid (fun q=>q.1.length≤300∧∀c,c∈o→Adh g c→c∈q.1) ?_ fun q hq=>⟨rfl,hq.1,fun c hr hk=>hq.2 c ((ho.2 c).2 ⟨s,by simp,hr⟩) hk⟩
 refine A4.of (fun q=>(0≤q.2.1∧q.2.1≤o.length)∧q.2.2=[97]∧q.1.length≤q.2.1.toNat∧∀c,c∈o.take q.2.1.toNat→Adh g c→c∈q.1) (fun q=>(o.length -q.2.1).toNat) ⟨⟨Qa3 _,by dsimp only;omega⟩,rfl,Qd4 _,fun c hc=>(nomatch hc)⟩ ?_
 rintro⟨l,i,n⟩ ⟨⟨i0,i1⟩,hn,hl,hq⟩;dsimp only at i0 i1 hn hl hq⊢;subst hn;refine⟨fun hi=>?_,fun hi=>?_⟩
 ·have hi:=of_decide_eq_true hi
  have hi2:i.toNat<o.length:=by omega
  have hci:=hlen.1 _ (BK (d:=0) hi2)
  refine Ah.mid (fun q=>q.2=[97]∧q.1.length≤i.toNat+1∧∀c,c∈o.take (i.toNat+1)→Adh g c→c∈q.1) ⟨⟨i0,hi⟩,hi2,?_⟩ fun q hn=>?_
  ·have ht:o.take (i.toNat+1)=o.take i.toNat++[o.getD i.toNat 0]:=I5 hi2;rw[ht];refine(hB (g,o.getD i.toNat 0) hs h0 hci).to ?_;rintro(B:List (List Gh)) _ hB;have hB:Q5 g (o.getD i.toNat 0) B:=hB;have hsm:=Ul hs h0 hci hB;have hpl:(A6 g (o.getD i.toNat 0)).length≤32:=(Dd h0).1.2 _ (EF (by have:=hci.1;have:=hci.2;omega))
   have hBl:B.length≤33:=by
    rw[hB.1];unfold Cp;split
    ·simp
    ·rw[Qb2];omega
   have hB1:∀m∈B,m.length≤400∧∀p∈m,QR p:=fun m hm=>by
    obtain⟨k,hk,rfl⟩:=Air hm;exact⟨(hsm k hk).1,(hsm k hk).2.1⟩
   have hany:Adh g (o.getD i.toNat 0)→AjO B.flatten:=fun⟨k,hk,hne⟩=>by
    have hk2:k<B.length:=by rw[hB.1];exact hk
    obtain⟨p,hp,hv⟩:=AfC (f:=NK) (l:=B.getD k []) (by rw[(hsm k hk2).2.2];omega)
    refine⟨p,List.mem_flatten.2 ⟨_,BK hk2,hp⟩,fun e=>hv ?_⟩;unfold NK;rw[e];omega
   refine(hC B (by omega) fun m hm=>by have:=(hB1 m hm).1;omega).to ?_
   rintro(F:List Gh) _ hF;have hF:F=B.flatten:=hF;subst hF
   have hfl:=Tq fun m hm=>(hB1 m hm).1
   refine(hH B.flatten (by omega) fun p hp=>?_).to ?_
   ·obtain⟨m,hm,hp⟩:=List.mem_flatten.1 hp;exact(hB1 m hm).2 p hp
   rintro(d:Bool) (e:Bs) ⟨he,hd⟩;subst he
   refine Ah.mid (fun m=>m.length≤i.toNat+1∧∀x,x∈o.take i.toNat++[o.getD i.toNat 0]→Adh g x→x∈m) ⟨fun hk=>⟨by simp only[Qa1,Qa5];omega,by simp only[Qa2,Qa1,Qa5];omega,fun x hx hg=>?_⟩,fun hk=>⟨by omega,fun x hx hg=>?_⟩⟩ fun m hm=>⟨rfl,hm⟩
   ·rcases List.mem_append.1 hx with hx|hx
    ·exact List.mem_append.2 (.inl (hq x hx hg))
    ·exact List.mem_append.2 (.inr hx)
   ·rcases List.mem_append.1 hx with hx|hx
    ·exact hq x hx hg
    ·rw[List.mem_singleton.1 hx]at hg;rw[hd (hany hg)]at hk;cases hk
  ·rw[w64 (by omega) (by omega)];refine⟨⟨⟨by omega,by omega⟩,hn.1,by rw[show(i+1).toNat=i.toNat+1 by omega];exact hn.2.1,by rw[show(i+1).toNat=i.toNat+1 by omega];exact hn.2.2⟩,by omega⟩
 ·have hi:=of_decide_eq_false hi;rw[Qb0 (by omega)]at hq;exact⟨by have:=hlen.2;show l.length≤300;omega,hq⟩
def Zb(P:Pg):Prop:=∀x:List Ai×Int,TQ x.1→Gg x.1 0→0<x.1.length→inR x.1 x.2→Fn P Ajv El (x.1,(x.2,([97]:Bs))) fun(d:List Int×Int) _=>d.2=0∧d.1.length≤300∧∀c,Rch x.1 x.2 c→Adh x.1 c→c∈d.1
theorem AkW(h:Has P Fu)(hF:SY P):Zb P:=by
 rintro⟨g,s⟩ hs h0 hg hc;refine Qx h ?_;unfold LA;dsimp only
 refine Ah.mid (fun _=>True) ⟨fun k=>(nomatch k),fun _=>⟨fun k=>(nomatch k),fun _=>trivial⟩⟩ fun _ _=>(hF (g,s) hs h0 hg hc).to ?_
 rintro(d:List Int×Int) _ hd;exact hd
theorem TH:∀(s acc:Bs),s≠[]→(lnN acc s).flatten=acc++s
 |[],_,h=>absurd rfl h
 |b::r,acc,_=>by
  rw[lnN];split
  ·by_cases hr:r=[]
   ·subst hr;simp[lnN]
   ·rw[List.flatten_cons,TH r [] hr];simp
  ·rename_i h
   have hr:r≠[]:=fun e=>h (Or.inr e)
   rw[TH r (acc++[b]) hr];simp
theorem Agn(s:Bs):(lnF s).flatten=s:=by
 by_cases h:s=[]
 ·subst h;rfl
 ·exact TH s [] h
theorem Abw(k:Int):(Uv k).count 10=0:=by
 have hr:=EW (a:=k) (n:=10) (by decide) (by decide);unfold Uv;generalize H3 k 10=m at*
 have:m=0∨m=1∨m=2∨m=3∨m=4∨m=5∨m=6∨m=7∨m=8∨m=9:=by omega
 rcases this with rfl|rfl|rfl|rfl|rfl|rfl|rfl|rfl|rfl|rfl<;>decide
def Vu(P:Pg):Prop:=∀x:Bs×(List Int×Int),x.1.length≤4000→(0≤x.2.2∧x.2.2≤1000000)→Fn P Ajp JU x fun(d:Bs) _=>d.length≤x.1.length+4*(x.1.count 10+1)∧d.count 10≤2*x.1.count 10+1
theorem Ai5(h:Has P M0)(hA:PW P)(hL:Ra P)(hN:Qj P):Vu P:=by
 rintro⟨s,raw,fr⟩ hs ⟨f0,f1⟩;dsimp only at hs f0 f1;refine AaW h ?_;unfold VA;dsimp only;refine(hN s (by omega)).to ?_;rintro(l:List Bs) _ hl;have hl:l=lnF s:=hl
 have hlen:l.length≤s.count 10+1:=by
  have:=Afe s;rw[hl]
  split at this<;>omega
 have hlen2:l.length≤s.length:=by rw[hl];exact Vi s []
 have hfl:l.flatten=s:=by rw[hl];exact Agn s
 clear hl
 have hpre:∀k,k<l.length→(l.take (k+1)).flatten=(l.take k).flatten++l.getD k []:=fun k hk=>by
  rw[Qd6,Qa4 hk,List.flatten_append,Qa0,Qa4 hk];simp
 have hle:∀k,(l.take k).flatten.length≤s.length∧(l.take k).flatten.count 10≤s.count 10:=fun k=>by
  have:l.flatten=(l.take k).flatten++(l.drop k).flatten:=by rw[←List.flatten_append,Qf3]
  rw[hfl]at this;have h1:=congrArg Qa7 this;have h2:=congrArg (List.count (10:UInt8)) this;rw[Qa2]at h1;rw[Qb3]at h2;omega
 rw[w64 (n:=fr+40) (by omega) (by omega)]
 refine Ah.mid (fun d=>d.length≤s.length+4*(s.count 10+1)∧d.count 10≤2*s.count 10+1) ?_ fun _ h=>h
 refine A4.of (fun q=>(0≤q.2∧q.2≤l.length)∧(q.1.length:Int)≤4*q.2+((l.take q.2.toNat).flatten.length:Nat)∧(q.1.count 10:Int)≤q.2+((l.take q.2.toNat).flatten.count 10:Nat)) (fun q=>(l.length -q.2).toNat) ⟨⟨Qa3 _,Qb1 _⟩,by simp,by simp⟩ ?_;rintro⟨d,i⟩ ⟨⟨i0,i1⟩,hd,hc⟩;dsimp only at i0 i1 hd hc⊢;have hti:=hle i.toNat
 refine⟨fun hi=>?_,fun hi=>by have hi:=of_decide_eq_false hi;omega⟩
 have hi:=of_decide_eq_true hi
 have hi2:i.toNat<l.length:=by omega
 have hp:=congrArg Qa7 (hpre i.toNat hi2);have hp2:=congrArg (List.count (10:UInt8)) (hpre i.toNat hi2);rw[Qa2]at hp;rw[Qb3]at hp2;have htj:=hle (i.toNat+1)
 refine Ah.mid (fun d=>(d.length:Int)≤4*(i+1)+((l.take (i.toNat+1)).flatten.length:Nat)∧(d.count 10:Int)≤i+1+((l.take (i.toNat+1)).flatten.count 10:Nat)) ?_ fun d hd=>?_
 ·rw[w64 (n:=fr+i) (by omega) (by omega),w64 (n:=fr+40+i) (by omega) (by omega)];refine hA.at (by omega) ⟨by decide,?_⟩
  refine Ah.mid (fun e=>(e.length:Int)≤4*i+((l.take i.toNat).flatten.length:Nat)+4∧(e.count 10:Int)≤i+((l.take i.toNat).flatten.count 10:Nat)+1) ⟨fun _=>by omega,fun _=>?_⟩ fun e he=>?_
  ·refine Ah.mid (fun e=>(e.length:Int)≤4*i+((l.take i.toNat).flatten.length:Nat)+4∧(e.count 10:Int)≤i+((l.take i.toNat).flatten.count 10:Nat)+1) ⟨fun _=>?_,fun _=>by omega⟩ fun _ h=>h
   refine hA.at (by omega) ((hL _).to ?_);rintro(ln:Bs) _ hln;have hln:ln=Uv _:=hln;have hl1:=TG (atF raw (fr+40+i));have hl2:=Abw (atF raw (fr+40+i));rw[←hln]at hl1 hl2;refine⟨by omega,by rw[Qa2];simp only[Qa1,Qa5];omega,?_⟩
   try dsimp only
   rw[Qa2,Qa2,Qb3,Qb3,hl2];simp only[Qa1,Qa5,Qg4];omega
  ·refine⟨⟨i0,hi⟩,hi2,by omega,?_⟩
   try dsimp only
   rw[Qa2,Qb3];omega
 ·rw[w64 (by omega) (by omega),show(i+1).toNat=i.toNat+1 by omega];exact⟨⟨⟨by omega,by omega⟩,hd.1,hd.2⟩,by omega⟩
def VL(B:Nat)(v:Bs):Prop:=v.count 10+1≤B∧v.length+4≤4*B
def Kb(B:Nat)(l:List Av):Prop:=(l.map (·.1)).Sublist Fp∧∀f∈l,VL B f.2
theorem Kb.mono{B C:Nat}{l:List Av}(h:Kb B l)(hB:B≤C):Kb C l:=⟨h.1,fun f hf=>by have:=h.2 f hf;unfold VL at*;omega⟩
theorem AdN:∀p∈Fp,Gm p=0:=by decide
theorem Agq:Fp.Pairwise fun p q=>Op.bytesLess p q=true∧Zd p q=false:=by decide
theorem QY{B:Nat}{l:List Av}(h:Kb B l):l.length≤4:=by
 have:=h.1.length_le;rw[Qb2]at this;exact this
theorem Ag7{B:Nat}{l:List Av}(h:Kb B l)(hB:B≤1000):Ga l=0:=by
 have hl:=QY h
 have hp:l.all (fun f=>Gm f.1==0)=true:=by
  rw[Qg5];intro f hf;rw[AdN f.1 (h.1.subset (List.mem_map.2 ⟨f,hf,rfl⟩))];rfl
 have ho:WI l=true:=by
  rw[AbM];have hpw:=Agq.sublist h.1;rw[Qc4,Qc7]at hpw;intro i hi k hk;have:=hpw k i (by omega) hi hk;unfold pth;rw[Qa0,Qa0,Qa4 hi,Qa4 (Nat.lt_trans hk hi)];exact this
 have hc:l.all (fun f=>Ng f.2==0)=true:=by
  rw[Qg5];intro f hf;have:=(h.2 f hf).2;rw[Adi (by omega)];rfl
 unfold Ga;rw[if_neg (by omega),if_neg (by rw[hp];simp),if_neg (by rw[ho];simp),if_neg (by rw[hc];simp)]
theorem Agp:∀p∈Fp,p.length≤3:=by decide
theorem Ajf{B:Nat}{l:List Av}(h:Kb B l)(hB:B≤1000):HI l:=⟨by have:=QY h;omega,fun f hf=>by
 have h1:=Agp f.1 (h.1.subset (List.mem_map.2 ⟨f,hf,rfl⟩));have h2:=(h.2 f hf).2
 omega⟩
theorem Aaz(raw:List Int)(fr kinds:Int):∀k,(IV raw fr kinds k).count 10=k
 |0=>rfl
 |k+1=>by
  rw[IV,Qb3,Qb3,Aaz raw fr kinds k,Abw];rfl
theorem AjW{raw:List Int}{fr mx kinds:Int}(h0:0≤mx)(h1:mx≤100):VL (mx.toNat+1) (Ro raw fr mx kinds):=by
 have hr:=EW (a:=atF raw fr) (n:=mx+1) (by omega) (by omega);have h2:=Mv raw fr kinds (H3 (atF raw fr) (mx+1)).toNat;have h3:=Aaz raw fr kinds (H3 (atF raw fr) (mx+1)).toNat;unfold Ro VL;split
 ·have h4:=(List.take_sublist ((IV raw fr kinds (H3 (atF raw fr) (mx+1)).toNat).length -1) (IV raw fr kinds (H3 (atF raw fr) (mx+1)).toNat)).count_le (10:UInt8);rw[Qa9];omega
 ·omega
theorem Vk(p:Bs)(o:Option Bs):(((o.map fun v=>(p,v)).toList).map (·.1)).Sublist [p]:=by cases o<;>simp
theorem AaO{raw:List Int}{fr lines:Int}(h0:0≤lines)(h1:lines≤100):Kb (lines.toNat+1) (Ki raw fr lines):=by
 refine⟨?_,fun f hf=>?_⟩
 ·obtain⟨a,b,c,d,_,hl⟩:=Acy (AaP (raw:=raw) (fr:=fr) h0 h1);rw[hl,Qb6,Qb6,Qb6];exact(Vk (Fp.getD 0 []) a).append ((Vk (Fp.getD 1 []) b).append ((Vk (Fp.getD 2 []) c).append (Vk (Fp.getD 3 []) d)))
 ·unfold Ki UK at hf;obtain⟨i,_,hi⟩:=List.mem_filterMap.1 hf;unfold Af6 at hi;split at hi
  ·have:=Qh1 hi;rw[←this];exact AjW h0 h1
  ·cases hi
theorem AbA{l:List Av}{i:Nat}(h:i<l.length):(l.take (i+1)).map (·.1)=(l.take i).map (·.1)++[(l.getD i ([],[])).1]:=by
 rw[I5 (d:=([],[])) h,Qb6];rfl
def Aam(B:Nat)(l:List Av)(i:Nat)(d:List Av):Prop:=(d.map (·.1)).Sublist ((l.take i).map (·.1))∧∀f∈d,VL B f.2
theorem AfZ{B:Nat}{l d:List Av}{i:Nat}(h:Aam B l i d)(hi:i<l.length):Aam B l (i+1) d:=⟨by rw[AbA hi];exact h.1.trans (List.sublist_append_left _ _),h.2⟩
theorem AhP{B:Nat}{l d:List Av}{i:Nat}{v:Bs}(h:Aam B l i d)(hi:i<l.length)(hv:VL B v):Aam B l (i+1) (d++[((l.getD i ([],[])).1,v)]):=by
 refine⟨?_,fun f hf=>?_⟩
 ·rw[AbA hi,Qb6];exact h.1.append (List.Sublist.refl _)
 ·rcases List.mem_append.1 hf with hf|hf
  ·exact h.2 f hf
  ·rw[List.mem_singleton.1 hf];exact hv
theorem AhQ{B:Nat}{l d:List Av}{i:Nat}(h:Aam B l i d)(hl:l.length≤4):d.length≤4:=by
 have:=h.1.length_le;rw[Qb2,Qb2,Qa9]at this;omega
def SQ(P:Pg):Prop:=∀(B:Nat) (x:List Av×(List Int×(Int×Int))),Kb B x.1→x.2.2.2.toNat+1≤B→B≤900→(0≤x.2.2.1∧x.2.2.1≤90000)→(0≤x.2.2.2∧x.2.2.2≤100)→Fn P Ajq Hw x fun(d:List Av) _=>Kb (2*B) d
theorem AgN(h:Has P Js)(hA:PW P)(hM:Na P)(hN:Vu P)(hF:Mp P):SQ P:=by
 rintro B ⟨l,raw,fr,lines⟩ hl hB hB2 ⟨f0,f1⟩ ⟨l0,l1⟩;dsimp only at hl hB f0 f1 l0 l1;have hl4:=QY hl;refine XO h ?_;unfold Rh;dsimp only;rw[w64 (n:=fr+3) (by omega) (by omega),w64 (n:=fr+5) (by omega) (by omega),w64 (n:=fr+7) (by omega) (by omega)];refine hA.at (by omega) (hM.at (by decide) (by decide) ?_);generalize H3 (atF raw (fr+3)) 4=k
 refine Ah.mid (fun d=>Aam (2*B) l l.length d) ?_ fun d hd=>⟨fun _=>?_,fun _=>?_⟩
 ·refine A4.of (fun q=>(0≤q.2∧q.2≤l.length)∧Aam (2*B) l q.2.toNat q.1) (fun q=>(l.length -q.2).toNat) ⟨⟨Qa3 _,Qb1 _⟩,by exact⟨by simp,fun f hf=>nomatch hf⟩⟩ ?_;rintro⟨d,i⟩ ⟨⟨i0,i1⟩,hd⟩;dsimp only at i0 i1 hd⊢;refine⟨fun hi=>?_,fun hi=>by have hi:=of_decide_eq_false hi;rw[show i.toNat=l.length by omega]at hd;exact hd⟩
  have hi:=of_decide_eq_true hi
  have hi2:i.toNat<l.length:=by omega
  have hb:=hl.2 _ (BK (d:=([],[])) hi2);have hb0:=hb;unfold VL at hb0;have hdl:=AhQ hd hl4
  refine Ah.mid (fun d=>Aam (2*B) l (i.toNat+1) d) ⟨⟨i0,hi⟩,hi2,?_⟩ fun d hn=>?_
  ·refine Ah.mid (fun f=>f.1=(l.getD i.toNat ([],[])).1∧VL (2*B) f.2) ⟨fun _=>?_,fun _=>⟨rfl,by unfold VL;omega⟩⟩ fun f hf=>⟨by simp only[Qa1,Qa5];omega,?_⟩
   ·refine(hN ((l.getD i.toNat ([],[])).2,(raw,fr+7)) (by dsimp only;omega) ⟨by dsimp only;omega,by dsimp only;omega⟩).to ?_
    rintro(v:Bs) _ hv;have hv:v.length≤(l.getD i.toNat ([],[])).2.length+4*((l.getD i.toNat ([],[])).2.count 10+1)∧v.count 10≤2*(l.getD i.toNat ([],[])).2.count 10+1:=hv
    have hvb:VL (2*B) v:=by unfold VL;omega
    exact hA.at (by omega) ⟨by decide,fun _=>AfZ hd hi2,fun _=>⟨rfl,hvb⟩⟩
   ·obtain⟨a,b⟩:=f;have e:a=(l.getD i.toNat ([],[])).1:=hf.1;subst e;exact AhP hd hi2 hf.2
  ·rw[w64 (by omega) (by omega)];exact⟨⟨⟨by omega,by omega⟩,by rw[show(i+1).toNat=i.toNat+1 by omega];exact hn⟩,by omega⟩
 ·refine(hF (raw,(fr,lines)) ⟨by dsimp only;omega,by dsimp only;omega⟩ ⟨l0,l1⟩).to ?_
  rintro(e:List Av) _ he;have he:e=Ki raw fr lines:=he;rw[he];exact(AaO l0 l1).mono (by omega)
 ·refine⟨?_,hd.2⟩;have:=hd.1;rw[Qg7]at this;exact this.trans hl.1
def Ml(i:Int)(l:List Int):Prop:=l.length≤3∧l.Nodup∧∀p∈l,0≤p∧p<i
def OkC(B:Nat)(i:Nat)(c:Ai):Prop:=Ml (i:Int) c.1∧(0≤c.2.1∧c.2.1<5)∧Kb (B*2^i) c.2.2
def GU(B:Nat)(g:List Ai):Prop:=∀j,j<g.length→OkC B j (g.getD j ([],(0,[])))
theorem Ml.mono{i k:Int}{l:List Int}(h:Ml i l)(hk:i≤k):Ml k l:=⟨h.1,h.2.1,fun p hp=>by have:=h.2.2 p hp;omega⟩
theorem Ml.app{i:Int}{l:List Int}(h:Ml i l)(h0:0≤i)(hl:l.length<3):Ml (i+1) (l++[i]):=by
 refine⟨by rw[Qa2];simp only[Qa1,Qa5];omega,?_,fun p hp=>?_⟩
 ·rw[Qd7];refine⟨h.2.1,by simp,fun a ha b hb=>?_⟩;rw[List.mem_singleton.1 hb];have:=h.2.2 a ha;omega
 ·rcases List.mem_append.1 hp with hp|hp
  ·have:=h.2.2 p hp;omega
  ·rw[List.mem_singleton.1 hp];omega
theorem GU.app{B:Nat}{g:List Ai}{c:Ai}(h:GU B g)(hc:OkC B g.length c):GU B (g++[c]):=by
 intro j hj;rw[Qa2,Qc0]at hj
 by_cases hjg:j<g.length
 ·rw[Ae5 hjg];exact h j hjg
 ·have e:j=g.length:=by omega
  subst e;rw[Ae6];exact hc
theorem AnB{B i:Nat}(hB:B≤3)(hi:i≤8):B*2^i≤768:=Nat.mul_le_mul hB (Qf6 (by decide) hi:2^i≤2^8)
theorem Amf{B i p:Nat}(h:p<i):2*(B*2^p)≤B*2^i:=by
 have h1:2^(p+1)≤2^i:=Qf6 (by decide) h
 have h2:2*(B*2^p)=B*2^(p+1):=by rw[Nat.pow_succ,Nat.mul_comm 2,Nat.mul_assoc]
 rw[h2];exact Nat.mul_le_mul_left _ h1
theorem pow_one(B i:Nat):B≤B*2^i:=Nat.le_mul_of_pos_right _ (Nat.pow_pos (by decide))
theorem Zl{a b:Bool}(h:(cond a b false)=true):a=true∧b=true:=by cases a<;>simp_all
def XE(n:Nat)(c:Ai):Ai:=(c.1.map fun p=>(n:Int) -1 -p,c.2)
def Aho(g d:List Ai):Prop:=d=g∨(d.length=g.length∧∀c,c<g.length→d.getD (g.length -1 -c) ([],(0,[]))=XE g.length (g.getD c ([],(0,[]))))
theorem Aa5{α:Type}{l:List α}{i:Nat}{v d:α}(h:i<l.length):(l.set i v).getD i d=v:=by
 rw[Qa0,List.getElem?_set_self h];rfl
theorem getD_set_ne{α:Type}{l:List α}{i j:Nat}{v d:α}(h:i≠j):(l.set i v).getD j d=l.getD j d:=by
 rw[Qa0,List.getElem?_set_ne h,←Qa0]
def Ta(P:Pg):Prop:=∀x:List Ai×List Int,x.1.length≤1000→(∀j,j<x.1.length→(x.1.getD j ([],(0,[]))).1.length≤1000∧∀p∈(x.1.getD j ([],(0,[]))).1,0≤p∧p<(x.1.length:Int))→Fn P Ajr Hv x fun(d:List Ai) _=>Aho x.1 d
theorem AgY(h:Has P Jr)(hA:PW P):Ta P:=by
 rintro⟨g,raw⟩ hg hp;dsimp only at hg hp;refine XN h ?_;unfold Rg;dsimp only;refine hA.at (by decide) ⟨by decide,fun _=>Or.inl rfl,fun _=>⟨⟨by omega,by omega,by omega⟩,?_⟩⟩
 refine Ah.mid (fun d=>d.length=g.length∧∀c,c<g.length→d.getD (g.length -1 -c) ([],(0,[]))=XE g.length (g.getD c ([],(0,[])))) ?_ fun _ h=>Or.inr h
 refine A4.of (fun q=>(0≤q.2∧q.2≤g.length)∧q.1.length=g.length∧∀c,c<q.2.toNat→q.1.getD (g.length -1 -c) ([],(0,[]))=XE g.length (g.getD c ([],(0,[])))) (fun q=>(g.length -q.2).toNat) ⟨⟨Qa3 _,Qb1 _⟩,by simp,fun c hc=>absurd hc (by simp)⟩ ?_;rintro⟨d,i⟩ ⟨⟨i0,i1⟩,hdl,hd⟩;dsimp only at i0 i1 hdl hd⊢
 refine⟨fun hi=>?_,fun hi=>by have hi:=of_decide_eq_false hi;exact⟨hdl,fun c hc=>hd c (by omega)⟩⟩
 have hi:=of_decide_eq_true hi
 have hi2:i.toNat<g.length:=by omega
 obtain⟨hpl,hpp⟩:=hp i.toNat hi2
 refine Ah.mid (fun d=>d.length=g.length∧∀c,c<i.toNat+1→d.getD (g.length -1 -c) ([],(0,[]))=XE g.length (g.getD c ([],(0,[])))) ⟨⟨i0,hi⟩,hi2,?_⟩ fun d2 hn=>?_
 ·have ez:g.getD i.toNat Ak=g.getD i.toNat ([],(0,[])):=rfl;rw[ez]
  refine Ah.mid (fun y=>y=XE g.length (g.getD i.toNat ([],(0,[])))) ?_ fun y hy=>?_
  ·generalize g.getD i.toNat ([],(0,[]))=cm at hpl hpp⊢;obtain⟨l,r⟩:=cm;dsimp only at hpl hpp⊢;refine A4.of (fun q=>(0≤q.1∧q.1≤l.length)∧q.2=((l.take q.1.toNat).map (fun p=>(g.length:Int) -1 -p),r)) (fun q=>(l.length -q.1).toNat) ⟨⟨Qa3 _,Qb1 _⟩,rfl⟩ ?_;rintro⟨k,x⟩ ⟨⟨k0,k1⟩,hx⟩;dsimp only at k0 k1 hx⊢;subst hx
   refine⟨⟨i0,hi⟩,hi2,fun hk=>?_,fun hk=>?_⟩
   ·have hk:=of_decide_eq_true hk
    have hk2:k.toNat<l.length:=by omega
    have hb:=hpp _ (BK (d:=0) hk2)
    have hnx:(l.take (k.toNat+1)).map (fun p=>(g.length:Int) -1 -p)=(l.take k.toNat).map (fun p=>(g.length:Int) -1 -p)++[(g.length:Int) -1 -l.getD k.toNat 0]:=by
     rw[I5 (d:=0) hk2,Qb6];rfl
    have hsz:(((l.take k.toNat).map (fun p=>(g.length:Int) -1 -p)).length+([(g.length:Int) -1 -l.getD k.toNat 0]:List Int).length)*8≤140737488355328:=by
     rw[Qb2,Qa9];simp only[Qa1,Qa5];omega
    rw[w64 (n:=(g.length:Int) -1) (by omega) (by omega),w64 (n:=(g.length:Int) -1 -l.getD k.toNat 0) (by omega) (by omega)]
    refine Ah.mid (fun y=>y=((l.take (k.toNat+1)).map (fun p=>(g.length:Int) -1 -p),r)) ?_ fun y hy=>?_
    ·refine Ah.mid (fun y=>y=((l.take (k.toNat+1)).map (fun p=>(g.length:Int) -1 -p),r)) ?_ fun y hy=>hy
     have hj:(((l.take k.toNat).map (fun p=>(g.length:Int) -1 -p)++([(g.length:Int) -1 -l.getD k.toNat 0]:List Int),r):Ai)=((l.take (k.toNat+1)).map (fun p=>(g.length:Int) -1 -p),r):=by rw[hnx]
     exact⟨⟨i0,hi⟩,hi2,⟨k0,hk⟩,hk2,⟨⟨⟨hsz,hj,trivial⟩,trivial⟩,trivial⟩,⟨⟨hsz,hj,trivial⟩,trivial⟩,trivial⟩
    ·subst hy;rw[w64 (by omega) (by omega)];exact⟨⟨⟨by omega,by omega⟩,by rw[show(k+1).toNat=k.toNat+1 by omega]⟩,by omega⟩
   ·have hk:=of_decide_eq_false hk;show((l.take k.toNat).map _,r)=XE g.length (l,r);rw[Qb0 (by omega)];rfl
  ·rw[w64 (n:=(g.length:Int) -1) (by omega) (by omega),w64 (n:=(g.length:Int) -1 -i) (by omega) (by omega)]
   have e:((g.length:Int) -1 -i).toNat=g.length -1 -i.toNat:=by omega
   rw[e];refine⟨⟨by omega,by omega⟩,by omega,?_,fun c hc=>?_⟩
   ·rw[Qc2];exact hdl
   ·by_cases hci:c=i.toNat
    ·subst hci;rw[Aa5 (by omega)];exact hy
    ·rw[getD_set_ne (by omega)];exact hd c (by omega)
 ·rw[w64 (by omega) (by omega)];exact⟨⟨⟨by omega,by omega⟩,hn.1,by rw[show(i+1).toNat=i.toNat+1 by omega];exact hn.2⟩,by omega⟩
theorem AiM{g:List Ai}(hv:U5 g)(f:Int→Int)(h:∀c,inR g c→∀p∈A6 g c,f p<f c){a b:Int}(hr:Rch g a b):inR g a→f b≤f a:=by
 induction hr with
 |refl c=>exact fun _=>Qa3 _
 |step hm t ih=>
  intro ha;have h1:=h _ ha _ hm;have h2:=ih (hv _ ha _ hm);omega
theorem Al9{g:List Ai}(hv:U5 g)(f:Int→Int)(h:∀c,inR g c→∀p∈A6 g c,f p<f c):¬Nh g:=by
 rintro⟨c,hc,p,hp,hr⟩;have h1:=h c hc p hp;have h2:=AiM hv f h hr (hv c hc p hp);omega
theorem AkK{n:Nat}{l:List Int}(hn:l.Nodup)(h:∀p∈l,0≤p∧p<(n:Int)):Ab6 n l:=by
 intro j hj;refine⟨h _ (BK hj),fun hm=>?_⟩;obtain⟨i,hi⟩:=Qc6 hm;have hi2:i<(l.take j).length:=(List.getElem?_eq_some_iff.1 hi).1;rw[Qa9]at hi2;rw[Qg8 (by omega),Qa4 (by omega),Qa0,Qa4 hj,Qb9]at hi
 rw[Qb4,Qc7]at hn;exact hn i j (by omega) hj (by omega) (Qh1 hi)
def Ahj(n:Nat)(g:List Ai):Prop:=g.length≤n∧Gg g 0∧TQ g∧∀c∈g,Kb 768 c.2.2∧c.1.length≤3
theorem Xy:∀{g:List Ai},(∀c∈g,Ga c.2.2=0)→LU g=0
 |[],_=>rfl
 |c::g,h=>by
  rw[LU,if_neg (by simpa using h c (Qa6 ..))]
  exact Xy fun x hx=>h x (Qa8 _ hx)
theorem Ae8{n:Nat}{g:List Ai}(hn:g.length≤n)(hn2:n≤9)(f:Int→Int)(h:∀j,j<g.length→(g.getD j ([],(0,[]))).1.length≤3∧(g.getD j ([],(0,[]))).1.Nodup∧(∀p∈(g.getD j ([],(0,[]))).1,(0≤p∧p<(g.length:Int))∧f p<f j)∧(0≤(g.getD j ([],(0,[]))).2.1∧(g.getD j ([],(0,[]))).2.1<5)∧Kb 768 (g.getD j ([],(0,[]))).2.2):Ahj n g:=by
 have hT:∀c∈g,Kb 768 c.2.2∧c.1.length≤3:=FL (d:=([],(0,[]))) fun j hj=>⟨(h j hj).2.2.2.2,(h j hj).1⟩
 have hrel:L9 g:=FL (d:=([],(0,[]))) (p:=fun c=>Ab6 g.length c.1) fun j hj=>AkK (h j hj).2.1 fun p hp=>((h j hj).2.2.1 p hp).1
 have hv:=HO hrel;refine⟨hn,ZI ⟨by omega,fun c hc=>Qb8 (hT c hc).2 (by decide)⟩ hrel (Al9 hv f fun c hc p hp=>?_) (FL (d:=([],(0,[]))) (p:=fun c=>0≤c.2.1∧c.2.1≤2147483647) fun j hj=>by have:=(h j hj).2.2.2.1;omega) (Xy fun c hc=>Ag7 (hT c hc).1 (by decide)).symm,fun c hc=>(Ajf (hT c hc).1 (by decide)).2,hT⟩
 have h0:=hc.1;have h1:=hc.2;have:=((h c.toNat (by omega)).2.2.1 p hp).2;rw[show((c.toNat:Nat):Int)=c by omega]at this;exact this
def okB(B n:Nat):Prop:=(B≤3∧n≤9)∨(B≤5∧n≤8)
theorem AdY{B n i:Nat}(h:okB B n)(hi:i<n):B*2^i≤768:=by
 rcases h with⟨h1,h2⟩|⟨h1,h2⟩
 ·exact AnB h1 (by omega)
 ·exact Qb8 (Nat.mul_le_mul h1 (Qf6 (by decide) (show i≤7 by omega):2^i≤2^7)) (by decide)
theorem Anr{B n:Nat}{g:List Ai}(hB:okB B n)(hn:g.length≤n)(hn2:n≤9)(h:GU B g):Ahj n g:=Ae8 hn hn2 (fun x=>x) fun j hj=>by
 obtain⟨⟨h1,h2,h3⟩,h4,h5⟩:=h j hj;exact⟨h1,h2,fun p hp=>⟨by have:=h3 p hp;omega,(h3 p hp).2⟩,h4,h5.mono (AdY hB (by omega))⟩
theorem Ags{α β:Type}{f:α→β}(hf:∀a b,f a=f b→a=b){l:List α}(h:l.Nodup):(l.map f).Nodup:=by
 rw[Qb4]at*;rw[Qc4]
 exact h.imp fun hne e=>hne (hf _ _ e)
theorem Ak2{B n:Nat}{g d:List Ai}(hB:okB B n)(hn:g.length≤n)(hn2:n≤9)(h:GU B g)(ht:Aho g d):Ahj n d:=by
 rcases ht with rfl|⟨hl,ht⟩
 ·exact Anr hB hn hn2 h
 ·refine Ae8 (by omega) hn2 (fun x=>-x) fun j hj=>?_
  have e:=ht (g.length -1 -j) (by omega);rw[show g.length -1 -(g.length -1 -j)=j by omega]at e;rw[e];obtain⟨⟨h1,h2,h3⟩,h4,h5⟩:=h (g.length -1 -j) (by omega);refine⟨by unfold XE;rw[Qb2];exact h1,Ags (fun a b e=>by omega) h2,fun p hp=>?_,h4,h5.mono (AdY hB (by omega))⟩
  obtain⟨q,hq,rfl⟩:=List.mem_map.1 hp;have:=h3 q hq;omega
def SS(P:Pg):Prop:=∀x:List Int×(Int×Int),0≤x.2.1→0≤x.2.2→okB (x.2.2.toNat+1) x.2.1.toNat→Fn P Ajs IL x fun(d:List Ai) _=>Ahj x.2.1.toNat d
theorem AgQ(h:Has P Lk)(hA:PW P)(hM:Na P)(hF:Mp P)(hC:SQ P)(hT:Ta P):SS P:=by
 rintro⟨raw,n,lines⟩ n0 l0 hB;dsimp only at n0 l0 hB
 have n1:n≤9:=by rcases hB with h|h<;>omega
 have l1:lines≤4:=by rcases hB with h|h<;>omega
 refine Zt h ?_;unfold Ud;dsimp only;rw[w64 (n:=n+1) (by omega) (by omega)];refine hA.at (by decide) (hM.at (by omega) (by omega) ?_);have hr:=EW (a:=atF raw 0) (n:=n+1) (by omega) (by omega);generalize H3 (atF raw 0) (n+1)=m at hr⊢
 refine Ah.mid (fun g=>g.length=m.toNat∧GU (lines.toNat+1) g) ?_ fun g hg=>?_
 ·refine A4.of (fun q=>(0≤q.2∧q.2≤m)∧q.1.length=q.2.toNat∧GU (lines.toNat+1) q.1) (fun q=>(m -q.2).toNat) ⟨⟨Qa3 _,hr.1⟩,rfl,fun j hj=>absurd hj (by simp)⟩ ?_;rintro⟨g,i⟩ ⟨⟨i0,i1⟩,hgl,hg⟩;dsimp only at i0 i1 hgl hg⊢;refine⟨fun hi=>?_,fun hi=>by have hi:=of_decide_eq_false hi;exact⟨by omega,hg⟩⟩
  have hi:=of_decide_eq_true hi
  refine Ah.mid (fun g=>g.length=i.toNat+1∧GU (lines.toNat+1) g) ?_ fun g2 hn=>?_
  ·rw[w64 (n:=1000+i) (by omega) (by omega),w64 (n:=40*i) (by omega) (by omega),w64 (n:=1100+40*i) (by omega) (by omega),w64 (n:=1500+i) (by omega) (by omega),w64 (n:=200*i) (by omega) (by omega),w64 (n:=2000+200*i) (by omega) (by omega),w64 (n:=1600+i) (by omega) (by omega),w64 (n:=i -1) (by omega) (by omega)]
   refine hA.at (by omega) (hM.at (by decide) (by decide) ?_);have hdr:=EW (a:=atF raw (1000+i)) (n:=5) (by decide) (by decide);generalize H3 (atF raw (1000+i)) 5=dt at hdr⊢
   refine Ah.mid (fun x=>Ml i x.1∧x.2=(dt,[])) ?_ fun x hx=>?_
   ·refine A4.of (fun q=>(0≤q.1∧q.1≤i)∧Ml q.1 q.2.1∧q.2.2=(dt,[])) (fun q=>(i -q.1).toNat) ⟨⟨Qa3 _,i0⟩,⟨Qe9 _,Qh2,fun p hp=>nomatch hp⟩,rfl⟩ ?_;rintro⟨p,⟨l,r⟩⟩ ⟨⟨p0,p1⟩,hl,hrr⟩;dsimp only at p0 p1 hl hrr⊢;refine⟨fun hp=>?_,fun hp=>by have hp:=of_decide_eq_false hp;exact⟨hl.mono (by omega),hrr⟩⟩
    have hp:=of_decide_eq_true hp
    refine Ah.mid (fun x=>Ml (p+1) x.1∧x.2=(dt,[])) ?_ fun x hx=>?_
    ·rw[w64 (n:=1100+40*i+p) (by omega) (by omega)];refine hA.at (by omega) ⟨by decide,?_⟩
     refine Ah.mid (fun x=>Ml (p+1) x.1∧x.2=(dt,[])) ⟨fun hb=>?_,fun _=>⟨hl.mono (by omega),hrr⟩⟩ fun _ h=>h
     have hb2:=of_decide_eq_true (Zl hb).2;exact⟨by simp only[Qa1,Qa5];omega,hl.app p0 (by omega),hrr⟩
    ·rw[w64 (by omega) (by omega)];exact⟨⟨⟨by omega,by omega⟩,hx.1,hx.2⟩,by omega⟩
   ·refine Ah.mid (fun _=>True) ⟨fun _=>hA.at (by omega) trivial,fun _=>trivial,trivial⟩ fun d27 _=>⟨fun _=>by decide,?_⟩
    refine Ah.mid (fun y=>Ml i y.1∧y.2=(dt,[])) ⟨fun hb=>?_,fun _=>hx⟩ fun y hy=>?_
    ·have hi0:=of_decide_eq_true (Zl (Zl hb).1).2;exact⟨⟨Nat.succ_le_succ (Qe9 _),by simp,fun p hp=>by rw[List.mem_singleton.1 hp];omega⟩,hx.2⟩
    ·obtain⟨hy1,hy2⟩:=hy;refine(hF (raw,(2000+200*i,lines)) ⟨by dsimp only;omega,by dsimp only;omega⟩ ⟨l0,by dsimp only;omega⟩).to ?_
     rintro(fl:List Av) _ hfl;have hfl:fl=Ki raw (2000+200*i) lines:=hfl
     have hfs:Kb (lines.toNat+1) fl:=by rw[hfl];exact AaO l0 (by omega)
     refine Ah.mid (fun _=>True) ⟨fun _=>hA.at (by omega) trivial,fun _=>trivial,trivial⟩ fun d34 _=>⟨fun _=>by decide,?_⟩
     have hii:((i.toNat:Nat):Int)=i:=by omega
     have hy1':Ml ((i.toNat:Nat):Int) y.1:=by rw[hii];exact hy1
     have hdt:0≤y.2.1∧y.2.1<5:=by rw[hy2];exact hdr
     refine Ah.mid (fun z=>OkC (lines.toNat+1) i.toNat z) ⟨fun hb=>?_,fun _=>?_⟩ fun z hz=>⟨by simp only[Qa1,Qa5];omega,?_,hg.app (by rw[hgl];exact hz)⟩
     ·have hpos:=of_decide_eq_true (Zl hb).1
      have hpos2:0<y.1.length:=by omega
      have hp:=hy1.2.2 _ (BK (d:=0) hpos2);refine⟨⟨by decide,by omega⟩,hpos2,⟨hp.1,by rw[hgl];exact(show y.1.getD 0 0<((i.toNat:Nat):Int)by rw[hii];exact hp.2)⟩,by have:=hp.1;have:=hp.2;show(y.1.getD 0 0).toNat<g.length;omega,?_⟩
      have hpn:(y.1.getD 0 0).toNat<i.toNat:=by omega
      have hog:=hg (y.1.getD 0 0).toNat (by omega);have hpb:=AdY (i:=(y.1.getD 0 0).toNat) hB (by omega);have hpo:=pow_one (lines.toNat+1) (y.1.getD 0 0).toNat;have hup:=Amf (B:=lines.toNat+1) hpn
      refine(hC ((lines.toNat+1)*2^(y.1.getD 0 0).toNat) ((g.getD (y.1.getD 0 0).toNat ([],(0,[]))).2.2,(raw,(2000+200*i,lines))) hog.2.2 hpo (by omega) ⟨by dsimp only;omega,by dsimp only;omega⟩ ⟨l0,by dsimp only;omega⟩).to ?_
      rintro(fl2:List Av) _ hfl2;exact⟨hy1',hdt,Kb.mono hfl2 hup⟩
     ·exact⟨hy1',hdt,hfs.mono (pow_one _ _)⟩
     ·rw[Qa2,hgl];rfl
  ·rw[w64 (by omega) (by omega)];exact⟨⟨⟨by omega,by omega⟩,by rw[hn.1];omega,hn.2⟩,by omega⟩
 ·refine(hT (g,raw) (by dsimp only;omega) fun j hj=>?_).to ?_
  ·have:=(hg.2 j hj).1;exact⟨Qb8 this.1 (by decide),fun p hp=>by have h3:=this.2.2 p hp;have hj:j<g.length:=hj;dsimp only;omega⟩
  ·rintro(d:List Ai) _ hd;exact Ak2 hB (by omega) (by omega) hg.2 hd
def Mq(P:Pg):Prop:=Fn P AeK G7 () fun(d:Bool) _=>d=true
theorem Mq.at(h:Mq P){K:Bool→Unit→Prop}(hk:K true ()):Fn P AeK G7 () K:=
 Fn.to h fun(d:Bool) _ hd=>by
  have hd:d=true:=hd;subst hd;exact hk
theorem Xx{T:List Av}(h:Ga T=0)(n:Nat):0≤Gz (T.take n)∧Gz (T.take n)≤209715200:=by
 have hl:=Ow h;have hb:=Pq h
 have h1:∀f∈T.take n,(-1048576:Int)≤((f.2.count 97:Nat):Int)∧((f.2.count 97:Nat):Int)≤1048576:=fun f hf=>by
  have:=hb f (Qf5 hf);have:=Adm f.2;omega
 have h2:=Aac (f:=fun f:Av=>((f.2.count 97:Nat):Int)) h1
 have h3:∀l:List Av,0≤CS (fun f:Av=>((f.2.count 97:Nat):Int)) l:=fun l=>by
  induction l with
  |nil=>exact Qa3 _
  |cons x l ih=>rw[CS];omega
 have h4:=h3 (T.take n)
 have:(T.take n).length≤200:=by rw[Qa9];omega
 unfold Gz;generalize CS (fun f:Av=>((f.2.count 97:Nat):Int)) (T.take n)=z at h2 h4⊢;omega
theorem Aey{T:List Av}(h:Ga T=0):0≤Gz T∧Gz T≤209715200:=by
 have:=Xx h T.length
 rwa [Qg7]at this
def Vq(g:List Ai)(c:Int)(v:List Int):Prop:=v.Nodup∧∀x∈v,inR g x∧∃p∈A6 g x,Rch g p c
theorem Vq.cons{g:List Ai}{c p:Int}{v:List Int}(h:Vq g c v)(hcy:¬Nh g)(hc:inR g c)(hp:p∈A6 g c):Vq g p (c::v):=by
 refine⟨List.nodup_cons.2 ⟨fun hm=>?_,h.1⟩,fun x hx=>?_⟩
 ·obtain⟨h1,q,hq,hr⟩:=h.2 c hm;exact hcy ⟨c,h1,q,hq,hr⟩
 ·rcases List.mem_cons.1 hx with rfl|hx
  ·exact⟨hc,p,hp,.refl p⟩
  ·obtain⟨h1,q,hq,hr⟩:=h.2 x hx;exact⟨h1,q,hq,hr.snoc hp⟩
theorem Vq.lt{g:List Ai}{c:Int}{v:List Int}(h:Vq g c v)(hcy:¬Nh g)(hc:inR g c):v.length<g.length:=by
 have hn:(c::v).Nodup:=List.nodup_cons.2 ⟨fun hm=>by
  obtain⟨h1,q,hq,hr⟩:=h.2 c hm
  exact hcy ⟨c,h1,q,hq,hr⟩,h.1⟩
 have:=DX (m:=rng g.length) hn fun x hx=>by
  rcases List.mem_cons.1 hx with rfl|hx
  ·exact Dk.2 hc
  ·exact Dk.2 (h.2 x hx).1
 rw[Fy,Qa1]at this;omega
theorem Z9(h:Has P GQ)(hG:SS P)(hM:Na P)(hL:Zb P)(hN:SR P)(hC:Mo P)(hS:Mq P)(x:List Int×Int):
  Fn P Am2 DD x fun(d:Bool) _=>d=true:=by
 obtain⟨raw,s⟩:=x;refine Tw h ?_;unfold NR;dsimp only;refine(hG (raw,(6,3)) (show(0:Int)≤6 by decide) (show(0:Int)≤3 by decide) (.inr ⟨show(3:Int).toNat+1≤5 by decide,show(6:Int).toNat≤8 by decide⟩)).to ?_;rintro(g:List Ai) _ hg;have hg:Ahj 6 g:=hg;obtain⟨hgl,h0,hs,-⟩:=hg;refine⟨fun _=>hS.at rfl,fun hb=>?_⟩
 have hgn:¬((g.length:Nat):Int)=0:=by simpa using hb
 refine hM.at (by omega) (by omega) ?_;have hcr:=EW (a:=s) (n:=(g.length:Int)) (by omega) (by omega);generalize H3 s (g.length:Int)=s at hcr⊢;have hin:inR g s:=hcr
 have hs2:s.toNat<g.length:=by have:=hin.1;have:=hin.2;omega
 have hcy:=(Dd h0).2.2.1;have hv:=HO (Dd h0).2.1;refine(hL (g,s) hs h0 (by dsimp only;omega) hin).to ?_
 rintro⟨(l:List Int),(e:Int)⟩ _ ⟨he,hll,hl⟩;dsimp only at he hll hl⊢;subst he;refine⟨fun k=>(nomatch k),fun _=>?_⟩;have hsB:=Aey (Io h0 hs hin).1;refine Ah.mid (fun q=>q.2=Gz (Ct g s)) ?_ ?_
 ·refine A4.of (fun q=>(0≤q.2.2.2∧q.2.2.2≤g.length)∧inR g q.2.2.1∧Rch g s q.2.2.1∧q.2.1=Gz (Ct g s) -Gz (Ct g q.2.2.1)∧∃v,v.length=q.2.2.2.toNat∧Vq g q.2.2.1 v) (fun q=>(g.length -q.2.2.2).toNat) ⟨⟨Qa3 _,by dsimp only;omega⟩,hin,.refl s,(Int.sub_self _).symm,[],rfl,Qh2,fun x hx=>(nomatch hx)⟩ ?_
  rintro⟨b,sum,c,i⟩ ⟨⟨i0,i1⟩,hc,hr,hsum,v,hvl,hvs⟩;dsimp only at i0 i1 hc hr hsum hvl hvs⊢;have hvlt:=hvs.lt hcy hc;refine⟨fun hi=>?_,fun hi=>absurd (of_decide_eq_false hi) (by omega)⟩;have hi:=of_decide_eq_true hi
  have hc2:c.toNat<g.length:=by have:=hc.1;have:=hc.2;omega
  have hcB:=Aey (Io h0 hs hc).1
  refine Ah.mid (fun q=>inR g q.2.2∧Rch g s q.2.2∧q.2.1=Gz (Ct g s) -Gz (Ct g q.2.2)∧∃v,v.length=i.toNat+1∧Vq g q.2.2 v) ?_ fun q hq=>?_
  ·refine(hN (g,c) hs h0 hc).to ?_;rintro⟨(n:List Int),(e:Int)⟩ _ ⟨he,hnl,hnk⟩;dsimp only at he hnl hnk⊢;subst he;have hpl:(A6 g c).length≤1000000:=Qb8 ((Dd h0).1.2 _ (EF hc2)) (by decide)
   have hn0:0<n.length:=by rw[hnl];exact(NH hpl).2
   have ht0:=PH h0 hs hc _ (BK (d:=[]) (i:=0) (by rw[←hnl];exact hn0))
   have htB:=Aey ht0.1;have hd0:=hnk 0 hn0
   have hcd:cond ((0:Int) !=0) true (((n.length:Nat):Int)==0)=false:=by
    rw[show((0:Int) !=0)=false from rfl,cond_false,beq_eq_false_iff_ne];omega
   rw[hcd];refine⟨fun k=>(nomatch k),fun _=>?_⟩
   refine Ah.mid (fun d=>c∈l→d=true) ?_ fun d hd=>?_
   ·refine A4.of (fun q=>(0≤q.2∧q.2≤l.length)∧(c∈l.take q.2.toNat→q.1=true)) (fun q=>(l.length -q.2).toNat) ⟨⟨Qa3 _,by dsimp only;omega⟩,fun k=>(nomatch k)⟩ ?_
    rintro⟨d,j⟩ ⟨⟨j0,j1⟩,hd⟩;dsimp only at j0 j1 hd⊢;refine⟨fun hj=>?_,fun hj=>?_⟩
    ·have hj:=of_decide_eq_true hj
     have hj2:j.toNat<l.length:=by omega
     refine Ah.mid (fun d=>c∈l.take (j.toNat+1)→d=true) ⟨fun _=>⟨j0,hj⟩,fun _=>hj2,fun k=>?_⟩ fun d hd=>?_
     ·rw[I5 (d:=0) hj2]at k
      rcases List.mem_append.1 k with k|k
      ·rw[hd k];rfl
      ·rw[show l.getD j.toNat 0=c from(List.mem_singleton.1 k).symm,beq_self_eq_true]
       cases d<;>rfl
     ·rw[w64 (by omega) (by omega),show(j+1).toNat=j.toNat+1 by omega];exact⟨⟨⟨by omega,by omega⟩,hd⟩,by omega⟩
    ·have hj:=of_decide_eq_false hj;rw[Qb0 (by omega)]at hd;exact hd
   ·refine⟨⟨Qa3 _,by omega⟩,hn0,fun k=>?_,fun _=>⟨⟨Qa3 _,by omega⟩,hn0,⟨hc.1,hc.2⟩,hc2,?_⟩⟩
    ·exfalso
     have hne:n.getD 0 0≠0:=fun e=>by
      have k:cond (n.getD 0 0 !=0) (!d) false=true:=k;rw[e]at k;cases k
     have hcl:c∈l:=hl c hr ⟨0,by rw[←hnl];exact hn0,fun e=>hne (by rw[hd0];omega)⟩
     have k:cond (n.getD 0 0 !=0) (!d) false=true:=k;rw[hd hcl]at k
     cases hq:n.getD 0 0 !=0<;>rw[hq]at k<;>cases k
    ·have hw:IntKind.i64.wrap (sum+n.getD 0 0)=Gz (Ct g s) -Gz ((Cp g c).getD 0 []):=by
      rw[hd0,hsum,w64 (by omega) (by omega)];omega
     refine⟨fun k=>?_,fun k=>?_⟩
     ·have hp0:(A6 g c).length=0:=by
       have:=eq_of_beq k;exact Int.ofNat.inj this
      have he:Cp g c=[[]]:=by unfold Cp;rw[if_pos hp0]
      rw[he]at hw;show IntKind.i64.wrap (sum+n.getD 0 0)=_;rw[hw];show _ -0=_;omega
     ·have hp0:¬(A6 g c).length=0:=fun e=>by
       have:=beq_eq_false_iff_ne.1 k;exact this (by show(((A6 g c).length:Nat):Int)=0;rw[e];rfl)
      have hpl2:0<(A6 g c).length:=by omega
      have hpm:(A6 g c).getD 0 0∈A6 g c:=BK hpl2
      have he:(Cp g c).getD 0 []=Ct g ((A6 g c).getD 0 0):=by
       unfold Cp;rw[if_neg hp0,getD_eq (by rw[Qb2];exact hpl2),List.getElem_map,getD_eq hpl2]
      rw[he]at hw;refine⟨⟨hc.1,hc.2⟩,hc2,⟨Qa3 _,by show(0:Int)<((A6 g c).length:Nat);omega⟩,hpl2,?_⟩
      exact⟨hv c hc _ hpm,hr.snoc hpm,hw,c::v,by rw[Qa1,hvl],hvs.cons hcy hc hpm⟩
  ·obtain⟨h1,h2,h3,v2,h4,h5⟩:=hq;rw[w64 (by omega) (by omega)];exact⟨⟨⟨by omega,by omega⟩,h1,h2,h3,v2,by rw[h4];omega,h5⟩,by omega⟩
 ·rintro⟨b,t⟩ ht;dsimp only at ht⊢;subst ht;have hfc:=(Io h0 hs hin).1;have hz:(Qf8 g (Qb7 s) Ak).2.2=Ct g s:=rfl;rw[hz];generalize Ct g s=F at hfc hsB⊢;refine Ah.mid (fun v=>v=0) ?_ ?_
  ·refine A4.of (fun q=>(0≤q.2∧q.2≤F.length)∧q.1=Gz F -Gz (F.take q.2.toNat)) (fun q=>(F.length -q.2).toNat) ⟨⟨Qa3 _,by dsimp only;omega⟩,(Int.sub_zero _).symm⟩ ?_
   rintro⟨v,j⟩ ⟨⟨j0,j1⟩,hv⟩;dsimp only at j0 j1 hv⊢;have hFl:=Ow hfc;refine⟨⟨hin.1,hin.2⟩,hs2,fun hj=>?_,fun hj=>?_⟩
   ·have hj:=of_decide_eq_true hj
    have hj2:j.toNat<F.length:=by omega
    refine Ah.mid (fun v=>v=Gz F -Gz (F.take (j.toNat+1))) ⟨⟨hin.1,hin.2⟩,hs2,⟨j0,hj⟩,hj2,?_⟩ fun v hv=>?_
    ·have hsm:=Pq hfc _ (BK (d:=([],[])) hj2);refine(hC (F.getD j.toNat ([],[])).2 (by omega)).to ?_;rintro(d:Int) _ hd;have hd:d=(((F.getD j.toNat ([],[])).2.count 97:Nat):Int):=hd;have b1:=Xx hfc j.toNat;have b2:=Xx hfc (j.toNat+1)
     have e1:Gz (F.take (j.toNat+1))=Gz (F.take j.toNat)+d:=by
      rw[I5 (d:=([],[])) hj2];unfold Gz;rw[OZ,CS,CS,Int.add_zero,hd]
     show IntKind.i64.wrap (v -d)=_;rw[w64 (by omega) (by omega)];omega
    ·rw[w64 (by omega) (by omega),show(j+1).toNat=j.toNat+1 by omega];exact⟨⟨⟨by omega,by omega⟩,hv⟩,by omega⟩
   ·have hj:=of_decide_eq_false hj;rw[Qb0 (by omega)]at hv;show v=0;omega
  ·rintro v rfl
   refine Ah.mid (fun d=>d=true) ⟨fun _=>hS.at rfl,fun k=>(nomatch k),trivial⟩ fun d hd=>?_
   subst hd;rfl
section
variable{α β:Type}[DecidableEq α][DecidableEq β]
def IX:List α→List α→Nat
 |[],b=>b.length
 |x::a,[]=>a.length+1
 |x::a,y::b=>if x=y then IX a b else 1+min (IX a (y::b)) (IX (x::a) b)
termination_by a b=>a.length+b.length
theorem Zn(b:List α):IX [] b=b.length:=by cases b<;>simp[IX]
theorem AaM(a:List α):IX a []=a.length:=by cases a<;>simp[IX]
theorem AhV{x y:α}(h:x=y)(a b:List α):IX (x::a) (y::b)=IX a b:=by rw[IX,if_pos h]
theorem AhW{x y:α}(h:x≠y)(a b:List α):IX (x::a) (y::b)=1+min (IX a (y::b)) (IX (x::a) b):=by rw[IX,if_neg h]
theorem AlR:∀(n:Nat) (a b:List α),a.length+b.length≤n→IX a b≤a.length+b.length:=by
 intro n
 induction n with
 |zero=>
  intro a b h;have ha:a=[]:=List.length_eq_zero_iff.1 (by omega);have hb:b=[]:=List.length_eq_zero_iff.1 (by omega);rw[ha,hb];simp[Zn]
 |succ n ih=>
  intro a b h
  cases a with
  |nil=>rw[Zn];simp
  |cons x a=>
   cases b with
   |nil=>rw[AaM];simp
   |cons y b=>
    simp only[Qa1]at h⊢
    by_cases e:x=y
    ·rw[AhV e];have:=ih a b (by omega);omega
    ·rw[AhW e];have:=ih a (y::b) (by simp only[Qa1];omega)
     simp only[Qa1]at this;omega
def GA:List α→List α→Int→Int→List (Int×Int)
 |[],_,_,_=>[]
 |x::a,[],i,j=>GA a [] (i+1) j
 |x::a,y::b,i,j=>if x=y then(i,j)::GA a b (i+1) (j+1)else if IX a (y::b)+1=IX (x::a) (y::b)then GA a (y::b) (i+1) j else GA (x::a) b i (j+1)
termination_by a b=>a.length+b.length
theorem Vo(b:List α)(i j:Int):GA [] b i j=[]:=by cases b<;>simp[GA]
theorem XG:∀(a:List α) (i j:Int),GA a [] i j=[]
 |[],_,_=>by simp[GA]
 |x::a,i,j=>by rw[GA,XG a]
theorem Ajk{x y:α}(h:x=y)(a b:List α)(i j:Int):GA (x::a) (y::b) i j=(i,j)::GA a b (i+1) (j+1):=by rw[GA,if_pos h]
theorem Ajj{x y:α}(h:x≠y){a b:List α}(hd:IX a (y::b)+1=IX (x::a) (y::b))(i j:Int):GA (x::a) (y::b) i j=GA a (y::b) (i+1) j:=by rw[GA,if_neg h,if_pos hd]
theorem Ahb{x y:α}(h:x≠y){a b:List α}(hd:¬IX a (y::b)+1=IX (x::a) (y::b))(i j:Int):GA (x::a) (y::b) i j=GA (x::a) b i (j+1):=by rw[GA,if_neg h,if_neg hd]
def AjR(lo:Int×Int)(m n:Int):List (Int×Int)→Prop
 |[]=>True
 |s::r=>(lo.1≤s.1∧lo.2≤s.2∧s.1<m∧s.2<n)∧AjR (s.1+1,s.2+1) m n r
end
abbrev Qc:=Int×(Int×(Int×Int))
def Aa4(old now:Int)(s:Int×Int):List Qc:=if old<s.1∨now<s.2 then[(old,(s.1 -old,(now,s.2 -now)))]else[]
def OM(m n:Int):List (Int×Int)→Int→Int→List Qc
 |[],old,now=>Aa4 old now (m,n)
 |s::r,old,now=>Aa4 old now s++OM m n r (s.1+1) (s.2+1)
end Go.VS
namespace Go.VS
variable{P:Pg}
def Rc(P:Pg):Prop:=∀x:List Int×List Int,x.1.length≤4096→x.2.length≤4096→Fn P AmZ GS x fun(d:List (Int×Int)) _=>d=GA x.1 x.2 0 0
def U6(P:Pg):Prop:=∀x:List (Int×Int)×(Int×Int),x.1.length≤4096→(0≤x.2.1∧x.2.1≤4096)→(0≤x.2.2∧x.2.2≤4096)→AjR (0,0) x.2.1 x.2.2 x.1→Fn P AmY EP x fun(d:List Qc) _=>d=OM x.2.1 x.2.2 x.1 0 0
def AlU(x:List (List Bs))(f:Bs→Int):Prop:=∀u,u∈x.flatten→∀v,v∈x.flatten→f u=f v→u=v
def AcU(P:Pg):Prop:=∀x:List (List Bs),x.length≤4096→(∀l∈x,l.length≤4096∧∀s∈l,s.length≤1048576)→Fn P Alc E6 x fun(d:List (List Int)×List Bs) _=>∃f,AlU x f∧d.1=x.map fun l=>l.map f
def Lx(P:Pg):Prop:=∀x:List (List Bs),x.length≤4096→(∀l∈x,l.length≤4096∧∀s∈l,s.length≤1048576)→Fn P Alc E6 x fun(d:List (List Int)×List Bs) _=>∃f,AlU x f∧(d.1=x.map fun l=>l.map f)∧d.2.length≤x.flatten.length∧∀s∈x.flatten,0≤f s∧d.2[(f s).toNat]?=some s
end Go.VS
set_option maxRecDepth 100000
namespace Go.VS
variable{P:Pg}
def M9(P:Pg):Prop:=∀x:List (List Bs),x.length≤1000→(∀l∈x,l.length≤1000)→Fn P "slices.Concat[[]string,string]" Cx x fun(d:List Bs) _=>d=x.flatten
theorem BO{A:AFn}{S:Sig}{c:Ar}(h:Has P A)(he:c.erase=A.code:=by rfl)(hn:Nat.beq (npar S.ps) A.np=true:=by kernel_rfl)(hS:S.free=true:=by kernel_rfl):Ent.ok P ⟨A,S,c⟩:=⟨h,he,hn,hS⟩
abbrev Nq:List Node:=[(1,((0,(8589934592,(0,0))),(0,(0,[])))),(3,((0,(0,(0,0))),(0,(0,[])))),(4,((0,(0,(0,0))),(0,(0,[0,1]))))]
def Rb(P:Pg):Prop:=Fn P An6 Hx (([97,36]:Bs),((0:Int),((0:Int),[]))) fun(d:Int) (e:Sq)=>d=2∧e=(([97,36]:Bs),((2:Int),((0:Int),Nq)))
def esP:List Ent:=[⟨G1,C9,KJ⟩,⟨FA,FG,I2⟩,⟨Gu,DK,Jn⟩,⟨Fi,Fm,Ib⟩,⟨Gv,Jj,Jo⟩,⟨G2,Da,KK⟩,⟨Ed,Gi,Gq⟩,⟨Ih,Mn,MS⟩,⟨Gw,Jk,Jp⟩,⟨G3,JX,KL⟩,⟨Fj,N3,Ic⟩,⟨FB,IM,I3⟩,⟨D0,D1,FU⟩,⟨EL,Hx,HT⟩]
theorem AkX(h0:Has P G1)(h1:Has P FA)(h2:Has P Gu)(h3:Has P Fi)(h4:Has P Gv)(h5:Has P G2)(h6:Has P Ed)(h7:Has P Ih)(h8:Has P Gw)(h9:Has P G3)(h10:Has P Fj)(h11:Has P FB)(h12:Has P D0)(h13:Has P EL):Rb P:=
 Ah6 (kn:=id) (N:=50) (l:=esP) (fun _ h=>h) (show SP P esP from⟨BO h0,BO h1,BO h2,BO h3,BO h4,BO h5,BO h6,BO h7,BO h8,BO h9,BO h10,BO h11,BO h12,BO h13,trivial⟩) 30 (by kernel_rfl)
def Pl(P:Pg):Prop:=Fn P "mergelens/regex.Parse" LY ([97,36]:Bs) fun(d:List Node×Int) _=>d=(Nq,(0:Int))
abbrev gA:List Ai:=[([],((0:Int),[([120],[97,97])]))]
def esS:List Ent:=[⟨Qe,G7,Xp⟩,⟨Qd,Qf,Xo⟩,⟨I7,NM,NX⟩,⟨Hp,Lr,LP⟩,⟨Hl,Ln,LL⟩,⟨EA,BJ,Hh⟩,⟨Ec,Bu,Gp⟩,⟨DY,FD,FR⟩,⟨DZ,FE,FT⟩,⟨JR,Oe,O7⟩,⟨LW,PU,P7⟩,⟨M3,Q9,SD⟩,⟨I9,NN,NZ⟩,⟨I8,Jb,NY⟩,⟨JS,Og,O8⟩,⟨CI,Ea,Eb⟩,⟨Eh,CE,GY⟩,⟨FX,Ej,JD⟩,⟨Dx,Cw,Fz⟩,⟨Hb,Em,LS⟩,⟨Bn,BX,B2⟩,⟨Bw,Cd,Ci⟩,⟨Ho,Lq,LO⟩,⟨G0,JV,KI⟩,⟨M1,Q8,SC⟩,⟨M4,M7,SE⟩,⟨Hm,Lo,LM⟩,⟨Gt,Ey,Jm⟩,⟨LX,PV,P8⟩,⟨Ee,Gj,Gr⟩,⟨FC,FH,I4⟩,⟨Hn,Lp,LN⟩,⟨Fk,H5,Ie⟩,⟨Fl,H6,Ig⟩,⟨JT,Oh,O9⟩,⟨Hq,Ls,LQ⟩,⟨G4,JY,KO⟩,⟨Ja,Jc,N0⟩,⟨G5,JZ,KR⟩,⟨Od,Lt,UG⟩,⟨M5,M8,SF⟩,⟨FZ,ER,JE⟩,⟨F0,F4,JF⟩]
def kS(cb:CB):CB:=
 knC "mergelens/regex.Parse" LY (knV ([97,36]:Bs) ((Nq,(0:Int)),()))<|
 knC Alb Lu (knV (([]:List Av),([([120],[97,97])]:List Av)) ((([([120],1)]:List BN),(0:Int)),()))<|
 knC "slices.Concat[[][2]string,[2]string]" Bk (knV ([[([],[97,97])]]:List (List Gh)) (([([],[97,97])]:List Gh),()))<|
 knC Alc E6 (knV ([[],[[97,97]]]:List (List Bs)) ((([[],[0]]:List (List Int)),([[97,97]]:List Bs)),()))<|
 knC AmY EP (knV (([]:List (Int×Int)),((0:Int),(1:Int))) (([(0,(0,(0,1)))]:List Change),()))<|
 knC AmZ GS (knV (([]:List Int),([0]:List Int)) (([]:List (Int×Int)),()))<|
 knC "slices.Concat[[]string,string]" Cx (knV ([[],[[97,97]]]:List (List Bs)) (([[97,97]]:List Bs),()))<|
 knC "strings.TrimSuffix" Dm (knV (([97,97]:Bs),([10]:Bs)) (([97,97]:Bs),()))<|
 knC "strings.SplitAfter" Dl (knV (([97,97]:Bs),([10]:Bs)) (([[97,97]]:List Bs),()))<|
 knC "strings.SplitAfter" Dl (knV (([]:Bs),([10]:Bs)) (([[]]:List Bs),()))<|
 knC "strings.Count" DC (knV (([97,97]:Bs),([10]:Bs)) ((0:Int),()))<|
 knC "strings.Count" DC (knV (([]:Bs),([10]:Bs)) ((0:Int),()))<|
 knC "strings.HasSuffix" CQ (knV (([97,97]:Bs),([10]:Bs)) (false,()))<|
 knC Ahd ES (knV (gA,([0]:List Int)) ((([0]:List Int),(0:Int)),())) cb
theorem knows{nm:String}{S:Sig}{x:DP S.ps}{v:DP S.rs}{w:DP (ptrs S.ps)}{cb:CB}(h:Fn P nm S x fun d e=>d=v∧e=w)(hc:cb.ok P):(knC nm S (knV x (v,w)) cb).ok P:=Al3 (Al4 h) hc
theorem Aj2:Ii [] [([120],[97,97])] [([120],1)]:=by
 refine⟨List.pairwise_singleton ..,fun p k=>?_⟩
 by_cases hp:p=[120]
 ·simp[RR,BM,hp,eq_comm]
 ·simp[RR,BM,hp]
theorem AiB(c p:Int):p∉A6 gA c:=by
 unfold A6
 match c.toNat with
 |0=>exact fun h=>nomatch h
 |_+1=>exact fun h=>nomatch h
theorem AlM:Gg gA 0:=ZI ⟨by decide,by decide⟩ (fun c hc=>by
 rw[List.mem_singleton.1 hc]
 exact fun j hj=>absurd hj (Qh0 _)) (fun⟨c,_,p,hp,_⟩=>AiB c p hp) (by unfold Tj;decide) (by rfl)
theorem Anu(hO:Mr P)(hD:Oj P)(hC:Ka P)(hS:M9 P)(hP:Pl P)(hN:Lx P)(hW:Rc P)(hF:U6 P)(h1:Ei P)(h2:G8 P)(h3:JJ P)(h4:FK P)(cb:CB)(hc:cb.ok P):(kS cb).ok P:=by
 unfold kS
 refine knows (hP.mono fun _ _ h=>⟨h,rfl⟩)<|knows ?diff<|knows ((hC _ (by decide) (by decide)).mono fun _ _ h=>⟨h,rfl⟩)<|knows ?num<|knows ?made<|knows ?walk<|
  knows ((hS _ (by decide) (by decide)).mono fun _ _ h=>⟨h,rfl⟩)<|knows ((h3 _ (by decide)).mono fun _ _ h=>⟨h,rfl⟩)<|knows ((h1 _ (by decide)).mono fun _ _ h=>⟨h,rfl⟩)<|knows ((h1 _ (by decide)).mono fun _ _ h=>⟨h,rfl⟩)<|
  knows ((h2 _).mono fun _ _ h=>⟨h,rfl⟩)<|knows ((h2 _).mono fun _ _ h=>⟨h,rfl⟩)<|knows ((h4 _ (by decide)).mono fun _ _ h=>⟨h,rfl⟩)<|knows ?ord hc
 case diff=>
  refine(hD _ ⟨by decide,by decide⟩ ⟨by decide,by decide⟩).mono ?_;rintro⟨(d:List BN),(e:Int)⟩ _ ⟨h1,h2,h3⟩;dsimp only at h1 h2 h3;have h1:e=0:=h1.trans (by rfl);subst h1;exact⟨by rw[Abm (h3 rfl) Aj2],rfl⟩
 case num=>
  refine(hN _ (by decide) (by decide)).mono ?_;rintro⟨(r:List (List Int)),(ns:List Bs)⟩ _ ⟨f,h1,h2,h3,h4⟩;dsimp only at h2 h3 h4;obtain⟨h5,h6⟩:=h4 [97,97] (by decide);have h3:ns.length≤1:=h3
  have h7:f [97,97]=0:=by
   have:=(List.getElem?_eq_some_iff.1 h6).1;omega
  rw[h7]at h6
  have h8:ns=[[97,97]]:=by
   match ns,h3,h6 with
   |[s],_,h6=>rw[show s=[97,97]from Qh1 h6]
  subst h2 h8;exact⟨congrArg (fun z:Int=>(([[],[z]]:List (List Int)),([[97,97]]:List Bs))) h7,rfl⟩
 case made=>exact(hF ([],(0,1)) (by decide) (by decide) (by decide) trivial).mono fun _ _ h=>⟨h,rfl⟩
 case walk=>exact(hW _ (by decide) (by decide)).mono fun _ _ h=>⟨h.trans (Vo ..),rfl⟩
 case ord=>
  refine(hO (gA,[0]) (by unfold TQ;decide) AlM (by decide) (by decide) (by unfold inR;decide)).mono ?_
  rintro⟨(l:List Int),(e:Int)⟩ _ ⟨h1,h2,h3⟩;dsimp only at h1 h2 h3;subst h1
  have h4:∀c,c∈l↔c=0:=fun c=>by
   rw[h3];constructor
   ·rintro⟨s,hs,hr⟩;rw[List.mem_singleton.1 hs]at hr
    cases hr with
    |refl=>rfl
    |step hp _=>exact absurd hp (AiB _ _)
   ·rintro rfl;exact⟨0,by simp,.refl 0⟩
  have h5:l=[0]:=by
   match l,h2,h4 with
   |[],_,h4=>exact absurd ((h4 0).2 rfl) (by simp)
   |[a],_,h4=>rw[(h4 a).1 (by simp)]
   |a::b::l,h2,h4=>
    have e1:=(h4 a).1 (by simp);have e2:=(h4 b).1 (by simp);subst e1 e2;simp at h2
  subst h5;exact⟨rfl,rfl⟩
theorem AgV(h0:Has P Qe)(h1:Has P Qd)(h2:Has P I7)(h3:Has P Hp)(h4:Has P Hl)(h5:Has P EA)(h6:Has P Ec)(h7:Has P DY)(h8:Has P DZ)(h9:Has P JR)(h10:Has P LW)(h11:Has P M3)(h12:Has P I9)(h13:Has P I8)(h14:Has P JS)(h15:Has P CI)(h16:Has P Eh)(h17:Has P FX)(h18:Has P Dx)(h19:Has P Hb)(h20:Has P Bn)(h21:Has P Bw)(h22:Has P Ho)(h23:Has P G0)(h24:Has P M1)(h25:Has P M4)(h26:Has P Hm)(h27:Has P Gt)(h28:Has P LX)(h29:Has P Ee)(h30:Has P FC)(h31:Has P Hn)(h32:Has P Fk)(h33:Has P Fl)(h34:Has P JT)(h35:Has P Hq)(h36:Has P G4)(h37:Has P Ja)(h38:Has P G5)(h39:Has P Od)(h40:Has P M5)(h41:Has P FZ)(h42:Has P F0)(hO:Mr P)(hD:Oj P)(hC:Ka P)(hS:M9 P)(hP:Pl P)(hN:Lx P)(hW:Rc P)(hF:U6 P)(k1:Ei P)(k2:G8 P)(k3:JJ P)(k4:FK P):Mq P:=
 (Ah6 (kn:=kS) (N:=50) (l:=esS) (Anu hO hD hC hS hP hN hW hF k1 k2 k3 k4) (show SP P esS from⟨BO h0,BO h1,BO h2,BO h3,BO h4,BO h5,BO h6,BO h7,BO h8,BO h9,BO h10,BO h11,BO h12,BO h13,BO h14,BO h15,BO h16,BO h17,BO h18,BO h19,BO h20,BO h21,BO h22,BO h23,BO h24,BO h25,BO h26,BO h27,BO h28,BO h29,BO h30,BO h31,BO h32,BO h33,BO h34,BO h35,BO h36,BO h37,BO h38,BO h39,BO h40,BO h41,BO h42,trivial⟩) 30 (d:=true) (e:=()) (by kernel_rfl)).mono fun _ _ h=>h.1
end Go.VS
