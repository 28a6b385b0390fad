/- Contracts of the functions. -/
import Derived.Test.YtfkfmokccekccaaGreatDoorFwD
import Derived.IntWalk
import Derived.Test.YtfkfmokccekccaaGreatDoorKGf0
import Derived.Test.YtfkfmokccekccaaGreatDoorKGf1
import Derived.Test.YtfkfmokccekccaaGreatDoorKGf2
import Derived.Test.YtfkfmokccekccaaGreatDoorKGf3
import Derived.Lib.ItoaNum
import Derived.KernelRfl
set_option linter.unusedVariables false
set_option linter.unusedSimpArgs false
set_option linter.unusedSectionVars false
open List renaming length_cons → Qa0, getD_eq_getElem?_getD → Qa1, getElem?_eq_getElem → Qa4, length_nil → Qa5, length_append → Qa6, mem_cons_of_mem → Qa7, length → Qa8, take_of_length_le → Qa9, length_take → Qb0, mem_cons_self → Qb1, length_map → Qb2, map_append → Qb3, map_cons → Qb6, getElem?_of_mem → Qb9, drop_eq_getElem_cons → Qc0, count_append → Qc1, nodup_iff_pairwise_ne → Qc2, length_filterMap_le → Qc3, take_add_one → Qc4, drop_of_length_le → Qc7, length_set → Qc9, pairwise_iff_getElem → Qd0, take → Qd1, mem_singleton → Qd2, take_append_of_le_length → Qd4, sum_cons → Qd7, mem_append → Qd8, range → Qd9, filter_cons_of_pos → Qe0, filter_cons_of_neg → Qe1, pairwise_map → Qe3, nodup_append → Qe4, all_eq_true → Qe5, take_succ_eq_append_getElem → Qe6, drop → Qe7, map_nil → Qe8, sum_append → Qe9, count_le_length → Qf0, mem_of_mem_take → Qf2, drop_append_of_le_length → Qf4, getElem_of_mem → Qf5, flatten_append → Qf6, mem_filterMap → Qf8, isSuffixOf_iff_suffix → Qf9, any_eq_false → Qg0, getElem?_append_left → Qg1, cons_append → Qg2, length_erase_of_mem → Qg3, set_eq_of_length_le → Qg4, getElem?_take_of_lt → Qg5, getD → Qg7, append_nil → Qg8, count_cons → Qg9, length_pos_of_mem → Qh1, count_cons_of_ne → Qh2, take_append_drop → Qh3, filterMap_append → Qh4, drop_eq_nil_iff → Qh5, count_cons_self → Qh6, mem_erase_of_ne → Qh7, mem_append_left → Qh8, all_cons → Qh9
open Int renaming le_refl → Qa2, natCast_nonneg → Qa3, toNat → Qc5, tmod_eq_emod_of_nonneg → Qd6, fdiv → Qf7, zero_add → Qg6
open Nat renaming le_refl → Qb4, le_trans → Qc8, zero_le → Qd3, pow_le_pow_right → Qf3, not_lt_zero → Qh0
open Bool renaming cond_eq_ite → Qb5, and_eq_true → Qc6, eq_false_iff → Qe2, or_eq_true → Qf1
open BitVec renaming ofInt → Qb7, toNat → Qd5
open Option renaming getD_some → Qb8, isSome_some → Qi0
open Option.some renaming inj → Qi1
namespace Go.VS
theorem Ac.of{D:Type}{body:(D→Prop)→Prop}{rest:D→Prop}(h:body rest):Ac body rest:=⟨rest,h,fun _ h=>h⟩
theorem Ac.mid{D:Type}{body:(D→Prop)→Prop}{rest:D→Prop}(J:D→Prop)(h:body J)(h2:∀d,J d→rest d):Ac body rest:=⟨J,h,h2⟩
theorem Au.of{D:Type}{x:D}{body:D→(D→Prop)→Prop}(I:D→Prop)(m:D→Nat)(h0:I x)(hs:∀d,I d→body d fun d'=>I d'∧m d'<m d):Au x body:=by
 refine⟨fun n d=>I d∧m d=n,⟨_,h0,rfl⟩,?_⟩;rintro n d ⟨hI,rfl⟩
 have:(fun d'=>∃k,k<m d∧I d'∧m d'=k)=fun d'=>I d'∧m d'<m d:=by
  funext d'
  exact propext ⟨fun⟨k,h1,h2,h3⟩=>⟨h2,by omega⟩,fun⟨h1,h2⟩=>⟨_,h2,h1,rfl⟩⟩
 rw[this];exact hs d hI
theorem Fn.to{P:Pg}{nm:String}{S:Sig}{x:DP S.ps}{K K':DP S.rs→DP (ptrs S.ps)→Prop}(h:Fn P nm S x K)(hk:∀d e,K d e→K' d e):Fn P nm S x K':=h.mono hk
theorem w64{n:Int}(h1:-9223372036854775808≤n)(h2:n≤9223372036854775807):IntKind.i64.wrap n=n:=by rw[IntKind.wrap_i64];omega
theorem AnS{n:Int}(h1:0≤n)(h2:n≤18446744073709551615):IntKind.u64.wrap n=n:=by rw[IntKind.wrap_u64];omega
theorem getD_eq{α:Type}{l:List α}{i:Nat}{d:α}(h:i<l.length):l.getD i d=l[i]:=by simp[Qa1,Qa4 h]
theorem A7{α:Type}{l:List α}{i:Nat}{d:α}(h:i<l.length):l.getD i d∈l:=by rw[getD_eq h];exact List.getElem_mem h
theorem C8{α:Type}{l:List α}{i j:Nat}{x d:α}(h:i<l.length):(l.set i x).getD j d=if i=j then x else l.getD j d:=by
 simp only[Qa1,List.getElem?_set];split
 ·rename_i e;subst e;simp[h]
 ·rfl
theorem RU{α:Type}{l m:List α}{i:Nat}{d:α}(h:i<l.length):(l++m).getD i d=l.getD i d:=by
 simp[Qa1,Qg1 h]
theorem Ve{α:Type}{l:List α}{x d:α}:(l++[x]).getD l.length d=x:=by
 simp[Qa1]
theorem Nq{α:Type}{n i:Nat}{x d:α}(h:i<n):(List.replicate n x).getD i d=x:=by
 simp[Qa1,h]
theorem AaH{α:Type}(d:α){l m:List α}(h:l.length=m.length)(hi:∀i,i<l.length→l.getD i d=m.getD i d):l=m:=by
 refine List.ext_getElem h fun i h1 h2=>?_
 have:=hi i h1
 rwa [getD_eq h1,getD_eq h2]at this
section
variable{α β:Type}[DecidableEq α][DecidableEq β]
def Dx:List α→List α→Nat
 |[],b=>b.length
 |x::a,[]=>a.length+1
 |x::a,y::b=>if x=y then Dx a b else 1+min (Dx a (y::b)) (Dx (x::a) b)
termination_by a b=>a.length+b.length
theorem L0(b:List α):Dx [] b=b.length:=by cases b<;>simp[Dx]
theorem I8(a:List α):Dx a []=a.length:=by cases a<;>simp[Dx]
theorem Uz{x y:α}(h:x=y)(a b:List α):Dx (x::a) (y::b)=Dx a b:=by rw[Dx,if_pos h]
theorem UA{x y:α}(h:x≠y)(a b:List α):Dx (x::a) (y::b)=1+min (Dx a (y::b)) (Dx (x::a) b):=by rw[Dx,if_neg h]
theorem Ah2:∀(n:Nat) (a b:List α),a.length+b.length≤n→Dx a b≤a.length+b.length:=by
 intro n
 induction n with
 |zero=>
  intro a b h;have ha:a=[]:=List.length_eq_zero_iff.1 (by omega);have hb:b=[]:=List.length_eq_zero_iff.1 (by omega);rw[ha,hb];simp[L0]
 |succ n ih=>
  intro a b h
  cases a with
  |nil=>rw[L0];simp
  |cons x a=>
   cases b with
   |nil=>rw[I8];simp
   |cons y b=>
    simp only[Qa0]at h⊢
    by_cases e:x=y
    ·rw[Uz e];have:=ih a b (by omega);omega
    ·rw[UA e];have:=ih a (y::b) (by simp only[Qa0];omega)
     simp only[Qa0]at this;omega
def Cq:List α→List α→Int→Int→List (Int×Int)
 |[],_,_,_=>[]
 |x::a,[],i,j=>Cq a [] (i+1) j
 |x::a,y::b,i,j=>if x=y then(i,j)::Cq a b (i+1) (j+1)else if Dx a (y::b)+1=Dx (x::a) (y::b)then Cq a (y::b) (i+1) j else Cq (x::a) b i (j+1)
termination_by a b=>a.length+b.length
theorem FN(b:List α)(i j:Int):Cq [] b i j=[]:=by cases b<;>simp[Cq]
theorem HV:∀(a:List α) (i j:Int),Cq a [] i j=[]
 |[],_,_=>by simp[Cq]
 |x::a,i,j=>by rw[Cq,HV a]
theorem Su{x y:α}(h:x=y)(a b:List α)(i j:Int):Cq (x::a) (y::b) i j=(i,j)::Cq a b (i+1) (j+1):=by rw[Cq,if_pos h]
theorem NY{x y:α}(h:x≠y){a b:List α}(hd:Dx a (y::b)+1=Dx (x::a) (y::b))(i j:Int):Cq (x::a) (y::b) i j=Cq a (y::b) (i+1) j:=by rw[Cq,if_neg h,if_pos hd]
theorem LJ{x y:α}(h:x≠y){a b:List α}(hd:¬Dx a (y::b)+1=Dx (x::a) (y::b))(i j:Int):Cq (x::a) (y::b) i j=Cq (x::a) b i (j+1):=by rw[Cq,if_neg h,if_neg hd]
def Pm(lo:Int×Int)(m n:Int):List (Int×Int)→Prop
 |[]=>True
 |s::r=>(lo.1≤s.1∧lo.2≤s.2∧s.1<m∧s.2<n)∧Pm (s.1+1,s.2+1) m n r
theorem XJ:∀{p:List (Int×Int)} {lo lo':Int×Int} {m n:Int},Pm lo m n p→lo'.1≤lo.1→lo'.2≤lo.2→Pm lo' m n p
 |[],_,_,_,_,_,_,_=>trivial
 |s::r,lo,lo',m,n,h,h1,h2=>⟨⟨by have:=h.1.1;omega,by have:=h.1.2.1;omega,h.1.2.2.1,h.1.2.2.2⟩,h.2⟩
theorem Aab:∀(n:Nat) (a b:List α) (i j:Int),a.length+b.length≤n→Pm (i,j) (i+a.length) (j+b.length) (Cq a b i j):=by
 intro n
 induction n with
 |zero=>
  intro a b i j h;have ha:a=[]:=List.length_eq_zero_iff.1 (by omega);rw[ha,FN];trivial
 |succ n ih=>
  intro a b i j h
  cases a with
  |nil=>rw[FN];trivial
  |cons x a=>
   cases b with
   |nil=>rw[HV];trivial
   |cons y b=>
    simp only[Qa0]at h
    by_cases e:x=y
    ·rw[Su e];have:=ih a b (i+1) (j+1) (by omega);refine⟨⟨Qa2 _,Qa2 _,?_,?_⟩,?_⟩
     ·simp only[Qa0];omega
     ·simp only[Qa0];omega
     ·rw[show i+(((x::a).length:Nat):Int)=i+1+(a.length:Int)by simp only[Qa0];omega,show j+(((y::b).length:Nat):Int)=j+1+(b.length:Int)by simp only[Qa0];omega]
      exact this
    ·by_cases k:Dx a (y::b)+1=Dx (x::a) (y::b)
     ·rw[NY e k];have:=ih a (y::b) (i+1) j (by simp only[Qa0];omega)
      rw[show i+(((x::a).length:Nat):Int)=i+1+(a.length:Int)by simp only[Qa0];omega]
      exact XJ this (by dsimp only;omega) (Qa2 _)
     ·rw[LJ e k];have:=ih (x::a) b i (j+1) (by simp only[Qa0];omega)
      rw[show j+(((y::b).length:Nat):Int)=j+1+(b.length:Int)by simp only[Qa0];omega]
      exact XJ this (Qa2 _) (by dsimp only;omega)
theorem AeQ(f:α→β):∀(n:Nat) (a b:List α),a.length+b.length≤n→(∀x∈a,∀y∈b,f x=f y→x=y)→Dx (a.map f) (b.map f)=Dx a b:=by
 intro n
 induction n with
 |zero=>
  intro a b h _;have ha:a=[]:=List.length_eq_zero_iff.1 (by omega);have hb:b=[]:=List.length_eq_zero_iff.1 (by omega);rw[ha,hb];simp[L0]
 |succ n ih=>
  intro a b h hf
  cases a with
  |nil=>rw[Qe8,L0,L0,Qb2]
  |cons x a=>
   cases b with
   |nil=>rw[Qe8,I8,I8,Qb2]
   |cons y b=>
    simp only[Qa0]at h
    have i1:=ih a b (by omega) fun u hu v hv=>hf u (Qa7 _ hu) v (Qa7 _ hv)
    have i2:=ih a (y::b) (by simp only[Qa0];omega) fun u hu v hv=>hf u (Qa7 _ hu) v hv
    have i3:=ih (x::a) b (by simp only[Qa0];omega) fun u hu v hv=>hf u hu v (Qa7 _ hv)
    rw[Qb6]at i2 i3;rw[Qb6,Qb6]
    by_cases e:x=y
    ·rw[Uz e,Uz (congrArg f e),i1]
    ·have e2:f x≠f y:=fun k=>e (hf x (Qb1 ..) y (Qb1 ..) k)
     rw[UA e,UA e2,i2,i3]
theorem AfA(f:α→β):∀(n:Nat) (a b:List α) (i j:Int),a.length+b.length≤n→(∀x∈a,∀y∈b,f x=f y→x=y)→Cq (a.map f) (b.map f) i j=Cq a b i j:=by
 intro n
 induction n with
 |zero=>
  intro a b i j h _;have ha:a=[]:=List.length_eq_zero_iff.1 (by omega);rw[ha,Qe8,FN,FN]
 |succ n ih=>
  intro a b i j h hf
  cases a with
  |nil=>rw[Qe8,FN,FN]
  |cons x a=>
   cases b with
   |nil=>rw[Qe8,HV,HV]
   |cons y b=>
    simp only[Qa0]at h
    have q1:=fun u (hu:u∈a) v (hv:v∈b)=>hf u (Qa7 _ hu) v (Qa7 _ hv)
    have q2:=fun u (hu:u∈a) v (hv:v∈y::b)=>hf u (Qa7 _ hu) v hv
    have q3:=fun u (hu:u∈x::a) v (hv:v∈b)=>hf u hu v (Qa7 _ hv)
    have i1:=ih a b (i+1) (j+1) (by omega) q1;have i2:=ih a (y::b) (i+1) j (by simp only[Qa0];omega) q2
    have i3:=ih (x::a) b i (j+1) (by simp only[Qa0];omega) q3
    have d2:=AeQ f _ a (y::b) (Qb4 _) q2;have d0:=AeQ f _ (x::a) (y::b) (Qb4 _) hf;rw[Qb6]at i2 i3 d2;rw[Qb6,Qb6]at d0;rw[Qb6,Qb6]
    by_cases e:x=y
    ·rw[Su e,Su (congrArg f e),i1]
    ·have e2:f x≠f y:=fun k=>e (hf x (Qb1 ..) y (Qb1 ..) k)
     by_cases k:Dx a (y::b)+1=Dx (x::a) (y::b)
     ·rw[NY e k,NY e2 (by rw[d2,d0];exact k),i2]
     ·rw[LJ e k,LJ e2 (by rw[d2,d0];exact k),i3]
end
abbrev Cz:=Int×(Int×(Int×Int))
def Ir(old now:Int)(s:Int×Int):List Cz:=if old<s.1∨now<s.2 then[(old,(s.1 -old,(now,s.2 -now)))]else[]
def Cj(m n:Int):List (Int×Int)→Int→Int→List Cz
 |[],old,now=>Ir old now (m,n)
 |s::r,old,now=>Ir old now s++Cj m n r (s.1+1) (s.2+1)
def NL(l:List Cz):Int:=(l.map fun c=>c.2.1).sum
def OA(l:List Cz):Int:=(l.map fun c=>c.2.2.2).sum
theorem AeY{old now:Int}{s:Int×Int}(h1:old≤s.1)(h2:now≤s.2):NL (Ir old now s)=s.1 -old∧OA (Ir old now s)=s.2 -now∧∀c∈Ir old now s,(0≤c.2.1∧c.2.1≤s.1 -old)∧(0≤c.2.2.2∧c.2.2.2≤s.2 -now):=by
 unfold Ir;split
 ·refine⟨by simp[NL],by simp[OA],fun c hc=>?_⟩;rw[List.mem_singleton.1 hc];dsimp only;omega
 ·refine⟨?_,?_,fun c hc=>nomatch hc⟩
  ·show(0:Int)=_;omega
  ·show(0:Int)=_;omega
theorem Abs{m n:Int}:∀{p:List (Int×Int)} {old now:Int},Pm (old,now) m n p→old≤m→now≤n→
  NL (Cj m n p old now)=m -old -p.length∧OA (Cj m n p old now)=n -now -p.length∧∀c∈Cj m n p old now,(0≤c.2.1∧c.2.1≤m -old)∧(0≤c.2.2.2∧c.2.2.2≤n -now)
 |[],old,now,_,h1,h2=>by
  obtain⟨q1,q2,q3⟩:=AeY (s:=(m,n)) h1 h2;exact⟨by unfold Cj;rw[q1];simp,by unfold Cj;rw[q2];simp,q3⟩
 |s::r,old,now,h,h1,h2=>by
  obtain⟨⟨k1,k2,k3,k4⟩,hr⟩:=h;dsimp only at k1 k2;obtain⟨q1,q2,q3⟩:=AeY (s:=s) k1 k2;obtain⟨r1,r2,r3⟩:=Abs (p:=r) (old:=s.1+1) (now:=s.2+1) hr (by omega) (by omega);refine⟨?_,?_,fun c hc=>?_⟩
  ·unfold Cj NL;rw[Qb3,Qe9];have e1:(List.map (fun c:Cz=>c.2.1) (Ir old now s)).sum=s.1 -old:=q1;have e2:(List.map (fun c:Cz=>c.2.1) (Cj m n r (s.1+1) (s.2+1))).sum=m -(s.1+1) -r.length:=r1;rw[e1,e2];simp only[Qa0];omega
  ·unfold Cj OA;rw[Qb3,Qe9];have e1:(List.map (fun c:Cz=>c.2.2.2) (Ir old now s)).sum=s.2 -now:=q2;have e2:(List.map (fun c:Cz=>c.2.2.2) (Cj m n r (s.1+1) (s.2+1))).sum=n -(s.2+1) -r.length:=r2;rw[e1,e2];simp only[Qa0];omega
  ·unfold Cj at hc
   rcases List.mem_append.1 hc with hc|hc
   ·have:=q3 c hc;omega
   ·have:=r3 c hc;omega
end Go.VS
namespace Go.VS
variable{P:Pg}
@[irreducible] def G1(a n:Int):Int:=IntKind.i64.wrap (Int.tmod (IntKind.u64.wrap a) (IntKind.u64.wrap n))
theorem YH(n:Int):0≤IntKind.u64.wrap n∧IntKind.u64.wrap n≤18446744073709551615:=by rw[IntKind.wrap_u64];omega
theorem EU{a n:Int}(h1:1≤n)(h2:n≤9223372036854775807):0≤G1 a n∧G1 a n<n:=by
 unfold G1;rw[AnS (n:=n) (by omega) (by omega)];have h:=YH a;rw[Qd6 h.1];have e1:=Int.emod_nonneg (IntKind.u64.wrap a) (show n≠0 by omega);have e2:=Int.emod_lt_of_pos (IntKind.u64.wrap a) (show 0<n by omega);rw[w64 (by omega) (by omega)];exact⟨e1,e2⟩
def LV(P:Pg):Prop:=∀x:Int×Int,1≤x.2→x.2≤9223372036854775807→Fn P zS1 Cb x fun d _=>d=G1 x.1 x.2
theorem AmM(h:Has P NZ):LV P:=by
 intro x h1 h2;refine Adt h ?_;unfold XF;exact⟨by rw[AnS (by omega) (by omega)];omega,by unfold G1;rfl⟩
theorem LV.at(h:LV P){a n:Int}(h1:1≤n)(h2:n≤9223372036854775807){K:Int→Unit→Prop}(hk:K (G1 a n) ()):Fn P zS1 Cb (a,n) K:=(h (a,n) h1 h2).to fun(d:Int) e hd=>by
 have hd:d=G1 a n:=hd;subst hd;exact hk
abbrev Bs:=List UInt8
def spN(acc:Bs):Bs→List Bs
 |[]=>[acc]
 |b::r=>if b=47 then acc::spN [] r else spN (acc++[b]) r
def Gu(n:Bs):Bool:=!(n==[]||n==[46]||n==[46,46])
def CO(s:Bs):Int:=if s.length>200∨(0:UInt8)∈s then 210 else if(spN [] s).all Gu then 0 else 210
def Gl(P:Pg):Prop:=∀s:Bs,s.length≤140737488351232→Fn P AlB DU s fun(d:Int) _=>d=CO s
theorem Aci:∀(l acc r:Bs),(∀b∈l,b≠47)→spN acc (l++47::r)=(acc++l)::spN [] r
 |[],acc,r,h=>by rw[List.nil_append,spN,if_pos rfl];simp
 |b::l,acc,r,h=>by
  rw[Qg2,spN,if_neg (h b (Qb1 ..)),Aci l _ r fun c hc=>h c (Qa7 _ hc)];simp
theorem Ai3:∀(l acc:Bs),(∀b∈l,b≠47)→spN acc l=[acc++l]
 |[],acc,h=>by simp[spN]
 |b::l,acc,h=>by
  rw[spN,if_neg (h b (Qb1 ..)),Ai3 l _ fun c hc=>h c (Qa7 _ hc)];simp
theorem AlH:∀s:Bs,(∀b∈s,b≠47)∨∃l r,s=l++47::r∧∀b∈l,b≠47
 |[]=>.inl (by simp)
 |b::s=>by
  by_cases hb:b=47
  ·subst hb;exact .inr ⟨[],s,rfl,by simp⟩
  ·rcases AlH s with h|⟨l,r,rfl,h⟩
   ·refine .inl fun c hc=>?_
    rcases List.mem_cons.1 hc with rfl|hc
    ·exact hb
    ·exact h c hc
   ·refine .inr ⟨b::l,r,rfl,fun c hc=>?_⟩
    rcases List.mem_cons.1 hc with rfl|hc
    ·exact hb
    ·exact h c hc
abbrev Ao:=Bs×Bs
def Bq:List Ao→Bs→Option Bs
 |[],_=>none
 |f::r,p=>match Bq r p with
  |some v=>some v
  |none=>if p=f.1 then some f.2 else none
def Afa(l:List Ao)(p:Bs):Bool:=(Qd9 p.length).any fun i=>(Bq l (p.take i)).isSome&&(p.getD i 0==47)
def VB(l:List Ao):Bool:=(Qd9 l.length).all fun i=>(i==0||Op.bytesLess (l.getD (i -1) ([],[])).1 (l.getD i ([],[])).1)&&!Afa l (l.getD i ([],[])).1
def Pl(P:Pg):Prop:=∀l:List Ao,l.length≤1000000→(∀f∈l,f.1.length≤140737488351232∧f.2.length≤140737488351232)→Fn P "mergelens/tree.ordered" Gk l fun(d:Bool) _=>d=VB l
theorem Alf(acc r:Bs):spN acc (47::r)=acc::spN [] r:=by rw[spN,if_pos rfl]
theorem Alg{b:UInt8}(h:b≠47)(acc r:Bs):spN acc (b::r)=spN (acc++[b]) r:=by rw[spN,if_neg h]
theorem XQ{s:Bs}{i:Nat}(h:i<s.length):s.drop i=s.getD i 0::s.drop (i+1):=by
 rw[Qc0 h,Qa1,Qa4 h,Qb8]
theorem Sn{s:Bs}{i:Nat}(h:i<s.length):s.take (i+1)=s.take i++[s.getD i 0]:=by
 rw[Qc4,Qa4 h,Qa1,Qa4 h];rfl
theorem Akg{s:Bs}{i:Nat}(h:i<s.length):Qe7 i (Qd1 (i+1) s)=[s.getD i 0]:=by
 rw[Sn h,Qf4 (by rw[Qb0];omega),List.drop_eq_nil_of_le (by rw[Qb0];omega)]
 rfl
theorem byI(b c:UInt8):(((b.toNat:Nat):Int)==((c.toNat:Nat):Int))=(b==c):=by
 by_cases h:b=c
 ·subst h;simp
 ·rw[show(b==c)=false from beq_eq_false_iff_ne.2 h,beq_eq_false_iff_ne];intro e;exact h (UInt8.toNat_inj.1 (by omega))
theorem by0(b:UInt8):(((b.toNat:Nat):Int)==(0:Int))=(b==0):=byI b 0
theorem Anh(b:UInt8):(((b.toNat:Nat):Int)==(47:Int))=(b==47):=byI b 47
theorem Aaq(n:Bs):(cond (cond (n==([]:Bs)) true (n==([46]:Bs))) true (n==([46,46]:Bs)))=!Gu n:=by
 unfold Gu
 cases n==([]:Bs)<;>cases n==([46]:Bs)<;>cases n==([46,46]:Bs)<;>rfl
theorem AbK{s:Bs}(h:(spN [] s).all Gu=false):CO s=210:=by
 unfold CO;split
 ·rfl
 ·rw[if_neg (by rw[h];simp)]
def Ft(P:Pg):Prop:=∀s:Bs,s.length≤140737488351232→Fn P Ahk C3 s fun(d:Int) _=>d=CO s
theorem Xs(h:Has P EB):Ft P:=by
 intro s hs;refine Pv h ?_;unfold JY;refine⟨fun hc=>?_,fun hc=>?_⟩
 ·rw[Qb5]at hc;split at hc
  ·rename_i h1;have h1:=of_decide_eq_true h1;obtain rfl:s=[]:=List.length_eq_zero_iff.1 (by omega);decide
  ·have h2:=of_decide_eq_true hc;unfold CO;rw[if_pos (.inl (by omega))]
 have hl:1≤s.length∧s.length≤200:=by
  rw[Qb5]at hc;split at hc
  ·cases hc
  ·rename_i h1;have h2:=of_decide_eq_false hc
   have h1:¬((s.length:Int)<1):=fun h=>h1 (decide_eq_true h)
   omega
 clear hc
 refine Ac.mid (fun _=>CO s=0) ?_ fun _ h=>h.symm
 refine Au.of (fun q=>(0≤q.2.2∧q.2.2≤s.length+1∧(q.2.1.length:Int)≤q.2.2)∧(∀b∈s.take q.2.2.toNat,b≠0)∧(spN [] s).all Gu=if q.2.2≤s.length then(spN q.2.1 (s.drop q.2.2.toNat)).all Gu else true) (fun q=>(s.length+1 -q.2.2).toNat) ⟨⟨Qa2 _,by dsimp only;omega,by simp⟩,by simp,by simp⟩ ?_
 rintro⟨q1,nm,i⟩ ⟨⟨i0,i1,hnl⟩,hz,hal⟩;dsimp only at i0 i1 hnl hz hal⊢
 have e1:(i+1).toNat=i.toNat+1:=by omega
 refine⟨fun hi=>?_,fun hi=>?_⟩
 ·have hi:=of_decide_eq_true hi;rw[if_pos hi]at hal;refine Ac.mid (fun q=>(q.2.length:Int)≤i+1∧(∀b∈s.take (i.toNat+1),b≠0)∧(spN [] s).all Gu=if i+1≤s.length then(spN q.2 (s.drop (i.toNat+1))).all Gu else true) ?_ ?_
  ·by_cases hlt:i<s.length
   ·have hn:i.toNat<s.length:=by omega
    rw[show decide (i<((Qa8 s:Nat):Int))=true from decide_eq_true hlt,w64 (n:=i+1) (by omega) (by omega),e1];simp only[cond_true];rw[by0,show((((UInt8.toNat (Qg7 s i.toNat 0):Nat):Int) !=47))=!(Qg7 s i.toNat 0==47)from by rw[bne,Anh]];rw[XQ hn]at hal;rw[if_pos (by omega),Sn hn];generalize hb:s.getD i.toNat 0=b at hal⊢
    have hz2:b≠0→∀c∈s.take i.toNat++[b],c≠0:=fun hb0 c hc=>by
     rcases List.mem_append.1 hc with hc|hc
     ·exact hz c hc
     ·rw[List.mem_singleton.1 hc];exact hb0
    refine⟨fun _=>⟨i0,hlt⟩,fun h0=>?_,fun h0=>⟨fun _=>⟨i0,hlt⟩,fun h4=>?_,fun h4=>?_⟩⟩
    ·have h0:b=0:=eq_of_beq h0;unfold CO;rw[if_pos (.inr (by rw[←h0,←hb];exact A7 hn))]
    ·have h0:b≠0:=beq_eq_false_iff_ne.1 h0
     have h4:b≠47:=by simpa using h4
     rw[show Qe7 i.toNat (s.take i.toNat++[b])=[b]from by rw[←hb,←Sn hn,Akg hn]];refine⟨⟨i0,by omega,by omega⟩,by simp only[Qa0,Qa5];omega,?_,hz2 h0,?_⟩
     ·rw[Qa6];simp only[Qa0,Qa5];omega
     ·rw[hal,Alg h4]
    ·have h0:b≠0:=beq_eq_false_iff_ne.1 h0
     have h4:b=47:=by simpa using h4
     subst h4;rw[Alf,Qh9]at hal;rw[Aaq];refine⟨fun hg=>?_,fun hg=>⟨by simp;omega,hz2 h0,?_⟩⟩
     ·have hg:Gu nm=false:=by simpa using hg
      exact(AbK (by rw[hal,hg];rfl)).symm
     ·have hg:Gu nm=true:=by simpa using hg
      rw[hal,hg,Bool.true_and,if_pos (by omega)]
   ·have hn:i.toNat=s.length:=by omega
    rw[show decide (i<((Qa8 s:Nat):Int))=false from decide_eq_false hlt];simp only[cond_false];rw[hn,List.drop_length,spN,Qh9,List.all_nil,Bool.and_true]at hal;rw[Aaq];refine⟨fun h=>(nomatch h),fun h=>(nomatch h),fun _=>⟨fun h=>(nomatch h),fun h=>(nomatch h),fun _=>⟨fun hg=>?_,fun hg=>⟨by simp;omega,?_,?_⟩⟩⟩⟩
    ·have hg:Gu nm=false:=by simpa using hg
     exact(AbK (by rw[hal,hg])).symm
    ·intro c hc;rw[Qa9 (by omega)]at hc;refine hz c ?_;rw[Qa9 (by omega)];exact hc
    ·have hg:Gu nm=true:=by simpa using hg
     rw[if_neg (by omega),hal,hg]
  ·rintro⟨q1',nm'⟩ ⟨h1,h2,h3⟩;dsimp only at h1 h2 h3⊢;rw[w64 (by omega) (by omega),e1];exact⟨⟨⟨by omega,by omega,h1⟩,h2,h3⟩,by omega⟩
 ·have hi:=of_decide_eq_false hi;rw[if_neg hi]at hal;rw[Qa9 (by omega)]at hz;unfold CO;rw[if_neg (by rintro(h1|h1);omega;exact hz 0 h1 rfl),if_pos hal]
theorem Gl.at(h:Gl P){s:Bs}(hs:s.length≤140737488351232){K:Int→Unit→Prop}(hk:K (CO s) ()):Fn P AlB DU s K:=
 (h s hs).to fun(d:Int) _ hd=>by
  have hd:d=CO s:=hd;subst hd;exact hk
theorem Ft.at(h:Ft P){s:Bs}(hs:s.length≤140737488351232){K:Int→Unit→Prop}(hk:K (CO s) ()):Fn P Ahk C3 s K:=
 (h s hs).to fun(d:Int) _ hd=>by
  have hd:d=CO s:=hd;subst hd;exact hk
@[irreducible] def atX(raw:List Int)(k:Int):Int:=
 if((Qa8 raw:Nat):Int)>0 then(IntKind.u64.wrap ((Qd5 (Qb7 IntKind.u64.bits (IntKind.u64.wrap ((IntKind.u64.wrap (IntKind.i64.wrap (k+(1:Int))))*(11400714819323198485:Int)))^^^Qb7 IntKind.u64.bits (IntKind.u64.wrap (Qg7 raw (Qc5 (Int.tmod k ((Qa8 raw:Nat):Int))) (0:Int)))):Nat):Int))
 else(IntKind.u64.wrap ((IntKind.u64.wrap (IntKind.i64.wrap (k+(1:Int))))*(11400714819323198485:Int)))
@[irreducible] def atY(d2:Int):Int:=IntKind.u64.wrap ((Qd5 (Qb7 IntKind.u64.bits (IntKind.u64.wrap ((IntKind.u64.wrap ((Qd5 (Qb7 IntKind.u64.bits d2^^^Qb7 IntKind.u64.bits (Qf7 d2 (2^(min (Qc5 (31:Int)) IntKind.u64.bits)))):Nat):Int))*(13787848793156543929:Int)))^^^Qb7 IntKind.u64.bits (Qf7 (IntKind.u64.wrap ((IntKind.u64.wrap ((Qd5 (Qb7 IntKind.u64.bits d2^^^Qb7 IntKind.u64.bits (Qf7 d2 (2^(min (Qc5 (31:Int)) IntKind.u64.bits)))):Nat):Int))*(13787848793156543929:Int))) (2^(min (Qc5 (29:Int)) IntKind.u64.bits)))):Nat):Int)
@[irreducible] def atF(raw:List Int)(k:Int):Int:=IntKind.i64.wrap (Qf7 (atY (atX raw k)) (2^(min (Qc5 (1:Int)) IntKind.u64.bits)))
theorem AfG(raw:List Int)(k:Int):0≤atF raw k∧atF raw k≤9223372036854775807:=by
 unfold atF
 have e:((2:Int)^(min (Qc5 (1:Int)) IntKind.u64.bits))=2:=by decide
 rw[e]
 have h:=YH ((Qd5 (Qb7 IntKind.u64.bits (IntKind.u64.wrap ((IntKind.u64.wrap ((Qd5 (Qb7 IntKind.u64.bits (atX raw k)^^^Qb7 IntKind.u64.bits (Qf7 (atX raw k) (2^(min (Qc5 (31:Int)) IntKind.u64.bits)))):Nat):Int))*(13787848793156543929:Int)))^^^Qb7 IntKind.u64.bits (Qf7 (IntKind.u64.wrap ((IntKind.u64.wrap ((Qd5 (Qb7 IntKind.u64.bits (atX raw k)^^^Qb7 IntKind.u64.bits (Qf7 (atX raw k) (2^(min (Qc5 (31:Int)) IntKind.u64.bits)))):Nat):Int))*(13787848793156543929:Int))) (2^(min (Qc5 (29:Int)) IntKind.u64.bits)))):Nat):Int)
 have e2:0≤atY (atX raw k)∧atY (atX raw k)≤18446744073709551615:=by unfold atY;exact h
 clear h;have h:=e2;clear e2;generalize atY (atX raw k)=u at h⊢;rw[Int.fdiv_eq_ediv_of_nonneg u (by omega)];rw[w64 (by omega) (by omega)];omega
def OB(P:Pg):Prop:=∀x:List Int×Int,0≤x.2→Fn P zS0 Bn x fun d _=>d=atF x.1 x.2
theorem AnJ(h:Has P P5):OB P:=by
 intro x h1;refine Af7 h ?_;unfold Aaj
 refine Ac.mid (fun d=>d=atX x.1 x.2) ⟨fun hc=>?_,fun hc=>?_⟩ fun d hd=>⟨by decide,by decide,by decide,?_⟩
 ·have hc:((Qa8 x.1:Nat):Int)>0:=of_decide_eq_true hc;have e1:(Int.tmod x.2 ((Qa8 x.1:Nat):Int))=x.2%(Qa8 x.1:Nat):=Qd6 h1;have e2:=Int.emod_nonneg x.2 (show((Qa8 x.1:Nat):Int)≠0 by omega);have e3:=Int.emod_lt_of_pos x.2 hc;refine⟨by omega,by omega,by omega,?_⟩;unfold atX;rw[if_pos hc]
 ·have hc:¬((Qa8 x.1:Nat):Int)>0:=of_decide_eq_false hc;unfold atX;rw[if_neg hc]
 ·subst hd;unfold atF atY;rfl
theorem OB.at(h:OB P){raw:List Int}{k:Int}(h1:0≤k){K:Int→Unit→Prop}(hk:K (atF raw k) ()):Fn P zS0 Bn (raw,k) K:=(h (raw,k) h1).to fun(d:Int) e hd=>by
 have hd:d=atF raw k:=hd;subst hd;exact hk
def lnN(acc:Bs):Bs→List Bs
 |[]=>[]
 |b::r=>if b=10∨r=[]then(acc++[b])::lnN [] r else lnN (acc++[b]) r
def lnF(s:Bs):List Bs:=lnN [] s
def IV(P:Pg):Prop:=∀s:Bs,s.length≤100000000→Fn P Aac CQ s fun(d:List Bs) _=>d=lnF s
theorem AnL{s:Bs}{i:Nat}(h:i<s.length):Qd1 (i+1) s=Qd1 i s++[s.getD i 0]:=by
 rw[Qc4,Qa4 h,Qa1,Qa4 h];rfl
theorem Ael(h:Has P Hd):IV P:=by
 intro s hs;refine UN h ?_;unfold OH
 refine Ac.mid (fun q=>q=lnF s) ?_ fun q hq=>hq
 refine Au.of (fun q=>0≤q.2.1∧q.2.1≤q.2.2∧q.2.2≤s.length∧(q.1.length:Int)≤q.2.2∧q.1++lnN (Qe7 q.2.1.toNat (Qd1 q.2.2.toNat s)) (s.drop q.2.2.toNat)=lnF s) (fun q=>(s.length -q.2.2).toNat) ⟨by decide,by decide,by dsimp only;omega,by simp,by simp[lnF]⟩ ?_
 rintro⟨o,f,i⟩ ⟨f0,f1,i1,ho,e⟩;dsimp only at f0 f1 i1 ho e⊢;refine⟨fun hc=>?_,fun hc=>?_⟩
 ·have hc:=of_decide_eq_true hc;rw[w64 (n:=i+1) (by omega) (by omega)]
  have hi:i.toNat<s.length:=by omega
  have hd:s.drop i.toNat=s.getD i.toNat 0::s.drop (i.toNat+1):=by
   rw[Qc0 hi,Qa1,Qa4 hi,Qb8]
  have e1:(i+1).toNat=i.toNat+1:=by omega
  have hdr:Qe7 f.toNat (Qd1 (i.toNat+1) s)=Qe7 f.toNat (Qd1 i.toNat s)++[s.getD i.toNat 0]:=by
   rw[AnL hi,Qf4 (by rw[Qb0];omega)]
  rw[hd,lnN]at e
  have hnil:s.drop (i.toNat+1)=[]↔i+1=s.length:=by
   rw[Qh5];omega
  refine Ac.mid (fun q=>0≤q.2∧q.2≤i+1∧(q.1.length:Int)≤i+1∧q.1++lnN (Qe7 q.2.toNat (Qd1 (i.toNat+1) s)) (s.drop (i.toNat+1))=lnF s) ⟨⟨by omega,hc⟩,Ac.of ⟨fun hb=>?_,fun hb=>?_⟩⟩ ?_
  ·rw[if_pos (by
    simp at hb
    rcases hb with hb|hb
    ·refine Or.inl ?_;rw[Qa1];exact UInt8.toNat_inj.1 (by rw[show(10:UInt8).toNat=10 from rfl];omega)
    ·exact Or.inr (hnil.2 hb))]at e
   refine⟨⟨f0,by omega,by omega⟩,by simp only[Qa0,Qa5];omega,by dsimp only;omega,by dsimp only;omega,?_,?_⟩
   ·simp only[Qa6,Qa0,Qa5];omega
   ·dsimp only;rw[e1,hdr,show Qe7 (i.toNat+1) (Qd1 (i.toNat+1) s)=[]by rw[Qh5,Qb0];omega,←e]
    simp only[List.append_assoc,List.singleton_append]
  ·rw[if_neg (by
    simp at hb;rintro(hh|hh)
    ·rw[Qa1]at hh;exact hb.1 (by rw[hh];rfl)
    ·exact hb.2 (hnil.1 hh))]at e
   refine⟨f0,by dsimp only;omega,by dsimp only;omega,?_⟩
   dsimp only;rw[hdr];exact e
  ·rintro⟨o',f'⟩ ⟨k1,k2,k3,k4⟩;dsimp only at k1 k2 k3 k4⊢;exact⟨⟨k1,k2,by omega,k3,by rw[e1];exact k4⟩,by omega⟩
 ·have hc:=of_decide_eq_false hc;rw[show i.toNat=s.length by omega,List.drop_length,lnN,Qg8]at e;exact e
def saN(acc:Bs):Bs→List Bs
 |[]=>[acc]
 |b::r=>if b=10 then(acc++[b])::saN [] r else saN (acc++[b]) r
def saF(s:Bs):List Bs:=saN [] s
def Qy(s:Bs):Bool:=([10]:Bs).isSuffixOf s
def IQ(P:Pg):Prop:=∀s:Bs,Fn P "strings.Count" Ek (s,[10]) fun(d:Int) _=>d=((s.count 10:Nat):Int)
def HM(P:Pg):Prop:=∀s:Bs,s.length≤140737488351232→Fn P "strings.HasSuffix" C7 (s,[10]) fun(d:Bool) _=>d=Qy s
def El(P:Pg):Prop:=∀s:Bs,s.length≤4000000000→Fn P "strings.SplitAfter" DF (s,[10]) fun(d:List Bs) _=>d=saF s
theorem IQ.at(h:IQ P){s:Bs}{K:Int→Unit→Prop}(hk:K ((s.count 10:Nat):Int) ()):Fn P "strings.Count" Ek (s,[10]) K:=
 (h s).to fun(d:Int) _ hd=>by
  have hd:d=((s.count 10:Nat):Int):=hd;subst hd;exact hk
theorem HM.at(h:HM P){s:Bs}(hs:s.length≤140737488351232){K:Bool→Unit→Prop}(hk:K (Qy s) ()):Fn P "strings.HasSuffix" C7 (s,[10]) K:=
 (h s hs).to fun(d:Bool) _ hd=>by
  have hd:d=Qy s:=hd;subst hd;exact hk
theorem El.at(h:El P){s:Bs}(hs:s.length≤4000000000){K:List Bs→Unit→Prop}(hk:K (saF s) ()):Fn P "strings.SplitAfter" DF (s,[10]) K:=
 (h s hs).to fun(d:List Bs) _ hd=>by
  have hd:d=saF s:=hd;subst hd;exact hk
theorem ZS:∀(s acc:Bs),saN acc s≠[]
 |[],_=>by simp[saN]
 |b::r,acc=>by
  rw[saN];split
  ·simp
  ·exact ZS r _
theorem Age{α:Type}(a:α)(l:List α)(d:α)(h:l≠[]):(a::l).getD ((a::l).length -1) d=l.getD (l.length -1) d:=by
 cases l with
 |nil=>exact absurd rfl h
 |cons b l=>rfl
theorem Uy{α:Type}(a:α)(l:List α)(h:l≠[]):(a::l).dropLast=a::l.dropLast:=by
 cases l with
 |nil=>exact absurd rfl h
 |cons b l=>rfl
theorem AdH:∀(s acc:Bs),(s=[]→acc=[])→lnN acc s=if(saN acc s).getD ((saN acc s).length -1) []=[]then(saN acc s).dropLast else saN acc s
 |[],acc,h=>by
  rw[h rfl];rfl
 |b::r,acc,h=>by
  rw[lnN,saN]
  by_cases hb:b=10
  ·have ih:=AdH r [] fun _=>rfl
   rw[if_pos (.inl hb),if_pos hb,Age _ _ _ (ZS r []),Uy _ _ (ZS r []),ih]
   split<;>rfl
  ·rw[if_neg hb]
   by_cases hr:r=[]
   ·subst hr;rw[if_pos (.inr rfl)];simp[saN,lnN]
   ·rw[if_neg (by rintro(h1|h1);exact hb h1;exact hr h1)]
    exact AdH r (acc++[b]) fun h1=>absurd h1 hr
theorem Aiw(s:Bs):lnF s=if(saF s).getD ((saF s).length -1) []=[]then(saF s).dropLast else saF s:=AdH s [] fun _=>rfl
theorem RO(l:Bs)(b:UInt8):Qy (l++[b])=(b==10):=by
 unfold Qy
 by_cases h:b=10
 ·subst h;rw[show((10:UInt8)==10)=true from rfl,Qf9];exact List.suffix_append ..
 ·rw[show(b==10)=false by simpa using h,Qe2];intro hs;rw[Qf9]at hs;obtain⟨t,ht⟩:=hs;have:=congrArg List.getLast? ht;simp at this;exact h this.symm
theorem Zw:∀(s acc:Bs),(lnN acc s).length=s.count 10+(if s≠[]∧Qy s=false then 1 else 0)
 |[],acc=>by rw[if_neg (by simp)];rfl
 |b::r,acc=>by
  rw[lnN]
  rcases List.eq_nil_or_concat r with rfl|⟨l,c,rfl⟩
  ·rw[if_pos (.inr rfl),show[b]=([]:Bs)++[b]from rfl,RO]
   by_cases hb:b=10
   ·subst hb;rfl
   ·rw[show(b==10)=false by simpa using hb];simp[lnN,hb]
  ·have e1:Qy (b::l.concat c)=Qy (l.concat c):=by
    rw[List.concat_eq_append,←Qg2,RO,RO]
   have hne:l.concat c≠[]:=by simp
   by_cases hb:b=10
   ·subst hb;rw[if_pos (.inl rfl),Qa0,Zw (l.concat c) [],e1,Qh6];simp only[ne_eq,hne,not_false_eq_true,true_and,List.cons_ne_nil];omega
   ·rw[if_neg (by rintro(h1|h1);exact hb h1;exact hne h1),Zw (l.concat c) _,e1,Qh2 (by simpa using hb)]
    simp only[ne_eq,hne,not_false_eq_true,true_and,List.cons_ne_nil]
theorem Ae6(s:Bs):(lnF s).length=s.count 10+(if s≠[]∧Qy s=false then 1 else 0):=Zw s []
def Ry(P:Pg):Prop:=∀s:Bs,s.length≤140737488351232→Fn P AjA Gj s fun(d:Bool) _=>d=Qy s
theorem Ag3(h:Has P Ij)(hS:HM P):Ry P:=by
 intro s hs;refine WH h ?_;unfold Ql;exact hS.at hs rfl
def B6(s:Bs):Int:=if s.length>1048576∨(lnF s).length>4096 then 1 else 0
def N1(P:Pg):Prop:=∀s:Bs,s.length≤140737488351232→Fn P AeF Ea s fun(d:Int) _=>d=B6 s
theorem Ag2(h:Has P Ii)(hC:IQ P)(hE:Ry P):N1 P:=by
 intro s hs;refine WG h ?_;unfold Qk;refine hC.at ?_;have hcl:=Qf0 (a:=(10:UInt8)) (l:=s);have hl:=Ae6 s;refine Ac.mid (fun d=>(!(s==([]:Bs)))=true→d=Qy s) ⟨fun _=>(hE s hs).to fun(d:Bool) _ hd _=>hd,(by intro hc hc2;rw[hc]at hc2;cases hc2),trivial⟩ ?_
 intro d hd
 have hfin:∀n:Int,n=((lnF s).length:Nat)→((cond (decide (((Qa8 s:Nat):Int)>(1048576:Int))) true (decide (n>(4096:Int))))=true→(1:Int)=B6 s)∧((cond (decide (((Qa8 s:Nat):Int)>(1048576:Int))) true (decide (n>(4096:Int))))=false→(0:Int)=B6 s):=by
  rintro n rfl;unfold B6
  by_cases h1:s.length>1048576
  ·have e1:decide (((Qa8 s:Nat):Int)>(1048576:Int))=true:=decide_eq_true (by omega);rw[e1,if_pos (.inl h1)];exact⟨fun _=>rfl,fun h=>nomatch h⟩
  ·have e1:decide (((Qa8 s:Nat):Int)>(1048576:Int))=false:=decide_eq_false (by omega);rw[e1,cond_false]
   by_cases h2:(lnF s).length>4096
   ·rw[if_pos (.inr h2),show decide ((((lnF s).length:Nat):Int)>4096)=true from decide_eq_true (by omega)];exact⟨fun _=>rfl,fun h=>nomatch h⟩
   ·rw[if_neg (by omega),show decide ((((lnF s).length:Nat):Int)>4096)=false from decide_eq_false (by omega)];exact⟨(fun h=>nomatch h),fun _=>rfl⟩
 refine Ac.mid (fun n=>n=((lnF s).length:Nat)) ⟨fun hc=>?_,fun hc=>?_⟩ hfin
 ·by_cases hn:s=[]
  ·subst hn;cases hc
  ·have hb:(!(s==([]:Bs)))=true:=by simpa using hn
   rw[hb,cond_true]at hc
   have he:Qy s=false:=by rw[←hd hb];simpa using hc
   rw[w64 (by omega) (by omega),hl,if_pos ⟨hn,he⟩];omega
 ·by_cases hn:s=[]
  ·subst hn;rfl
  ·have hb:(!(s==([]:Bs)))=true:=by simpa using hn
   rw[hb,cond_true]at hc
   have he:Qy s=true:=by rw[←hd hb];simpa using hc
   rw[hl,if_neg (by rw[he];simp)]
   omega
def Ln(P:Pg):Prop:=∀s:Bs,s.length≤140737488351232→Fn P AcE DG s fun(d:List Bs×Int) _=>d=if B6 s=0 then(lnF s,0)else([],1)
theorem Ag4(h:Has P Ik)(hC:N1 P)(hS:El P):Ln P:=by
 intro s hs;refine WI h ?_;unfold Qm;refine(hC s hs).to ?_;rintro(d:Int) _ hd;have hd:d=B6 s:=hd;subst hd;refine⟨fun hc=>?_,fun hc=>?_⟩
 ·have hc:B6 s≠0:=by simpa using hc
  rw[if_neg hc];unfold B6 at hc⊢;split
  ·rfl
  ·rename_i h1;rw[if_neg h1]at hc;exact absurd rfl hc
 ·have hc:B6 s=0:=by simpa using hc
  rw[if_pos hc]
  have hl:s.length≤1048576:=by
   unfold B6 at hc;split at hc
   ·cases hc
   ·omega
  refine hS.at (by omega) ?_;have hne:=ZS s [];have hpos:0<(saF s).length:=List.length_pos_iff.2 hne
  have hlen:(saF s).length≤s.length+1:=by
   have:∀(s acc:Bs),(saN acc s).length≤s.length+1:=by
    intro s
    induction s with
    |nil=>intro acc;simp[saN]
    |cons b r ih=>
     intro acc;rw[saN];split
     ·have:=ih [];simp only[Qa0];omega
     ·have:=ih (acc++[b]);simp only[Qa0];omega
   exact this s []
  rw[w64 (n:=((saF s).length:Int) -1) (by omega) (by omega)]
  have e1:(((saF s).length:Int) -1).toNat=(saF s).length -1:=by omega
  rw[e1];refine⟨⟨by omega,by omega⟩,by omega,Ac.of ⟨fun hb=>⟨⟨by omega,by omega⟩,by omega,?_⟩,fun hb=>?_⟩⟩
  ·have hb:(saF s).getD ((saF s).length -1) []=[]:=by simpa using hb
   rw[Aiw,if_pos hb,List.drop_zero,List.dropLast_eq_take]
  ·have hb:¬(saF s).getD ((saF s).length -1) []=[]:=by simpa using hb
   rw[Aiw,if_neg hb]
theorem Ln.at(h:Ln P){s:Bs}(hs:s.length≤140737488351232){K:List Bs×Int→Unit→Prop}(hk:K (if B6 s=0 then(lnF s,0)else([],1)) ()):Fn P AcE DG s K:=
 (h s hs).to fun(d:List Bs×Int) _ hd=>by
  have hd:d=if B6 s=0 then(lnF s,0)else([],1):=hd
  subst hd;exact hk
theorem FV:∀x:Bs,Op.bytesLess x x=false
 |[]=>rfl
 |a::x=>by
  unfold Op.bytesLess;rw[FV x];simp
theorem HN:∀{x y z:Bs},Op.bytesLess x y=true→Op.bytesLess y z=true→Op.bytesLess x z=true
 |x,y,[],_,h2=>by unfold Op.bytesLess at h2;cases y<;>cases h2
 |x,[],c::z,h1,_=>by unfold Op.bytesLess at h1;cases x<;>cases h1
 |[],b::y,c::z,_,_=>rfl
 |a::x,b::y,c::z,h1,h2=>by
  unfold Op.bytesLess at h1 h2⊢;simp only[Qf1,Qc6,decide_eq_true_eq,beq_iff_eq]at h1 h2⊢
  rcases h1 with h1|⟨rfl,h1⟩
  ·rcases h2 with h2|⟨rfl,h2⟩
   ·exact .inl (UInt8.lt_trans h1 h2)
   ·exact .inl h1
  ·rcases h2 with h2|⟨rfl,h2⟩
   ·exact .inl h2
   ·exact .inr ⟨rfl,HN h1 h2⟩
theorem Qo:∀{x y:Bs},x≠y→Op.bytesLess x y=true∨Op.bytesLess y x=true
 |[],[],h=>absurd rfl h
 |[],b::y,_=>.inl rfl
 |a::x,[],_=>.inr rfl
 |a::x,b::y,h=>by
  unfold Op.bytesLess;simp only[Qf1,Qc6,decide_eq_true_eq,beq_iff_eq]
  by_cases hab:a=b
  ·subst hab
   rcases Qo (x:=x) (y:=y) (fun e=>h (by rw[e]))with h1|h1
   ·exact .inl (.inr ⟨rfl,h1⟩)
   ·exact .inr (.inr ⟨rfl,h1⟩)
  ·rcases UInt8.lt_or_lt_of_ne hab with h1|h1
   ·exact .inl (.inl h1)
   ·exact .inr (.inl h1)
theorem XL:∀(x:Bs) (b:UInt8) (r:Bs),Op.bytesLess x (x++b::r)=true
 |[],b,r=>rfl
 |a::x,b,r=>by
  rw[Qg2];unfold Op.bytesLess;rw[XL x b r];simp
theorem Akc{p:Bs}{j:Nat}(h:j<p.length):Op.bytesLess (p.take j) p=true:=by
 have:=XL (p.take j) (p.getD j 0) (p.drop (j+1))
 rwa [←XQ h,Qh3]at this
def GV(a b:Bs):Bool:=cond (cond (decide (((Qa8 b:Nat):Int)>((Qa8 a:Nat):Int))) ((Qd1 (Qc5 ((Qa8 a:Nat):Int)) b)==a) false) (((UInt8.toNat (Qg7 b (Qc5 ((Qa8 a:Nat):Int)) 0):Nat):Int)==(47:Int)) false
theorem XG{a b:Bs}:GV a b=true↔a.length<b.length∧b.take a.length=a∧b.getD a.length 0=47:=by
 unfold GV;rw[show Qc5 ((Qa8 a:Nat):Int)=a.length from rfl,Anh]
 by_cases h:a.length<b.length
 ·rw[show decide (((Qa8 b:Nat):Int)>((Qa8 a:Nat):Int))=true from decide_eq_true (by omega),cond_true]
  by_cases h2:b.take a.length=a
  ·rw[h2,show(a==a)=true from beq_self_eq_true a,cond_true];simp[h]
  ·rw[show(Qd1 a.length b==a)=false from beq_eq_false_iff_ne.2 h2];simp[h2]
 ·rw[show decide (((Qa8 b:Nat):Int)>((Qa8 a:Nat):Int))=false from decide_eq_false (by omega)];simp[h]
theorem DV:∀(l:List Ao) (p:Bs),(Bq l p).isSome=true↔∃f∈l,f.1=p
 |[],p=>by simp[Bq]
 |f::r,p=>by
  have ih:=DV r p;rw[Bq]
  cases hb:Bq r p with
  |some v=>
   rw[hb]at ih;simp only[Qi0,true_iff]at ih⊢;obtain⟨g,hg,e⟩:=ih;exact⟨g,Qa7 _ hg,e⟩
  |none=>
   rw[hb]at ih;dsimp only
   by_cases hp:p=f.1
   ·rw[if_pos hp];simp only[Qi0,true_iff];exact⟨f,Qb1 ..,hp.symm⟩
   ·rw[if_neg hp];simp only[Option.isSome_none,Bool.false_eq_true,false_iff];rintro⟨g,hg,e⟩
    rcases List.mem_cons.1 hg with rfl|hg
    ·exact hp e.symm
    ·have:=ih.2 ⟨g,hg,e⟩;cases this
abbrev pth(l:List Ao)(i:Nat):Bs:=(l.getD i ([],[])).1
def Kq(l:List Ao):Prop:=∀i,i<l.length→∀k,k<i→Op.bytesLess (pth l k) (pth l i)=true∧GV (pth l k) (pth l i)=false
theorem QX(l:List Ao):VB l=true↔Kq l:=by
 unfold VB;rw[Qe5];constructor
 ·intro h
  have hadj:∀i,0<i→i<l.length→Op.bytesLess (pth l (i -1)) (pth l i)=true:=fun i h0 hi=>by
   have:=h i (List.mem_range.2 hi);simp only[Qc6,Qf1,beq_iff_eq]at this
   rcases this.1 with h1|h1
   ·omega
   ·exact h1
  have hch:∀i,i<l.length→∀k,k<i→Op.bytesLess (pth l k) (pth l i)=true:=by
   intro i
   induction i with
   |zero=>intro _ k hk;omega
   |succ i ih=>
    intro hi k hk;have h1:=hadj (i+1) (by omega) hi;rw[Nat.add_sub_cancel]at h1
    by_cases hki:k=i
    ·subst hki;exact h1
    ·exact HN (ih (by omega) k (by omega)) h1
  intro i hi k hk;refine⟨hch i hi k hk,?_⟩;rw[Qe2];intro ha;obtain⟨a1,a2,a3⟩:=XG.1 ha;have hn:=h i (List.mem_range.2 hi);simp only[Qc6,Bool.not_eq_true']at hn;have hn:=hn.2;unfold Afa at hn;rw[Qg0]at hn;refine hn (pth l k).length (List.mem_range.2 a1) ?_;rw[Qc6]
  refine⟨(DV l _).2 ⟨l.getD k ([],[]),A7 (by omega),a2.symm⟩,beq_iff_eq.2 a3⟩
 ·intro h i hi;have hi:=List.mem_range.1 hi;simp only[Qc6,Qf1,beq_iff_eq,Bool.not_eq_true'];refine⟨?_,?_⟩
  ·by_cases h0:i=0
   ·exact .inl h0
   ·exact .inr (h i hi (i -1) (by omega)).1
  ·unfold Afa;rw[Qg0];intro j hj hb;have hj:j<(pth l i).length:=List.mem_range.1 hj;rw[Qc6]at hb;obtain⟨hb1,hb2⟩:=hb;obtain⟨f,hf,hfe⟩:=(DV l _).1 hb1;obtain⟨m,hm⟩:=Qb9 hf;have hml:m<l.length:=(List.getElem?_eq_some_iff.1 hm).1
   have hpm:pth l m=(pth l i).take j:=by
    unfold pth;rw[Qa1,hm];exact hfe
   have hlen:((pth l i).take j).length=j:=by rw[Qb0];exact Nat.min_eq_left (by omega)
   rcases Nat.lt_trichotomy m i with h1|h1|h1
   ·have:=(h i hi m h1).2;rw[Qe2]at this;refine this (XG.2 ⟨by rw[hpm,hlen];exact hj,by rw[hpm,hlen],by rw[hpm,hlen];exact beq_iff_eq.1 hb2⟩)
   ·subst h1;have:=congrArg Qa8 hpm;rw[hlen]at this;exact absurd hj (by rw[this];exact Nat.lt_irrefl _)
   ·have h2:=(h m hml i h1).1;have h3:=Akc hj;rw[←hpm]at h3;have h4:=FV (pth l i);rw[HN h2 h3]at h4;cases h4
def Dq(l:List Ao):Int:=
 if l.length>200 then 1 else if l.all (fun f=>CO f.1==0)=false then 210 else if VB l=false then 211 else if l.all (fun f=>B6 f.2==0)=false then 1 else 0
def Du(l:List Ao):Prop:=l.length≤1000000∧∀f∈l,f.1.length≤140737488351232∧f.2.length≤140737488351232
theorem Du.at{l:List Ao}(h:Du l){i:Nat}(hi:i<l.length):(l.getD i ([],[])).1.length≤140737488351232∧(l.getD i ([],[])).2.length≤140737488351232:=h.2 _ (A7 hi)
def AcW(P:Pg):Prop:=∀f:Ao,f.1.length≤140737488351232→Fn P Ajt EK f fun(d:Bool) _=>d=(CO f.1 !=0)
theorem AmN(h:Has P F8)(hC:Gl P):AcW P:=by
 intro f hf;refine Tk h ?_;unfold M8;exact hC.at hf rfl
def AcX(P:Pg):Prop:=∀f:Ao,f.2.length≤140737488351232→Fn P Aju EL f fun(d:Bool) _=>d=(B6 f.2 !=0)
theorem AmO(h:Has P F9)(hC:N1 P):AcX P:=by
 intro f hf;refine Tl h ?_;unfold M9;refine(hC _ hf).to ?_;rintro(d:Int) _ hd;have hd:d=B6 f.2:=hd;rw[hd]
def AcY(P:Pg):Prop:=∀l:List Ao,Du l→Fn P XC AJ (l,()) fun(d:Int) _=>decide (d≥0)=l.any fun f=>CO f.1 !=0
theorem Ahx{α:Type}{l:List α}{p:α→Bool}{i:Nat}{d:α}(hi:i<l.length)(h:p (l.getD i d)=true):l.any p=true:=List.any_eq_true.2 ⟨_,A7 hi,h⟩
theorem Ahz{α:Type}{l:List α}{p:α→Bool}{d:α}(h:∀j,j<l.length→p (l.getD j d)=false):l.any p=false:=by
 rw[Qg0];intro x hx;obtain⟨j,hj⟩:=Qb9 hx;have hl:j<l.length:=(List.getElem?_eq_some_iff.1 hj).1;have:=h j hl;rw[Qa1,hj,Qb8]at this;rw[this];simp
theorem AmP(h:Has P A0)(hC:AcW P):AcY P:=by
 intro l hl;refine Dl h ?_;unfold BX;dsimp only
 refine Ac.mid (fun _=>(l.any fun f=>CO f.1 !=0)=false) ?_ fun _ h=>by rw[h];rfl
 refine Au.of (fun q=>(0≤q.2∧q.2≤l.length)∧∀j,j<q.2.toNat→(CO (l.getD j ([],[])).1 !=0)=false) (fun q=>(l.length -q.2).toNat) ⟨⟨Qa2 _,by dsimp only;omega⟩,fun j hj=>absurd hj (by simp)⟩ ?_
 rintro⟨q,i⟩ ⟨⟨i0,i1⟩,hq⟩;dsimp only at i0 i1 hq⊢;have hln:=hl.1;refine⟨fun hi=>?_,fun hi=>?_⟩
 ·have hi:=of_decide_eq_true hi
  have hi2:i.toNat<l.length:=by omega
  refine Ac.mid (fun _=>(CO (l.getD i.toNat ([],[])).1 !=0)=false) ⟨⟨i0,hi⟩,hi2,(hC _ (hl.at hi2).1).to ?_⟩ fun _ hn=>?_
  ·rintro(d:Bool) _ hd;have hd:d=_:=hd;subst hd;refine⟨fun hb=>?_,fun hb=>hb⟩;rw[Ahx (d:=([],[])) hi2 hb,decide_eq_true (by omega)]
  ·rw[w64 (by omega) (by omega)];refine⟨⟨⟨by omega,by omega⟩,fun j hj=>?_⟩,by omega⟩
   by_cases hji:j=i.toNat
   ·subst hji;exact hn
   ·exact hq j (by omega)
 ·have hi:=of_decide_eq_false hi
  exact Ahz (d:=([],[])) fun j hj=>hq j (by omega)
def AcZ(P:Pg):Prop:=∀l:List Ao,Du l→Fn P XC AK (l,()) fun(d:Int) _=>decide (d≥0)=l.any fun f=>B6 f.2 !=0
theorem AmQ(h:Has P A1)(hC:AcX P):AcZ P:=by
 intro l hl;refine Dm h ?_;unfold BZ;dsimp only
 refine Ac.mid (fun _=>(l.any fun f=>B6 f.2 !=0)=false) ?_ fun _ h=>by rw[h];rfl
 refine Au.of (fun q=>(0≤q.2∧q.2≤l.length)∧∀j,j<q.2.toNat→(B6 (l.getD j ([],[])).2 !=0)=false) (fun q=>(l.length -q.2).toNat) ⟨⟨Qa2 _,by dsimp only;omega⟩,fun j hj=>absurd hj (by simp)⟩ ?_
 rintro⟨q,i⟩ ⟨⟨i0,i1⟩,hq⟩;dsimp only at i0 i1 hq⊢;have hln:=hl.1;refine⟨fun hi=>?_,fun hi=>?_⟩
 ·have hi:=of_decide_eq_true hi
  have hi2:i.toNat<l.length:=by omega
  refine Ac.mid (fun _=>(B6 (l.getD i.toNat ([],[])).2 !=0)=false) ⟨⟨i0,hi⟩,hi2,(hC _ (hl.at hi2).2).to ?_⟩ fun _ hn=>?_
  ·rintro(d:Bool) _ hd;have hd:d=_:=hd;subst hd;refine⟨fun hb=>?_,fun hb=>hb⟩;rw[Ahx (d:=([],[])) hi2 hb,decide_eq_true (by omega)]
  ·rw[w64 (by omega) (by omega)];refine⟨⟨⟨by omega,by omega⟩,fun j hj=>?_⟩,by omega⟩
   by_cases hji:j=i.toNat
   ·subst hji;exact hn
   ·exact hq j (by omega)
 ·have hi:=of_decide_eq_false hi
  exact Ahz (d:=([],[])) fun j hj=>hq j (by omega)
def Ac0(P:Pg):Prop:=∀l:List Ao,Du l→Fn P XD AF (l,()) fun(d:Bool) _=>d=l.any fun f=>CO f.1 !=0
theorem AmR(h:Has P AW)(hI:AcY P):Ac0 P:=by
 intro l hl;refine C4 h ?_;unfold BN
 exact(hI l hl).to fun(d:Int) _ hd=>hd
def Ac1(P:Pg):Prop:=∀l:List Ao,Du l→Fn P XD AG (l,()) fun(d:Bool) _=>d=l.any fun f=>B6 f.2 !=0
theorem AmS(h:Has P AX)(hI:AcZ P):Ac1 P:=by
 intro l hl;refine C5 h ?_;unfold BO
 exact(hI l hl).to fun(d:Int) _ hd=>hd
theorem Ahy{α:Type}(l:List α)(p:α→Int):(l.any fun f=>p f !=0)=!(l.all fun f=>p f==0):=by
 induction l with
 |nil=>rfl
 |cons a l ih=>rw[List.any_cons,Qh9,ih,Bool.not_and];rfl
def EZ(P:Pg):Prop:=∀l:List Ao,Du l→Fn P zS6 Cu l fun(d:Int) _=>d=Dq l
theorem Z1(h:Has P F7)(h1:Ac0 P)(hO:Pl P)(h2:Ac1 P):EZ P:=by
 intro l hl;refine O2 h ?_;unfold LY;unfold Dq
 refine Ac.mid (fun _=>l.length≤200∧l.all (fun f=>CO f.1==0)=true∧VB l=true∧l.all (fun f=>B6 f.2==0)=true) ?_ fun _ hh=>by
  obtain⟨a1,a2,a3,a4⟩:=hh;rw[if_neg (by omega),if_neg (by rw[a2];simp),if_neg (by rw[a3];simp),if_neg (by rw[a4];simp)]
 refine⟨fun hc=>?_,fun hc=>?_⟩
 ·have hc:=of_decide_eq_true hc;rw[if_pos (by omega)]
 have hc:=of_decide_eq_false hc;rw[if_neg (by omega)];refine(h1 l hl).to ?_;rintro(d:Bool) _ hd;have hd:d=_:=hd;rw[Ahy l fun f=>CO f.1]at hd;subst hd;refine⟨fun hb=>?_,fun hb=>?_⟩
 ·rw[if_pos (by simpa using hb)]
 have hb:l.all (fun f=>CO f.1==0)=true:=by simpa using hb
 rw[if_neg (by rw[hb];simp)]
 refine(hO l hl.1 hl.2).to ?_;rintro(d:Bool) _ hd;have hd:d=VB l:=hd;subst hd;refine⟨fun hb2=>?_,fun hb2=>?_⟩
 ·rw[if_pos (by simpa using hb2)]
 have hb2:VB l=true:=by simpa using hb2
 rw[if_neg (by rw[hb2];simp)]
 refine(h2 l hl).to ?_;rintro(d:Bool) _ hd;have hd:d=_:=hd;rw[Ahy l fun f=>B6 f.2]at hd;subst hd;refine⟨fun hb3=>?_,fun hb3=>?_⟩
 ·rw[if_pos (by simpa using hb3)]
 have hb3:l.all (fun f=>B6 f.2==0)=true:=by simpa using hb3
 exact⟨by omega,hb,hb2,hb3⟩
theorem EZ.at(h:EZ P){l:List Ao}(hl:Du l){K:Int→Unit→Prop}(hk:K (Dq l) ()):Fn P zS6 Cu l K:=
 (h l hl).to fun(d:Int) _ hd=>by
  have hd:d=Dq l:=hd;subst hd;exact hk
abbrev Bz:=Bs×Int
def QM(a b:List Ao)(p:Bs):Option Int:=match Bq a p,Bq b p with
 |none,some _=>some 1
 |some _,none=>some 2
 |some x,some y=>if x=y then none else some 3
 |none,none=>none
def Alo(l:List Bz):Prop:=l.Pairwise fun x y=>Op.bytesLess x.1 y.1=true
theorem Afr:∀{l m:List Bz},Alo l→Alo m→(∀t,t∈l↔t∈m)→l=m
 |[],[],_,_,_=>rfl
 |[],b::m,_,_,h=>by have:=(h b).2 (Qb1 ..);cases this
 |a::l,[],_,_,h=>by have:=(h a).1 (Qb1 ..);cases this
 |a::l,b::m,hl,hm,h=>by
  have hl2:=List.pairwise_cons.1 hl;have hm2:=List.pairwise_cons.1 hm
  have hab:a=b:=by
   rcases List.mem_cons.1 ((h a).1 (Qb1 ..))with e|h1
   ·exact e
   ·rcases List.mem_cons.1 ((h b).2 (Qb1 ..))with e|h2
    ·exact e.symm
    ·have h3:=HN (hm2.1 a h1) (hl2.1 b h2);rw[FV]at h3;cases h3
  subst hab;rw[Afr hl2.2 hm2.2 fun t=>⟨fun ht=>?_,fun ht=>?_⟩]
  ·rcases List.mem_cons.1 ((h t).1 (Qa7 _ ht))with e|h1
   ·have h3:=hl2.1 t ht;rw[e,FV]at h3;cases h3
   ·exact h1
  ·rcases List.mem_cons.1 ((h t).2 (Qa7 _ ht))with e|h1
   ·have h3:=hm2.1 t ht;rw[e,FV]at h3;cases h3
   ·exact h1
def LR(a b:List Ao)(d:List Bz):Prop:=Alo d∧∀p k,(p,k)∈d↔QM a b p=some k
theorem Abe{a b:List Ao}{d e:List Bz}(hd:LR a b d)(he:LR a b e):d=e:=
 Afr hd.1 he.1 fun t=>by
  obtain⟨p,k⟩:=t;rw[hd.2,he.2]
def MH(a b:List Ao):Int:=if Dq a≠0 then Dq a else Dq b
def Ue(P:Pg):Prop:=∀x:List Ao×List Ao,Du x.1→Du x.2→Fn P "mergelens/tree.Diff" MT x fun(d:List Bz×Int) _=>d.2=MH x.1 x.2∧(d.2≠0→d.1=[])∧(d.2=0→LR x.1 x.2 d.1)
def Rt(P:Pg):Prop:=∀x:Bs×Bs,x.1.length≤140737488351232→x.2.length≤140737488351232→Fn P AjP Fk x fun(d:Bool) _=>d=GV x.1 x.2
theorem AgW(h:Has P Hk):Rt P:=by
 rintro⟨a,b⟩ ha hb;dsimp only at ha hb;refine UU h ?_;unfold OO;dsimp only;refine⟨fun hc=>?_,fun hc=>?_,rfl⟩
 ·have hc:=of_decide_eq_true hc;exact⟨by omega,by omega⟩
 ·rw[Qb5]at hc;split at hc
  ·rename_i h1;have h1:=of_decide_eq_true h1;exact⟨by omega,by omega⟩
  ·cases hc
def HB(P:Pg):Prop:=∀s:Bs,s.length≤140737488351232→Fn P AeH DO s fun(d:Int) _=>d=B6 s
theorem Xt(h:Has P Hc)(hL:IV P):HB P:=by
 intro s hs;refine UM h ?_;unfold OG;refine⟨fun hc=>?_,fun hc=>?_⟩
 ·have hc:=of_decide_eq_true hc;refine⟨fun _=>?_,fun h=>(nomatch h)⟩;unfold B6;rw[if_pos (.inl (by omega))]
 ·have hc:=of_decide_eq_false hc;refine(hL s (by omega)).to ?_;rintro(d:List Bs) _ hd;have hd:d=lnF s:=hd;subst hd;simp only[cond_false];unfold B6;refine⟨fun h1=>?_,fun h1=>?_⟩
  ·have h1:=of_decide_eq_true h1;rw[if_pos (.inr (by omega))]
  ·have h1:=of_decide_eq_false h1;rw[if_neg (by omega)]
theorem AaC{l:List Ao}{i:Nat}(hi:i<l.length)(hl:¬l.length>200)(h:CO (l.getD i ([],[])).1≠0):Dq l=210:=by
 unfold Dq;rw[if_neg hl,if_pos];rw[List.all_eq_false];exact⟨_,A7 hi,by simpa using h⟩
theorem Ahw{α:Type}{l:List α}{p:α→Bool}{d:α}(h:∀j,j<l.length→p (l.getD j d)=true):l.all p=true:=by
 rw[Qe5];intro x hx;obtain⟨j,hj⟩:=Qb9 hx;have hl:j<l.length:=(List.getElem?_eq_some_iff.1 hj).1;have:=h j hl
 rwa [Qa1,hj,Qb8]at this
def Ep(P:Pg):Prop:=∀l:List Ao,Du l→Fn P zS5 Cc l fun(d:Int) _=>d=Dq l
theorem Xu(h:Has P Fc)(hP:Ft P)(hA:Rt P)(hT:HB P):Ep P:=by
 intro l hl;have hln:=hl.1;refine Nk h ?_;unfold Kl;refine⟨fun hc=>?_,fun hc=>?_⟩
 ·have hc:=of_decide_eq_true hc;unfold Dq;rw[if_pos (by omega)]
 have hc:=of_decide_eq_false hc
 have hc2:¬l.length>200:=by omega
 refine Ac.mid (fun _=>∀j,j<l.length→CO (l.getD j ([],[])).1=0) ?_ ?_
 ·refine Au.of (fun q=>(0≤q.2∧q.2≤l.length)∧∀j,j<q.2.toNat→CO (l.getD j ([],[])).1=0) (fun q=>(l.length -q.2).toNat) ⟨⟨Qa2 _,by dsimp only;omega⟩,fun j hj=>absurd hj (by simp)⟩ ?_
  rintro⟨q,i⟩ ⟨⟨i0,i1⟩,hq⟩;dsimp only at i0 i1 hq⊢;refine⟨fun hi=>?_,fun hi=>?_⟩
  ·have hi:=of_decide_eq_true hi
   have hi2:i.toNat<l.length:=by omega
   refine Ac.mid (fun _=>CO (l.getD i.toNat ([],[])).1=0) ⟨⟨i0,hi⟩,hi2,hP.at (hl.at hi2).1 ⟨fun hb=>?_,fun hb=>?_⟩⟩ fun _ hn=>?_
   ·exact(AaC hi2 hc2 (by simpa using hb)).symm
   ·simpa using hb
   ·rw[w64 (by omega) (by omega)];refine⟨⟨⟨by omega,by omega⟩,fun j hj=>?_⟩,by omega⟩
    by_cases hji:j=i.toNat
    ·subst hji;exact hn
    ·exact hq j (by omega)
  ·have hi:=of_decide_eq_false hi
   exact fun j hj=>hq j (by omega)
 intro q hp
 have hpa:l.all (fun f=>CO f.1==0)=true:=Ahw (d:=([],[])) fun j hj=>by rw[hp j hj];rfl
 have hbad:∀i k,i<l.length→k<i→(Op.bytesLess (pth l k) (pth l i)=false∨GV (pth l k) (pth l i)=true)→(211:Int)=Dq l:=by
  intro i k hi hk hv;unfold Dq;rw[if_neg hc2,if_neg (by rw[hpa];simp),if_pos]
  rw[Qe2];intro ho;have:=(QX l).1 ho i hi k hk
  rcases hv with hv|hv
  ·rw[this.1]at hv;cases hv
  ·rw[this.2]at hv;cases hv
 clear hp;refine Ac.mid (fun _=>Kq l) ?_ ?_
 ·refine Au.of (fun q=>(0≤q.2∧q.2≤l.length)∧∀i,i<q.2.toNat→∀k,k<i→Op.bytesLess (pth l k) (pth l i)=true∧GV (pth l k) (pth l i)=false) (fun q=>(l.length -q.2).toNat) ⟨⟨Qa2 _,by dsimp only;omega⟩,fun j hj=>absurd hj (by simp)⟩ ?_
  rintro⟨q',i⟩ ⟨⟨i0,i1⟩,hq⟩;dsimp only at i0 i1 hq⊢;refine⟨fun hi=>?_,fun hi=>?_⟩
  ·have hi:=of_decide_eq_true hi
   have hi2:i.toNat<l.length:=by omega
   refine Ac.mid (fun _=>∀k,k<i.toNat→Op.bytesLess (pth l k) (pth l i.toNat)=true∧GV (pth l k) (pth l i.toNat)=false) ?_ fun _ hn=>?_
   ·refine Ac.mid (fun _=>∀k,k<i.toNat→Op.bytesLess (pth l k) (pth l i.toNat)=true∧GV (pth l k) (pth l i.toNat)=false) ?_ fun _ h=>h
    refine Au.of (fun q=>(0≤q.2∧q.2≤i)∧∀k,k<q.2.toNat→Op.bytesLess (pth l k) (pth l i.toNat)=true∧GV (pth l k) (pth l i.toNat)=false) (fun q=>(i -q.2).toNat) ⟨⟨Qa2 _,i0⟩,fun j hj=>absurd hj (by simp)⟩ ?_;rintro⟨q2,k⟩ ⟨⟨k0,k1⟩,hk⟩;dsimp only at k0 k1 hk⊢;refine⟨fun hki=>?_,fun hki=>?_⟩
    ·have hki:=of_decide_eq_true hki
     have hk2:k.toNat<l.length:=by omega
     refine Ac.mid (fun _=>Op.bytesLess (pth l k.toNat) (pth l i.toNat)=true∧GV (pth l k.toNat) (pth l i.toNat)=false) ?_ fun _ hn=>?_
     ·refine Ac.mid (fun d=>d=(!(Op.bytesLess (pth l k.toNat) (pth l i.toNat))||GV (pth l k.toNat) (pth l i.toNat))) ?_ ?_
      ·refine⟨⟨k0,by omega⟩,hk2,⟨i0,by omega⟩,hi2,fun _=>⟨k0,by omega⟩,fun _=>hk2,fun _=>⟨i0,by omega⟩,fun _=>hi2,?_,trivial⟩
       refine Ac.mid (fun d=>(!(Op.bytesLess (pth l k.toNat) (pth l i.toNat)))=false→d=GV (pth l k.toNat) (pth l i.toNat)) ⟨fun _=>(hA (pth l k.toNat,pth l i.toNat) (hl.at hk2).1 (hl.at hi2).1).to fun(d:Bool) _ hd _=>hd,(by intro hb hb2;rw[hb]at hb2;cases hb2),trivial⟩ ?_
       intro d hd
       cases hb:(!(Op.bytesLess (pth l k.toNat) (pth l i.toNat)))with
       |true=>rfl
       |false=>exact hd hb
      ·rintro d rfl;refine⟨fun hb=>?_,fun hb=>?_⟩
       ·refine hbad i.toNat k.toNat hi2 (by omega) ?_;simpa using hb
       ·simpa using hb
     ·rw[w64 (by omega) (by omega)];refine⟨⟨⟨by omega,by omega⟩,fun j hj=>?_⟩,by omega⟩
      by_cases hji:j=k.toNat
      ·subst hji;exact hn
      ·exact hk j (by omega)
    ·have hki:=of_decide_eq_false hki
     exact fun j hj=>hk j (by omega)
   ·rw[w64 (by omega) (by omega)];refine⟨⟨⟨by omega,by omega⟩,fun j hj=>?_⟩,by omega⟩
    by_cases hji:j=i.toNat
    ·subst hji;exact hn
    ·exact hq j (by omega)
  ·have hi:=of_decide_eq_false hi
   exact fun j hj=>hq j (by omega)
 intro q ho;have hob:=(QX l).2 ho;clear ho hbad
 refine Ac.mid (fun _=>Dq l=0) ?_ fun _ h=>h.symm
 refine Au.of (fun q=>(0≤q.2∧q.2≤l.length)∧∀j,j<q.2.toNat→B6 (l.getD j ([],[])).2=0) (fun q=>(l.length -q.2).toNat) ⟨⟨Qa2 _,by dsimp only;omega⟩,fun j hj=>absurd hj (by simp)⟩ ?_
 rintro⟨q',i⟩ ⟨⟨i0,i1⟩,hq⟩;dsimp only at i0 i1 hq⊢;refine⟨fun hi=>?_,fun hi=>?_⟩
 ·have hi:=of_decide_eq_true hi
  have hi2:i.toNat<l.length:=by omega
  refine Ac.mid (fun _=>B6 (l.getD i.toNat ([],[])).2=0) ⟨⟨i0,hi⟩,hi2,(hT _ (hl.at hi2).2).to ?_⟩ fun _ hn=>?_
  ·rintro(d:Int) _ hd;have hd:d=B6 (l.getD i.toNat ([],[])).2:=hd;subst hd;refine⟨fun hb=>?_,fun hb=>?_⟩
   ·unfold Dq;rw[if_neg hc2,if_neg (by rw[hpa];simp),if_neg (by rw[hob];simp),if_pos]
    rw[List.all_eq_false];exact⟨_,A7 (d:=([],[])) hi2,by simpa using hb⟩
   ·simpa using hb
  ·rw[w64 (by omega) (by omega)];refine⟨⟨⟨by omega,by omega⟩,fun j hj=>?_⟩,by omega⟩
   by_cases hji:j=i.toNat
   ·subst hji;exact hn
   ·exact hq j (by omega)
 ·have hi:=of_decide_eq_false hi;unfold Dq;rw[if_neg hc2,if_neg (by rw[hpa];simp),if_neg (by rw[hob];simp),if_neg]
  rw[Ahw (d:=([],[])) (p:=fun f:Ao=>B6 f.2==0) fun j hj=>by rw[hq j (by omega)];rfl]
  simp
theorem Ep.at(h:Ep P){l:List Ao}(hl:Du l){K:Int→Unit→Prop}(hk:K (Dq l) ()):Fn P zS5 Cc l K:=
 (h l hl).to fun(d:Int) _ hd=>by
  have hd:d=Dq l:=hd;subst hd;exact hk
def findF:List Ao→Bs→Bs×Bool
 |[],_=>([],false)
 |f::r,p=>if f.1=p then(f.2,true)else findF r p
theorem XV{l:List Ao}{i:Nat}(hi:i<l.length)(p:Bs):findF (l.drop i) p=if(l.getD i ([],[])).1=p then((l.getD i ([],[])).2,true)else findF (l.drop (i+1)) p:=by
 rw[Qc0 hi,findF,getD_eq hi]
def M1(P:Pg):Prop:=∀x:List Ao×Bs,x.1.length≤1000000→Fn P AcJ D1 x fun(d:Bs×Bool) _=>d=findF x.1 x.2
theorem Ajk(h:Has P JS):M1 P:=by
 rintro⟨l,p⟩ hl;dsimp only at hl;refine Y9 h ?_;unfold SB;dsimp only
 refine Ac.mid (fun _=>findF l p=([],false)) ?_ fun _ h=>h.symm
 refine Au.of (fun q=>(0≤q.2.2∧q.2.2≤l.length)∧findF (l.drop q.2.2.toNat) p=findF l p) (fun q=>(l.length -q.2.2).toNat) ⟨⟨Qa2 _,by dsimp only;omega⟩,rfl⟩ ?_
 rintro⟨q1,q2,i⟩ ⟨⟨i0,i1⟩,hq⟩;dsimp only at i0 i1 hq⊢;refine⟨fun hi=>?_,fun hi=>?_⟩
 ·have hi:=of_decide_eq_true hi
  have hi2:i.toNat<l.length:=by omega
  rw[XV hi2]at hq
  refine Ac.mid (fun _=>(l.getD i.toNat ([],[])).1≠p) ⟨⟨i0,hi⟩,hi2,fun hb=>?_,fun hb=>beq_eq_false_iff_ne.1 hb⟩ fun _ hn=>?_
  ·rw[if_pos (eq_of_beq hb)]at hq;exact hq
  ·rw[if_neg hn]at hq;rw[w64 (by omega) (by omega),show(i+1).toNat=i.toNat+1 by omega];exact⟨⟨⟨by omega,by omega⟩,hq⟩,by omega⟩
 ·have hi:=of_decide_eq_false hi;rw[Qc7 (by omega)]at hq;exact hq.symm
def Lm(P:Pg):Prop:=∀x:List Ao×Bs,x.1.length≤1000000→Fn P zS4 Ce x fun(d:Bs×Bool) _=>d=findF x.1 x.2
theorem Ajd(h:Has P Ic):Lm P:=by
 rintro⟨l,p⟩ hl;dsimp only at hl;refine WA h ?_;unfold Qg;dsimp only
 refine Ac.mid (fun _=>findF l p=([],false)) ?_ fun _ h=>h.symm
 refine Au.of (fun q=>(0≤q.2.2∧q.2.2≤l.length)∧findF (l.drop q.2.2.toNat) p=findF l p) (fun q=>(l.length -q.2.2).toNat) ⟨⟨Qa2 _,by dsimp only;omega⟩,rfl⟩ ?_
 rintro⟨q1,q2,i⟩ ⟨⟨i0,i1⟩,hq⟩;dsimp only at i0 i1 hq⊢;refine⟨fun hi=>?_,fun hi=>?_⟩
 ·have hi:=of_decide_eq_true hi
  have hi2:i.toNat<l.length:=by omega
  rw[XV hi2]at hq
  refine Ac.mid (fun _=>(l.getD i.toNat ([],[])).1≠p) ⟨⟨i0,hi⟩,hi2,fun hb=>⟨⟨i0,hi⟩,hi2,?_⟩,fun hb=>beq_eq_false_iff_ne.1 hb⟩ fun _ hn=>?_
  ·rw[if_pos (eq_of_beq hb)]at hq;exact hq
  ·rw[if_neg hn]at hq;rw[w64 (by omega) (by omega),show(i+1).toNat=i.toNat+1 by omega];exact⟨⟨⟨by omega,by omega⟩,hq⟩,by omega⟩
 ·have hi:=of_decide_eq_false hi;rw[Qc7 (by omega)]at hq;exact hq.symm
theorem M1.at(h:M1 P){l:List Ao}{p:Bs}(hl:l.length≤1000000){K:Bs×Bool→Unit→Prop}(hk:K (findF l p) ()):Fn P AcJ D1 (l,p) K:=
 (h (l,p) hl).to fun(d:Bs×Bool) _ hd=>by
  have hd:d=findF l p:=hd;subst hd;exact hk
theorem Lm.at(h:Lm P){l:List Ao}{p:Bs}(hl:l.length≤1000000){K:Bs×Bool→Unit→Prop}(hk:K (findF l p) ()):Fn P zS4 Ce (l,p) K:=
 (h (l,p) hl).to fun(d:Bs×Bool) _ hd=>by
  have hd:d=findF l p:=hd;subst hd;exact hk
def Ud(P:Pg):Prop:=∀x:List Ao×List Ao,Du x.1→Du x.2→Fn P "mergelens/tree.both" JV x fun(d:Int) _=>d=MH x.1 x.2
theorem Ajj(h:Has P JT)(hT:EZ P):Ud P:=by
 rintro⟨a,b⟩ ha hb;dsimp only at ha hb;refine Za h ?_;unfold SC MH;dsimp only;refine hT.at ha ⟨fun hc=>?_,fun hc=>?_⟩
 ·rw[if_pos (by simpa using hc)]
 ·rw[if_neg (by simpa using hc)];exact hT.at hb rfl
structure Gath(a b:List Ao)(o:List Bs)(i j:Nat):Prop where
 srt:o.Pairwise fun x y=>Op.bytesLess x y=true
 mem:∀t,t∈o↔(∃k,k<i∧k<a.length∧pth a k=t)∨∃k,k<j∧k<b.length∧pth b k=t
 la:∀t∈o,∀k,i≤k→k<a.length→Op.bytesLess t (pth a k)=true
 lb:∀t∈o,∀k,j≤k→k<b.length→Op.bytesLess t (pth b k)=true
 len:o.length≤i+j
theorem Kq.mono{l:List Ao}(h:Kq l){i k:Nat}(hk:k<l.length)(hi:i<k):Op.bytesLess (pth l i) (pth l k)=true:=(h k hk i hi).1
theorem Gath.push{a b:List Ao}{o:List Bs}{i j i' j':Nat}{t:Bs}(g:Gath a b o i j)(hlt:∀u∈o,Op.bytesLess u t=true)(hi:i≤i')(hj:j≤j')
  (hmem:∀u,(u=t∨(∃k,k<i∧k<a.length∧pth a k=u)∨∃k,k<j∧k<b.length∧pth b k=u)↔(∃k,k<i'∧k<a.length∧pth a k=u)∨∃k,k<j'∧k<b.length∧pth b k=u)
  (ha:∀k,i'≤k→k<a.length→Op.bytesLess t (pth a k)=true) (hb:∀k,j'≤k→k<b.length→Op.bytesLess t (pth b k)=true) (hl:i+j+1≤i'+j'):Gath a b (o++[t]) i' j' where
 srt:=List.pairwise_append.2 ⟨g.srt,List.pairwise_singleton ..,fun x hx y hy=>by rw[List.mem_singleton.1 hy];exact hlt x hx⟩
 mem u:=by
  rw[Qd8,Qd2,←hmem,g.mem];exact Or.comm
 la u hu k h1 h2:=by
  rcases List.mem_append.1 hu with hu|hu
  ·exact g.la u hu k (by omega) h2
  ·rw[List.mem_singleton.1 hu];exact ha k h1 h2
 lb u hu k h1 h2:=by
  rcases List.mem_append.1 hu with hu|hu
  ·exact g.lb u hu k (by omega) h2
  ·rw[List.mem_singleton.1 hu];exact hb k h1 h2
 len:=by rw[Qa6];simp only[Qa0,Qa5];have:=g.len;omega
theorem exS{a:List Ao}{i:Nat}(hi:i<a.length)(u:Bs):(∃k,k<i+1∧k<a.length∧pth a k=u)↔u=pth a i∨∃k,k<i∧k<a.length∧pth a k=u:=by
 constructor
 ·rintro⟨k,h1,h2,h3⟩
  by_cases e:k=i
  ·subst e;exact .inl h3.symm
  ·exact .inr ⟨k,by omega,h2,h3⟩
 ·rintro(rfl|⟨k,h1,h2,h3⟩)
  ·exact⟨i,by omega,hi,rfl⟩
  ·exact⟨k,by omega,h2,h3⟩
def Rv(P:Pg):Prop:=∀x:List Ao×List Ao,Du x.1→Du x.2→Kq x.1→Kq x.2→Fn P AjN Fl x fun(d:List Bs) _=>Gath x.1 x.2 d x.1.length x.2.length
theorem AgY(h:Has P Hl):Rv P:=by
 rintro⟨a,b⟩ ha hb oa ob;dsimp only at ha hb oa ob;have hna:=ha.1;have hnb:=hb.1;refine UW h ?_;unfold OP;dsimp only
 refine Ac.mid (fun d=>Gath a b d a.length b.length) ?_ fun _ h=>h
 refine Au.of (fun q=>(0≤q.2.1∧q.2.1≤a.length)∧(0≤q.2.2∧q.2.2≤b.length)∧Gath a b q.1 q.2.1.toNat q.2.2.toNat) (fun q=>(a.length -q.2.1).toNat+(b.length -q.2.2).toNat) ⟨⟨Qa2 _,Qa3 _⟩,⟨Qa2 _,Qa3 _⟩,⟨List.Pairwise.nil,fun t=>by simp,fun t h=>(nomatch h),fun t h=>(nomatch h),Qb4 _⟩⟩ ?_
 rintro⟨o,i,j⟩ ⟨⟨i0,i1⟩,⟨j0,j1⟩,g⟩;dsimp only at i0 i1 j0 j1 g⊢;have hol:=g.len;refine⟨fun hc=>?_,fun hc=>?_⟩
 ·refine Ac.mid (fun q=>((0≤q.2.1∧q.2.1≤a.length)∧(0≤q.2.2∧q.2.2≤b.length)∧Gath a b q.1 q.2.1.toNat q.2.2.toNat)∧(a.length -q.2.1).toNat+(b.length -q.2.2).toNat<(a.length -i).toNat+(b.length -j).toNat) ?_ fun q hq=>⟨hq.1,hq.2⟩
  refine Ac.mid (fun q=>((0≤q.2.1∧q.2.1≤a.length)∧(0≤q.2.2∧q.2.2≤b.length)∧Gath a b q.1 q.2.1.toNat q.2.2.toNat)∧(a.length -q.2.1).toNat+(b.length -q.2.2).toNat<(a.length -i).toNat+(b.length -j).toNat) ?_ fun _ h=>h
  have hij:i<a.length∨j<b.length:=by
   rw[Qb5]at hc;split at hc
   ·rename_i h1;exact .inl (of_decide_eq_true h1)
   ·exact .inr (of_decide_eq_true hc)
  have hjn:(j==((b.length:Nat):Int))=false→j<b.length:=fun h=>by have:=beq_eq_false_iff_ne.1 h;omega
  have hin:(i==((a.length:Nat):Int))=false→i<a.length:=fun h=>by have:=beq_eq_false_iff_ne.1 h;omega
  refine Ac.mid (fun d=>d=(cond (j==((b.length:Nat):Int)) true (cond (decide (i<((a.length:Nat):Int))) (Op.bytesLess (pth a i.toNat) (pth b j.toNat)) false))) ⟨fun h1 _=>⟨i0,of_decide_eq_true h1⟩,fun h1 _=>by have:=of_decide_eq_true h1;omega,fun _ h2=>⟨j0,hjn h2⟩,fun _ h2=>by have:=hjn h2;omega,rfl,trivial⟩ ?_
  intro d hd
  have ea:(i+1).toNat=i.toNat+1:=by omega
  have eb:(j+1).toNat=j.toNat+1:=by omega
  refine Ac.mid (fun q=>((0≤q.2.1∧q.2.1≤a.length)∧(0≤q.2.2∧q.2.2≤b.length)∧Gath a b q.1 q.2.1.toNat q.2.2.toNat)∧(a.length -q.2.1).toNat+(b.length -q.2.2).toNat<(a.length -i).toNat+(b.length -j).toNat) ⟨fun ht=>?_,fun hf=>?_⟩ fun _ h=>h
  ·subst hd
   have hia:i<a.length:=by
    rcases hij with h|h
    ·exact h
    ·rw[beq_eq_false_iff_ne.2 (by omega:j≠((b.length:Nat):Int)),cond_false,Qb5]at ht;split at ht
     ·rename_i h1;exact of_decide_eq_true h1
     ·cases ht
   have hia2:i.toNat<a.length:=by omega
   have hlb:∀k,j.toNat≤k→k<b.length→Op.bytesLess (pth a i.toNat) (pth b k)=true:=fun k h1 h2=>by
    rw[beq_eq_false_iff_ne.2 (by omega:j≠((b.length:Nat):Int)),cond_false,decide_eq_true hia,cond_true]at ht
    by_cases e:k=j.toNat
    ·rw[e];exact ht
    ·exact HN ht (ob.mono h2 (by omega))
   rw[w64 (by omega) (by omega)];refine⟨⟨i0,hia⟩,hia2,by simp only[Qa0,Qa5];omega,⟨⟨by dsimp only;omega,by dsimp only;omega⟩,⟨j0,j1⟩,?_⟩,by dsimp only;omega⟩
   dsimp only;rw[ea];exact g.push (fun u hu=>g.la u hu _ (Qb4 _) hia2) (by omega) (Qb4 _) (fun u=>by rw[exS hia2,or_assoc]) (fun k h1 h2=>oa.mono h2 (by omega)) hlb (by omega)
  ·subst hd
   have hjb:j<b.length:=by
    rcases hij with h|h
    ·by_cases e:j=((b.length:Nat):Int)
     ·rw[beq_iff_eq.2 e]at hf;cases hf
     ·omega
    ·exact h
   have hjb2:j.toNat<b.length:=by omega
   rw[beq_eq_false_iff_ne.2 (by omega:j≠((b.length:Nat):Int)),cond_false]at hf;refine Ac.mid (fun d=>d=(cond (i==((a.length:Nat):Int)) true (Op.bytesLess (pth b j.toNat) (pth a i.toNat)))) ⟨fun _=>⟨j0,hjb⟩,fun _=>hjb2,fun h2=>⟨i0,hin h2⟩,fun h2=>by have:=hin h2;omega,rfl,trivial⟩ ?_
   intro d hd
   refine Ac.mid (fun q=>((0≤q.2.1∧q.2.1≤a.length)∧(0≤q.2.2∧q.2.2≤b.length)∧Gath a b q.1 q.2.1.toNat q.2.2.toNat)∧(a.length -q.2.1).toNat+(b.length -q.2.2).toNat<(a.length -i).toNat+(b.length -j).toNat) ⟨fun ht=>?_,fun hf2=>?_⟩ fun _ h=>h
   ·subst hd
    have hla:∀k,i.toNat≤k→k<a.length→Op.bytesLess (pth b j.toNat) (pth a k)=true:=fun k h1 h2=>by
     rw[beq_eq_false_iff_ne.2 (by omega:i≠((a.length:Nat):Int)),cond_false]at ht
     by_cases e:k=i.toNat
     ·rw[e];exact ht
     ·exact HN ht (oa.mono h2 (by omega))
    rw[w64 (by omega) (by omega)];refine⟨⟨j0,hjb⟩,hjb2,by simp only[Qa0,Qa5];omega,⟨⟨i0,i1⟩,⟨by dsimp only;omega,by dsimp only;omega⟩,?_⟩,by dsimp only;omega⟩
    dsimp only;rw[eb];exact g.push (fun u hu=>g.lb u hu _ (Qb4 _) hjb2) (Qb4 _) (by omega) (fun u=>by rw[exS hjb2,or_left_comm]) hla (fun k h1 h2=>ob.mono h2 (by omega)) (by omega)
   ·subst hd
    have hia:i<a.length:=by
     by_cases e:i=((a.length:Nat):Int)
     ·rw[beq_iff_eq.2 e]at hf2;cases hf2
     ·omega
    have hia2:i.toNat<a.length:=by omega
    rw[beq_eq_false_iff_ne.2 (by omega:i≠((a.length:Nat):Int)),cond_false]at hf2;rw[decide_eq_true hia,cond_true]at hf
    have heq:pth a i.toNat=pth b j.toNat:=by
     by_cases e:pth a i.toNat=pth b j.toNat
     ·exact e
     ·rcases Qo e with h1|h1
      ·rw[h1]at hf;cases hf
      ·rw[h1]at hf2;cases hf2
    rw[w64 (n:=i+1) (by omega) (by omega),w64 (n:=j+1) (by omega) (by omega)];refine⟨⟨i0,hia⟩,hia2,by simp only[Qa0,Qa5];omega,⟨⟨by dsimp only;omega,by dsimp only;omega⟩,⟨by dsimp only;omega,by dsimp only;omega⟩,?_⟩,by dsimp only;omega⟩
    dsimp only;rw[ea,eb];refine g.push (fun u hu=>g.la u hu _ (Qb4 _) hia2) (by omega) (by omega) (fun u=>?_) (fun k h1 h2=>oa.mono h2 (by omega)) (fun k h1 h2=>?_) (by omega)
    ·rw[exS hia2,exS hjb2,←heq];constructor
     ·rintro(h|h|h)
      ·exact .inl (.inl h)
      ·exact .inl (.inr h)
      ·exact .inr (.inr h)
     ·rintro((h|h)|(h|h))
      ·exact .inl h
      ·exact .inr (.inl h)
      ·exact .inl h
      ·exact .inr (.inr h)
    ·show Op.bytesLess (pth a i.toNat) (pth b k)=true;rw[heq];exact ob.mono h2 (by omega)
 ·have hi:¬i<a.length∧¬j<b.length:=by
   rw[Qb5]at hc;split at hc
   ·cases hc
   ·rename_i h1;exact⟨fun h=>h1 (decide_eq_true h),of_decide_eq_false hc⟩
  rw[show i.toNat=a.length by omega,show j.toNat=b.length by omega]at g;exact g
theorem RQ:∀{l:List Ao},l.Pairwise (fun x y=>x.1≠y.1)→∀p,findF l p=match Bq l p with|some v=>(v,true)|none=>([],false)
 |[],_,p=>rfl
 |f::r,h,p=>by
  have h2:=List.pairwise_cons.1 h;have ih:=RQ h2.2 p;rw[findF,Bq]
  by_cases e:f.1=p
  ·rw[if_pos e]
   have hn:Bq r p=none:=by
    cases hb:Bq r p with
    |none=>rfl
    |some v=>
     obtain⟨g,hg,hgp⟩:=(DV r p).1 (by rw[hb];rfl)
     exact absurd (e.trans hgp.symm) (h2.1 g hg)
   rw[hn,if_pos e.symm]
  ·rw[if_neg e,ih]
   cases hb:Bq r p with
   |some v=>rfl
   |none=>rw[if_neg (fun h=>e h.symm)]
theorem Kq.ne{l:List Ao}(h:Kq l):l.Pairwise (fun x y=>x.1≠y.1):=by
 rw[Qd0];intro i j hi hj hij e;have h1:=(h j hj i hij).1
 have h2:pth l i=pth l j:=by
  unfold pth;rw[getD_eq hi,getD_eq hj];exact e
 rw[h2,FV]at h1;cases h1
def Jk(a b:List Ao)(p:Bs):Option Bz:=(QM a b p).map fun k=>(p,k)
theorem Agc{a b:List Ao}{l:List Bs}(h:Gath a b l a.length b.length):LR a b (l.filterMap (Jk a b)):=by
 have hk:∀p t,Jk a b p=some t→t.1=p∧QM a b p=some t.2:=fun p t ht=>by
  unfold Jk at ht;obtain⟨k,h1,rfl⟩:=Option.map_eq_some_iff.1 ht;exact⟨rfl,h1⟩
 refine⟨?_,fun p k=>?_⟩
 ·refine List.Pairwise.filterMap _ (fun x y hxy t ht u hu=>?_) h.srt;rw[(hk x t ht).1,(hk y u hu).1];exact hxy
 ·rw[Qf8];constructor
  ·rintro⟨q,hq,ht⟩;obtain⟨h1,h2⟩:=hk q _ ht;have h1:p=q:=h1;subst h1;exact h2
  ·intro hp;refine⟨p,(h.mem p).2 ?_,by unfold Jk;rw[hp];rfl⟩
   have hin:∀{l:List Ao} {v},Bq l p=some v→∃k,k<l.length∧k<l.length∧pth l k=p:=fun{l v} hb=>by
    obtain⟨f,hf,hfp⟩:=(DV l p).1 (by rw[hb];rfl)
    obtain⟨m,hm⟩:=Qb9 hf;have hml:=(List.getElem?_eq_some_iff.1 hm).1;refine⟨m,hml,hml,?_⟩;unfold pth;rw[Qa1,hm];exact hfp
   unfold QM at hp
   cases ha:Bq a p with
   |some v=>exact .inl (hin ha)
   |none=>
    cases hb:Bq b p with
    |some v=>exact .inr (hin hb)
    |none=>rw[ha,hb]at hp;cases hp
def Iz(b:List Ao)(f:Ao):Option Bz:=match Bq b f.1 with
 |none=>some (f.1,2)
 |some v=>if v=f.2 then none else some (f.1,3)
def Na(a:List Ao)(f:Ao):Option Bz:=match Bq a f.1 with
 |none=>some (f.1,1)
 |some _=>none
def O3(a b:List Ao):List Bz:=a.filterMap (Iz b)++b.filterMap (Na a)
theorem VN{b:List Ao}{f:Ao}{t:Bz}(h:Iz b f=some t):t.1=f.1:=by
 unfold Iz at h;split at h
 ·cases h;rfl
 ·split at h
  ·cases h
  ·cases h;rfl
theorem Um{a:List Ao}{f:Ao}{t:Bz}(h:Na a f=some t):t.1=f.1∧Bq a f.1=none:=by
 unfold Na at h;split at h
 ·rename_i h1;cases h;exact⟨rfl,h1⟩
 ·cases h
theorem Kq.blob{l:List Ao}(h:Kq l){f:Ao}(hf:f∈l):Bq l f.1=some f.2:=by
 have h1:=h.ne;clear h
 induction l with
 |nil=>cases hf
 |cons g r ih=>
  have h2:=List.pairwise_cons.1 h1;rw[Bq]
  rcases List.mem_cons.1 hf with rfl|hf
  ·cases hb:Bq r f.1 with
   |none=>dsimp only;rw[if_pos rfl]
   |some v=>
    obtain⟨g,hg,he⟩:=(DV r f.1).1 (by rw[hb];rfl)
    exact absurd he.symm (h2.1 g hg)
  ·rw[ih hf h2.2]
theorem Kq.Abu{l:List Ao}(h:Kq l){p v:Bs}:Bq l p=some v↔(p,v)∈l:=by
 constructor
 ·intro hb;obtain⟨f,hf,rfl⟩:=(DV l p).1 (by rw[hb];rfl)
  have:=h.blob hf;rw[this]at hb;cases hb;exact hf
 ·intro hf;exact h.blob hf
theorem Aiy{a b:List Ao}(ha:Kq a)(hb:Kq b)(p:Bs)(k:Int):(p,k)∈O3 a b↔QM a b p=some k:=by
 unfold O3 QM;rw[Qd8,Qf8,Qf8];constructor
 ·rintro(⟨f,hf,h⟩|⟨f,hf,h⟩)
  ·have h1:=VN h;have h1:p=f.1:=h1;subst h1;rw[ha.blob hf];unfold Iz at h;split at h
   ·rename_i h2;rw[h2];cases h;rfl
   ·rename_i v h2;rw[h2];split at h
    ·cases h
    ·rename_i h3;cases h;dsimp only;rw[if_neg (fun e=>h3 e.symm)]
  ·obtain⟨h1,h2⟩:=Um h;have h1:p=f.1:=h1;subst h1;rw[h2,hb.blob hf];unfold Na at h;rw[h2]at h;cases h;rfl
 ·intro h
  cases h1:Bq a p with
  |none=>
   cases h2:Bq b p with
   |none=>rw[h1,h2]at h;cases h
   |some v=>
    rw[h1,h2]at h;cases h;exact .inr ⟨(p,v),hb.Abu.1 h2,by unfold Na;rw[h1]⟩
  |some u=>
   refine .inl ⟨(p,u),ha.Abu.1 h1,?_⟩;unfold Iz
   cases h2:Bq b p with
   |none=>rw[h1,h2]at h;cases h;rfl
   |some v=>
    rw[h1,h2]at h;dsimp only at h⊢;split at h
    ·cases h
    ·rename_i h3;cases h;rw[if_neg (fun e=>h3 e.symm)]
theorem AbR{l:List Ao}(h:l.Pairwise fun x y=>x.1≠y.1){g:Ao→Option Bz}(hg:∀f t,g f=some t→t.1=f.1):(l.filterMap g).Pairwise fun x y=>x.1≠y.1:=
 h.filterMap g fun x y hxy t ht u hu=>by rw[hg x t ht,hg y u hu];exact hxy
theorem Ako{a b:List Ao}(ha:Kq a)(hb:Kq b):(O3 a b).Pairwise fun x y=>x.1≠y.1:=by
 unfold O3;refine List.pairwise_append.2 ⟨AbR ha.ne fun _ _ h=>VN h,AbR hb.ne fun _ _ h=>(Um h).1,fun x hx y hy e=>?_⟩;obtain⟨f,hf,h1⟩:=List.mem_filterMap.1 hx;obtain⟨g,hg,h2⟩:=List.mem_filterMap.1 hy;obtain⟨h3,h4⟩:=Um h2;rw[←h3,←e,VN h1,ha.blob hf]at h4;cases h4
theorem Aig(a b:List Ao):(O3 a b).length≤a.length+b.length:=by
 unfold O3;rw[Qa6];exact Nat.add_le_add (Qc3 ..) (Qc3 ..)
theorem Abd{a b:List Ao}(ha:Kq a)(hb:Kq b){d:List Bz}(hp:d.Perm (O3 a b))(hs:d.Pairwise fun x y=>Op.bytesLess y.1 x.1=false):LR a b d:=by
 refine⟨?_,fun p k=>by rw[hp.mem_iff,Aiy ha hb]⟩
 have hn:d.Pairwise fun x y=>x.1≠y.1:=hp.symm.pairwise (Ako ha hb) fun h e=>h e.symm
 unfold Alo;refine(hs.and hn).imp ?_;rintro x y ⟨h1,h2⟩
 rcases Qo h2 with h3|h3
 ·exact h3
 ·rw[h3]at h1;cases h1
theorem G2{α:Type}[DecidableEq α]:∀{l m:List α},l.Nodup→(∀x∈l,x∈m)→l.length≤m.length
 |[],_,_,_=>Qd3 _
 |a::l,m,hn,hs=>by
  have h2:=List.nodup_cons.1 hn;have ha:=hs a (Qb1 ..)
  have ih:=G2 (m:=m.erase a) h2.2 fun x hx=>(Qh7 (show x≠a from fun e=>h2.1 (by rw[←e];exact hx))).2 (hs x (Qa7 _ hx))
  rw[Qg3 ha]at ih;have:=Qh1 ha;rw[Qa0];omega
abbrev Al:=List Int×(Int×List Ao)
def Bp(g:List Al)(c:Int):List Int:=(g.getD c.toNat ([],(0,[]))).1
def inR(g:List Al)(c:Int):Prop:=0≤c∧c<g.length
def XA(g:List Al):Prop:=∀c,inR g c→∀p∈Bp g c,inR g p
inductive Rch (g:List Al):Int→Int→Prop
 |refl (c:Int):Rch g c c
 |step {c p x:Int} (h:p∈Bp g c) (t:Rch g p x):Rch g c x
theorem Rch.trans{g:List Al}{a b c:Int}(h:Rch g a b)(k:Rch g b c):Rch g a c:=by
 induction h with
 |refl=>exact k
 |step h _ ih=>exact .step h (ih k)
theorem Rch.snoc{g:List Al}{a b p:Int}(h:Rch g a b)(k:p∈Bp g b):Rch g a p:=h.trans (.step k (.refl p))
theorem Rch.inR{g:List Al}(hv:XA g){a b:Int}(h:Rch g a b)(ha:inR g a):Go.VS.inR g b:=by
 induction h with
 |refl=>exact ha
 |step h _ ih=>exact ih (hv _ ha _ h)
def inS(s:List Bool)(x:Int):Prop:=s.getD x.toNat false=true
def Ty(s t:List Bool):Prop:=s.length=t.length∧∀i,s.getD i false=true→t.getD i false=true
theorem Ty.refl(s:List Bool):Ty s s:=⟨rfl,fun _ h=>h⟩
theorem Ty.trans{s t u:List Bool}(h:Ty s t)(k:Ty t u):Ty s u:=⟨h.1.trans k.1,fun i hi=>k.2 i (h.2 i hi)⟩
theorem Acu:∀{s t:List Bool},Ty s t→s.count true≤t.count true∧(s.count true=t.count true→s=t)
 |[],[],_=>⟨Qb4 _,fun _=>rfl⟩
 |[],_::_,h=>by cases h.1
 |_::_,[],h=>by cases h.1
 |a::s,b::t,h=>by
  have hr:Ty s t:=⟨by have:=h.1;simpa using this,fun i hi=>by have:=h.2 (i+1);simp only[List.getD_cons_succ]at this;exact this hi⟩
  have h0:=h.2 0;simp only[List.getD_cons_zero]at h0;obtain⟨h1,h2⟩:=Acu hr;rw[Qg9,Qg9]
  cases a<;>cases b<;>simp at h0⊢
  ·exact⟨h1,h2⟩
  ·exact⟨by omega,by omega⟩
  ·exact⟨h1,h2⟩
theorem AaE:∀{s:List Bool},s.length≤s.count true→∀i,i<s.length→s.getD i false=true
 |[],_,i,hi=>absurd hi (Qh0 _)
 |a::s,h,i,hi=>by
  rw[Qg9]at h;have hc:=Qf0 (a:=true) (l:=s);rw[Qa0]at h
  cases a with
  |false=>simp at h;omega
  |true=>
   cases i with
   |zero=>rfl
   |succ i=>
    simp only[beq_self_eq_true,if_true]at h;rw[List.getD_cons_succ];exact AaE (by omega) i (by simpa using hi)
theorem Ai0{s:List Bool}{i:Nat}(h:s.getD i false=true):s.set i true=s:=by
 refine AaH false (by rw[Qc9]) fun j hj=>?_
 rw[Qc9]at hj
 by_cases hi:i<s.length
 ·rw[C8 hi];split
  ·rename_i e;subst e;exact h.symm
  ·rfl
 ·rw[Qg4 (by omega)]
theorem TW{s:List Bool}{i:Nat}:Ty s (s.set i true):=by
 refine⟨by rw[Qc9],fun j hj=>?_⟩
 by_cases hi:i<s.length
 ·rw[C8 hi];split
  ·rfl
  ·exact hj
 ·rw[Qg4 (by omega)];exact hj
theorem ZI{s:List Bool}{p x:Int}(hp:p.toNat<s.length)(h0:0≤p)(hx:0≤x):inS (s.set p.toNat true) x↔x=p∨inS s x:=by
 unfold inS;rw[C8 hp];split
 ·rename_i e;exact⟨fun _=>.inl (by omega),fun _=>rfl⟩
 ·rename_i e;exact⟨.inr,fun h=>h.elim (fun h=>absurd (by rw[h]) e) id⟩
theorem Al9{s:List Bool}{x:Int}(h:inS s x):x.toNat<s.length:=by
 unfold inS at h
 by_cases hl:x.toNat<s.length
 ·exact hl
 ·rw[Qa1,List.getElem?_eq_none (by omega)]at h;cases h
def AhY(g:List Al)(s:List Bool):Prop:=∀c,inR g c→inS s c→∀p∈Bp g c,inS s p
theorem Akf{g:List Al}{s:List Bool}(hv:XA g)(hc:AhY g s){a b:Int}(h:Rch g a b)(ha:inR g a)(hs:inS s a):inS s b:=by
 induction h with
 |refl=>exact hs
 |step h _ ih=>exact ih (hv _ ha _ h) (hc _ ha hs _ h)
def Ahp(g:List Al)(fr:List Int)(s:List Bool):Prop:=s.length=g.length∧∀x,inR g x→(inS s x↔∃f∈fr,Rch g f x)
def AmF(g:List Al)(fr:List Int)(s:List Bool):Prop:=∀x,0≤x→inS s x→∃f∈fr,Rch g f x
def bsG(fr:List Int)(s:List Bool):Prop:=∀f∈fr,inS s f
theorem bsG.mono{fr:List Int}{s t:List Bool}(h:bsG fr s)(k:Ty s t):bsG fr t:=fun f hf=>k.2 _ (h f hf)
structure AfD(g:List Al)(fr:List Int)(S:List Bool)(c:Int)(s:List Bool):Prop where
 sub:Ty S s
 snd:AmF g fr s
 done:∀c',inR g c'→c'<c→inS S c'→∀p∈Bp g c',inS s p
 same:AhY g S→s=S
structure AnW(g:List Al)(fr:List Int)(S:List Bool)(c p:Int)(s:List Bool):Prop where
 rnd:AfD g fr S c s
 par:inS S c→∀q∈(Bp g c).take p.toNat,inS s q
def Ub(P:Pg):Prop:=∀x:List Al×List Int,x.1.length≤1000000→x.2.length≤1000000→XA x.1→(∀c,inR x.1 c→(Bp x.1 c).length≤1000000)→(∀f∈x.2,inR x.1 f)→Fn P AjX Fo x fun(d:List Bool) _=>Ahp x.1 x.2 d
theorem Aji(h:Has P Hn):Ub P:=by
 rintro⟨g,fr⟩ hn hm hv hpl hf;dsimp only at hn hm hv hpl hf;refine UY h ?_;unfold OR;dsimp only;refine⟨⟨Qa3 _,Qa2 _,by omega⟩,?_⟩;refine Ac.mid (fun s=>s.length=g.length∧bsG fr s∧AmF g fr s) ?_ ?_
 ·refine Au.of (fun q=>(0≤q.2∧q.2≤fr.length)∧q.1.length=g.length∧(∀j,j<q.2.toNat→inS q.1 (fr.getD j 0))∧∀x,0≤x→inS q.1 x→x∈fr) (fun q=>(fr.length -q.2).toNat) ⟨⟨Qa2 _,Qa3 _⟩,by simp,fun j hj=>absurd hj (by simp),fun x h0 hx=>by
   have hl:=Al9 hx;unfold inS at hx;rw[Nq (by simpa using hl)]at hx
   cases hx⟩ ?_
  rintro⟨s,i⟩ ⟨⟨i0,i1⟩,hsl,hb,hs⟩;dsimp only at i0 i1 hsl hb hs⊢;refine⟨fun hi=>?_,fun hi=>?_⟩
  ·have hi:=of_decide_eq_true hi
   have hi2:i.toNat<fr.length:=by omega
   have hfi:=hf _ (A7 (d:=0) hi2)
   have hfl:(fr.getD i.toNat 0).toNat<s.length:=by have:=hfi.1;have:=hfi.2;omega
   refine Ac.mid (fun t=>t=s.set (fr.getD i.toNat 0).toNat true) ⟨⟨i0,hi⟩,hi2,⟨hfi.1,by have:=hfi.2;omega⟩,hfl,rfl⟩ ?_
   rintro t rfl;rw[w64 (by omega) (by omega)];refine⟨⟨⟨by omega,by omega⟩,by rw[Qc9];exact hsl,fun j hj=>?_,fun x h0 hx=>?_⟩,by omega⟩
   ·by_cases e:j=i.toNat
    ·subst e;exact(ZI hfl hfi.1 hfi.1).2 (.inl rfl)
    ·exact TW.2 _ (hb j (by omega))
   ·rcases(ZI hfl hfi.1 h0).1 hx with rfl|hx
    ·exact A7 hi2
    ·exact hs x h0 hx
  ·have hi:=of_decide_eq_false hi;refine⟨hsl,fun f hf=>?_,fun x h0 hx=>⟨x,hs x h0 hx,.refl x⟩⟩;obtain⟨j,hj⟩:=Qb9 hf;obtain⟨hl,he⟩:=List.getElem?_eq_some_iff.1 hj;have:=hb j (by omega)
   rwa [getD_eq hl,he]at this
 rintro s0 ⟨hl0,hb0,hs0⟩
 refine Ac.mid (fun s=>Ahp g fr s) ?_ fun _ h=>h
 refine Au.of (fun q=>(0≤q.2∧q.2≤g.length)∧q.1.length=g.length∧bsG fr q.1∧AmF g fr q.1∧(AhY g q.1∨q.2.toNat≤q.1.count true)) (fun q=>(g.length -q.2).toNat) ⟨⟨Qa2 _,Qa3 _⟩,hl0,hb0,hs0,.inr (Qd3 _)⟩ ?_;rintro⟨S,r⟩ ⟨⟨r0,r1⟩,hSl,hSb,hSs,hSc⟩;dsimp only at r0 r1 hSl hSb hSs hSc⊢;refine⟨fun hr=>?_,fun hr=>?_⟩
 ·have hr:=of_decide_eq_true hr
  refine Ac.mid (fun s=>AfD g fr S g.length s) ?_ fun s hs=>?_
  ·refine Ac.mid (fun s=>AfD g fr S g.length s) ?_ fun _ h=>h
   refine Au.of (fun q=>(0≤q.2∧q.2≤g.length)∧AfD g fr S q.2 q.1) (fun q=>(g.length -q.2).toNat) ⟨⟨Qa2 _,Qa3 _⟩,⟨Ty.refl S,hSs,fun c' h1 h2=>absurd h2 (by have:=h1.1;omega),fun _=>rfl⟩⟩ ?_
   rintro⟨s,c⟩ ⟨⟨c0,c1⟩,hs⟩;dsimp only at c0 c1 hs⊢;refine⟨fun hc=>?_,fun hc=>?_⟩
   ·have hc:=of_decide_eq_true hc
    have hc2:c.toNat<g.length:=by omega
    have hcr:inR g c:=⟨c0,hc⟩
    have hpc:=hpl c hcr
    refine Ac.mid (fun s=>AfD g fr S (c+1) s) ?_ fun s hs=>?_
    ·refine Ac.mid (fun s=>AfD g fr S (c+1) s) ?_ fun _ h=>h
     show Au _ _;have hpe:(g.getD c.toNat ([],(0,[]))).1=Bp g c:=rfl;refine Au.of (fun q=>(0≤q.2∧q.2≤(Bp g c).length)∧AnW g fr S c q.2 q.1) (fun q=>((Bp g c).length -q.2).toNat) ⟨⟨Qa2 _,Qa3 _⟩,hs,fun _ q hq=>by simp at hq⟩ ?_;rintro⟨s,p⟩ ⟨⟨p0,p1⟩,hs⟩;dsimp only at p0 p1 hs⊢;have hsl:s.length=g.length:=hs.rnd.sub.1.symm.trans hSl
     refine⟨⟨c0,hc⟩,hc2,fun _=>⟨c0,by omega⟩,fun _=>by omega,fun hb=>?_,fun hb=>?_⟩
     ·rw[Qb5]at hb;split at hb
      ·rename_i h1;have h1:=of_decide_eq_true h1;have h1:p<(Bp g c).length:=h1;have h2:inS s c:=hb
       have hp2:p.toNat<(Bp g c).length:=by omega
       have hpm:(Bp g c).getD p.toNat 0∈Bp g c:=A7 hp2;have hpr:=hv c hcr _ hpm
       have hpl2:((Bp g c).getD p.toNat 0).toNat<s.length:=by have:=hpr.1;have:=hpr.2;omega
       have hlt:(Bp g c).getD p.toNat 0<((s.length:Nat):Int):=by have:=hpr.2;omega
       refine Ac.mid (fun t=>t=s.set ((Bp g c).getD p.toNat 0).toNat true) ⟨⟨c0,hc⟩,hc2,⟨p0,h1⟩,hp2,⟨hpr.1,hlt⟩,hpl2,rfl⟩ ?_;rintro t rfl;rw[w64 (by omega) (by omega)];refine⟨⟨⟨by omega,by omega⟩,⟨hs.rnd.sub.trans TW,fun x h0 hx=>?_,fun c' h3 h4 h5 q hq=>TW.2 _ (hs.rnd.done c' h3 h4 h5 q hq),fun hcl=>?_⟩,fun hSc q hq=>?_⟩,by omega⟩
       ·rcases(ZI hpl2 hpr.1 h0).1 hx with rfl|hx
        ·obtain⟨f,hf,hfc⟩:=hs.rnd.snd c c0 h2;exact⟨f,hf,hfc.snoc hpm⟩
        ·exact hs.rnd.snd x h0 hx
       ·have he:=hs.rnd.same hcl;subst he;exact Ai0 (hcl c hcr h2 _ hpm)
       ·rw[show(p+1).toNat=p.toNat+1 by omega,Qc4,Qa4 hp2]at hq
        rcases List.mem_append.1 hq with hq|hq
        ·exact TW.2 _ (hs.par hSc q hq)
        ·have:q=(Bp g c).getD p.toNat 0:=by rw[getD_eq hp2];simpa using hq
         rw[this];exact(ZI hpl2 hpr.1 hpr.1).2 (.inl rfl)
      ·cases hb
     ·refine⟨hs.rnd.sub,hs.rnd.snd,fun c' h1 h2 h3 q hq=>?_,hs.rnd.same⟩
      by_cases e:c'=c
      ·subst e;have hin:inS s c':=hs.rnd.sub.2 _ h3
       have hpe:¬p<(Bp g c').length:=fun h4=>by
        have h5:(decide (p<(((Bp g c').length:Nat):Int)))=true:=decide_eq_true h4;have hb:(cond (decide (p<(((Bp g c').length:Nat):Int))) (s.getD c'.toNat false) false)=false:=hb;rw[h5,cond_true]at hb;unfold inS at hin;rw[hin]at hb;cases hb
       have:=hs.par h3;rw[Qa9 (by omega)]at this;exact this q hq
      ·exact hs.rnd.done c' h1 (by omega) h3 q hq
    ·rw[w64 (by omega) (by omega)];exact⟨⟨⟨by omega,by omega⟩,hs⟩,by omega⟩
   ·have hc:=of_decide_eq_false hc;rw[show((g.length:Nat):Int)=c by omega];exact hs
  ·rw[w64 (by omega) (by omega)];refine⟨⟨⟨by omega,by omega⟩,hs.sub.1.symm.trans hSl,hSb.mono hs.sub,hs.snd,?_⟩,by omega⟩
   have hclo:s=S→AhY g s:=fun e c hc hin p hp=>hs.done c hc hc.2 (by rw[←e];exact hin) p hp
   obtain⟨h1,h2⟩:=Acu hs.sub
   rcases hSc with h|h
   ·exact .inl (hclo (hs.same h))
   ·by_cases e:S.count true=s.count true
    ·exact .inl (hclo (h2 e).symm)
    ·exact .inr (by omega)
 ·have hr:=of_decide_eq_false hr
  have hcl:AhY g S:=by
   rcases hSc with h|h
   ·exact h
   ·intro c hc hin p hp;have hpr:=hv c hc p hp;exact AaE (by omega) _ (by have:=hpr.1;have:=hpr.2;omega)
  refine⟨hSl,fun x hx=>⟨fun h=>hSs x hx.1 h,?_⟩⟩;rintro⟨f,hfm,hr⟩;exact Akf hv hcl hr (hf f hfm) (hSb f hfm)
def rng(n:Nat):List Int:=(Qd9 n).map fun(i:Nat)=>(i:Int)
theorem FG{n:Nat}{x:Int}:x∈rng n↔0≤x∧x<n:=by
 unfold rng;rw[List.mem_map];constructor
 ·rintro⟨i,hi,rfl⟩;have:=List.mem_range.1 hi;omega
 ·intro h;exact⟨x.toNat,List.mem_range.2 (by omega),by omega⟩
theorem Yf(n:Nat):(rng n).Nodup:=by
 unfold rng;rw[Qc2,Qe3]
 exact(List.nodup_iff_pairwise_ne.1 List.nodup_range).imp fun h e=>h (by omega)
theorem Mc(n:Nat):(rng n).length=n:=by simp[rng]
theorem AiV(n:Nat):rng (n+1)=rng n++[(n:Int)]:=by
 unfold rng;rw[List.range_succ,Qb3];rfl
def DH(g:List Al)(L:List Int)(p:Int):Nat:=(L.map fun c=>(Bp g c).count p).sum
def ndG(g:List Al):Prop:=∀c,inR g c→(Bp g c).Nodup
theorem Ah0(g:List Al)(L M:List Int)(p:Int):DH g (L++M) p=DH g L p+DH g M p:=by
 unfold DH;rw[Qb3,Qe9]
theorem AeP{g:List Al}{p:Int}:∀{L:List Int},(∀c∈L,(Bp g c).count p≤1)→DH g L p≤L.length
 |[],_=>Qb4 _
 |c::L,h=>by
  have h1:=h c (Qb1 ..)
  have h2:=AeP (g:=g) (p:=p) (L:=L) fun x hx=>h x (Qa7 _ hx)
  unfold DH at h2⊢;rw[Qb6,Qd7,Qa0];omega
theorem N6{g:List Al}{p:Int}:∀{L:List Int},DH g L p=0↔∀c∈L,p∉Bp g c
 |[]=>by simp[DH]
 |c::L=>by
  have ih:=N6 (g:=g) (p:=p) (L:=L)
  have hs:DH g (c::L) p=(Bp g c).count p+DH g L p:=by unfold DH;rw[Qb6,Qd7]
  rw[hs];constructor
  ·intro h x hx
   rcases List.mem_cons.1 hx with rfl|hx
   ·intro hm;have:=List.count_pos_iff.2 hm;omega
   ·exact ih.1 (by omega) x hx
  ·intro h;have h1:(Bp g c).count p=0:=List.count_eq_zero.2 (h c (Qb1 ..))
   have h2:=ih.2 fun x hx=>h x (Qa7 _ hx)
   omega
def Jo(g:List Al)(Q:List Int):List Int:=(rng g.length).filter fun c=>!decide (c∈Q)
theorem TO{g:List Al}{Q:List Int}{c:Int}:c∈Jo g Q↔inR g c∧c∉Q:=by
 unfold Jo;rw[List.mem_filter,FG];simp[inR]
theorem UE(g:List Al)(Q:List Int)(c p:Int)(hq:c∉Q):∀{R:List Int},R.Nodup→c∈R→DH g (R.filter fun x=>!decide (x∈Q)) p=DH g (R.filter fun x=>!decide (x∈Q++[c])) p+(Bp g c).count p
 |[],_,h=>nomatch h
 |a::R,hn,h=>by
  have hn2:=List.nodup_cons.1 hn
  by_cases e:a=c
  ·subst e
   have hsame:(R.filter fun x=>!decide (x∈Q++[a]))=R.filter fun x=>!decide (x∈Q):=by
    refine List.filter_congr fun x hx=>?_
    have hxa:x≠a:=fun e=>hn2.1 (by rw[←e];exact hx)
    simp[hxa]
   rw[Qe0 (by simpa using hq),Qe1 (by simp),hsame];unfold DH;rw[Qb6,Qd7];omega
  ·have hc:c∈R:=(List.mem_cons.1 h).resolve_left fun h=>e h.symm
   have ih:=UE g Q c p hq hn2.2 hc
   by_cases ha:a∈Q
   ·rw[Qe1 (by simpa using ha),Qe1 (by simp[ha])];exact ih
   ·rw[Qe0 (by simpa using ha),Qe0 (by simp[ha,e])];unfold DH at ih⊢;rw[Qb6,Qd7,Qb6,Qd7];omega
theorem AfV{g:List Al}{Q:List Int}{c:Int}(p:Int)(hq:c∉Q)(hc:inR g c):DH g (Jo g Q) p=DH g (Jo g (Q++[c])) p+(Bp g c).count p:=
 UE g Q c p hq (Yf _) (FG.2 hc)
theorem Ala(g:List Al):Jo g []=rng g.length:=by
 unfold Jo;rw[List.filter_eq_self];intro a _;simp
structure UpG(g:List Al)(d:List Int):Prop where
 nd:d.Nodup
 rn:∀p∈d,inR g p
 ord:∀i,i<d.length→∀c,inR g c→d.getD i 0∈Bp g c→c∈d.take i
 rem:∀p,inR g p→p∉d→∃c,inR g c∧c∉d∧p∈Bp g c
def Ov(g:List Al):Prop:=∃c,inR g c∧∃p∈Bp g c,Rch g p c
theorem UpG.len{g:List Al}{d:List Int}(h:UpG g d):d.length≤g.length:=by
 have:=G2 h.nd (m:=rng g.length) fun x hx=>FG.2 (h.rn x hx)
 rwa [Mc]at this
theorem UpG.all{g:List Al}{d:List Int}(h:UpG g d)(hl:g.length≤d.length){p:Int}(hp:inR g p):p∈d:=by
 by_cases e:p∈d
 ·exact e
 ·have:=G2 h.nd (m:=(rng g.length).erase p) fun x hx=>(Qh7 (show x≠p from fun e2=>e (by rw[←e2];exact hx))).2 (FG.2 (h.rn x hx))
  have hm:=FG.2 hp;rw[Qg3 hm,Mc]at this;have:=hp.1;have:=hp.2;omega
theorem AaJ{g:List Al}{d:List Int}(h:UpG g d):∀(m:Nat) (x:Int) (L:List Int),g.length -(x::L).length<m→(x::L).Nodup→(∀y∈x::L,inR g y∧Rch g x y)→x∉d→Ov g
 |0,_,_,h0,_,_,_=>absurd h0 (Qh0 _)
 |m+1,x,L,hm,hn,hr,hx=>by
  obtain⟨c,hc,hcd,hp⟩:=h.rem x (hr x (Qb1 ..)).1 hx
  by_cases e:c∈x::L
  ·exact⟨c,hc,x,hp,(hr c e).2⟩
  ·have hl:=G2 (List.nodup_cons.2 ⟨e,hn⟩) (m:=rng g.length) fun y hy=>by
    rcases List.mem_cons.1 hy with rfl|hy
    ·exact FG.2 hc
    ·exact FG.2 (hr y hy).1
   rw[Mc]at hl;simp only[Qa0]at hl hm;refine AaJ h m c (x::L) (by simp only[Qa0];omega) (List.nodup_cons.2 ⟨e,hn⟩) (fun y hy=>?_) hcd
   rcases List.mem_cons.1 hy with rfl|hy
   ·exact⟨hc,.refl _⟩
   ·exact⟨(hr y hy).1,.step hp (hr y hy).2⟩
theorem AmY{g:List Al}{d:List Int}(hv:XA g)(h:UpG g d):d.length<g.length↔Ov g:=by
 constructor
 ·intro hl
  have:∃p,inR g p∧p∉d:=by
   by_cases e:∃p,inR g p∧p∉d
   ·exact e
   ·have:=G2 (Yf g.length) (m:=d) fun x hx=>by
     by_cases e2:x∈d
     ·exact e2
     ·exact absurd ⟨x,FG.1 hx,e2⟩ e
    rw[Mc]at this;omega
  obtain⟨p,hp,hpd⟩:=this;refine AaJ h (g.length+1) p [] (by simp only[Qa0,Qa5];omega) (by simp) (fun y hy=>?_) hpd
  rw[List.mem_singleton.1 hy];exact⟨hp,.refl _⟩
 ·rintro⟨c,hc,p,hp,hr⟩
  by_cases hl:d.length<g.length
  ·exact hl
  exfalso
  have hall:=fun{x:Int} (hx:inR g x)=>h.all (by omega) hx
  have hidx:∀{x:Int},inR g x→∃i,∃hi:i<d.length,d[i]=x:=fun hx=>Qf5 (hall hx)
  have hinj:∀{i j:Nat} (hi:i<d.length) (hj:j<d.length),d[i]=d[j]→i=j:=fun{i j} hi hj e=>by
   have hpw:=List.pairwise_iff_getElem.1 (List.nodup_iff_pairwise_ne.1 h.nd)
   rcases Nat.lt_trichotomy i j with h1|h1|h1
   ·exact absurd e (hpw i j hi hj h1)
   ·exact h1
   ·exact absurd e.symm (hpw j i hj hi h1)
  have hstep:∀{a b:Int} {i j:Nat} (hi:i<d.length) (hj:j<d.length),inR g a→d[i]=a→d[j]=b→b∈Bp g a→i<j:=fun{a b i j} hi hj ha e1 e2 hb=>by
   have h1:=h.ord j hj a ha (by rw[getD_eq hj,e2];exact hb)
   obtain⟨k,hk,hke⟩:=Qf5 h1;rw[List.getElem_take]at hke
   have hk2:k<j∧k<d.length:=by rw[Qb0]at hk;omega
   have:=hinj hk2.2 hi (by rw[hke,e1]);omega
  have hmono:∀{a b:Int},Rch g a b→inR g a→∀{i j:Nat} (hi:i<d.length) (hj:j<d.length),d[i]=a→d[j]=b→i≤j:=by
   intro a b hab
   induction hab with
   |refl c=>intro _ i j hi hj e1 e2;exact Nat.le_of_eq (hinj hi hj (by rw[e1,e2]))
   |step hq _ ih=>
    intro ha i j hi hj e1 e2;have hqr:=hv _ ha _ hq;obtain⟨k,hk,hke⟩:=hidx hqr;have h1:=hstep hi hk ha e1 hke hq;have h2:=ih hqr hk hj hke e2;omega
  have hpr:=hv c hc p hp;obtain⟨i,hi,hie⟩:=hidx hc;obtain⟨j,hj,hje⟩:=hidx hpr;have h1:=hstep hi hj hc hie hje hp;have h2:=hmono hr hpr hj hi hje hie;omega
structure Up3(g:List Al)(ch out:List Int)(k:Nat):Prop where
 len:ch.length=g.length
 cnt:∀p,inR g p→ch.getD p.toNat 0=((DH g (Jo g (out.take k)) p:Nat):Int)
 mem:∀p,inR g p→(p∈out↔ch.getD p.toNat 0=0)
 rn:∀p∈out,inR g p
 nd:out.Nodup
 ord:∀i,i<out.length→∀c,inR g c→out.getD i 0∈Bp g c→c∈out.take i
 kl:k≤out.length
structure Up4(g:List Al)(c:Int)(Q ch out:List Int)(k j:Nat):Prop where
 len:ch.length=g.length
 cnt:∀p,inR g p→ch.getD p.toNat 0=((DH g (Jo g Q) p+((Bp g c).drop j).count p:Nat):Int)
 mem:∀p,inR g p→(p∈out↔ch.getD p.toNat 0=0)
 rn:∀p∈out,inR g p
 nd:out.Nodup
 ord:∀i,i<out.length→∀c,inR g c→out.getD i 0∈Bp g c→c∈out.take i
 pre:out.take (k+1)=Q
 kl:k<out.length
theorem ZE{g:List Al}{out:List Int}(nd:out.Nodup)(rn:∀p∈out,inR g p):out.length≤g.length:=by
 have:=G2 nd (m:=rng g.length) fun x hx=>FG.2 (rn x hx)
 rwa [Mc]at this
theorem Aki{l:List Int}(hn:l.Nodup){j:Nat}(hj:j<l.length):l.drop j=l.getD j 0::l.drop (j+1)∧(l.drop (j+1)).count (l.getD j 0)=0:=by
 have h1:l.drop j=l.getD j 0::l.drop (j+1):=by rw[Qc0 hj,getD_eq hj]
 refine⟨h1,List.count_eq_zero.2 ?_⟩;have h2:(l.drop j).Nodup:=List.Nodup.sublist (List.drop_sublist j l) hn;rw[h1]at h2;exact(List.nodup_cons.1 h2).1
def RA(P:Pg):Prop:=∀g:List Al,g.length≤1000000→XA g→ndG g→(∀c,inR g c→(Bp g c).length≤1000000)→Fn P AjT Ga g fun(d:List Int) _=>UpG g d
theorem Ag6(h:Has P H4):RA P:=by
 intro g hn hv hnd hpl;refine Ws h ?_;unfold P8;dsimp only;refine⟨⟨Qa3 _,Qa2 _,by omega⟩,?_⟩
 have hc1:∀(L:List Int) (p:Int),(∀c∈L,inR g c)→DH g L p≤L.length:=fun L p hL=>AeP fun c hc=>List.nodup_iff_count.1 (hnd c (hL c hc)) p
 have hrl:∀(i:Nat) (p:Int),i≤g.length→DH g (rng i) p≤i:=fun i p hi=>by
  have:=hc1 (rng i) p fun c hc=>⟨(FG.1 hc).1,by have:=(FG.1 hc).2;omega⟩
  rwa [Mc]at this
 refine Ac.mid (fun ch=>ch.length=g.length∧∀p,inR g p→ch.getD p.toNat 0=((DH g (rng g.length) p:Nat):Int)) ?_ ?_
 ·refine Au.of (fun q=>(0≤q.2∧q.2≤g.length)∧q.1.length=g.length∧∀p,inR g p→q.1.getD p.toNat 0=((DH g (rng q.2.toNat) p:Nat):Int)) (fun q=>(g.length -q.2).toNat) ⟨⟨Qa2 _,Qa3 _⟩,by simp,fun p hp=>by
   rw[Nq (by have:=hp.1;have:=hp.2;omega)];rfl⟩ ?_
  rintro⟨ch,i⟩ ⟨⟨i0,i1⟩,hl,hcn⟩;dsimp only at i0 i1 hl hcn⊢;refine⟨fun hi=>?_,fun hi=>?_⟩
  ·have hi:=of_decide_eq_true hi
   have hi2:i.toNat<g.length:=by omega
   have hir:inR g i:=⟨i0,hi⟩
   have hpc:=hpl i hir
   have hit:((i.toNat:Nat):Int)=i:=by omega
   refine Ac.mid (fun ch=>ch.length=g.length∧∀p,inR g p→ch.getD p.toNat 0=((DH g (rng (i.toNat+1)) p:Nat):Int)) ⟨⟨i0,hi⟩,hi2,?_⟩ ?_
   ·refine Ac.mid (fun ch=>ch.length=g.length∧∀p,inR g p→ch.getD p.toNat 0=((DH g (rng (i.toNat+1)) p:Nat):Int)) ?_ fun _ h=>h
    have hnx:∀p,DH g (rng (i.toNat+1)) p=DH g (rng i.toNat) p+(Bp g i).count p:=fun p=>by
     rw[AiV,Ah0,hit];unfold DH;simp
    show Au _ _
    refine Au.of (fun q=>(0≤q.2∧q.2≤(Bp g i).length)∧q.1.length=g.length∧∀p,inR g p→q.1.getD p.toNat 0=((DH g (rng i.toNat) p+((Bp g i).take q.2.toNat).count p:Nat):Int)) (fun q=>((Bp g i).length -q.2).toNat) ⟨⟨Qa2 _,Qa3 _⟩,hl,fun p hp=>by
     rw[hcn p hp];rfl⟩ ?_
    rintro⟨ch,j⟩ ⟨⟨j0,j1⟩,hl,hcn⟩;dsimp only at j0 j1 hl hcn⊢;refine⟨fun hj=>?_,fun hj=>?_⟩
    ·have hj:j<(Bp g i).length:=of_decide_eq_true hj
     have hj2:j.toNat<(Bp g i).length:=by omega
     have hqm:(Bp g i).getD j.toNat 0∈Bp g i:=A7 hj2
     have htk:(Bp g i).take (j.toNat+1)=(Bp g i).take j.toNat++[(Bp g i).getD j.toNat 0]:=by
      rw[Qe6 hj2,getD_eq hj2]
     have hqr:=hv i hir _ hqm;have hcq:=hcn _ hqr;have hd1:=hrl i.toNat ((Bp g i).getD j.toNat 0) (by omega);have hd2:((Bp g i).take j.toNat).count ((Bp g i).getD j.toNat 0)≤1000000:=Qc8 Qf0 (by rw[Qb0];omega)
     show Ac _ _;have hqe:(g.getD i.toNat Ag).1.getD j.toNat 0=(Bp g i).getD j.toNat 0:=rfl;rw[hqe];generalize(Bp g i).getD j.toNat 0=q at hqm htk hqr hcq hd1 hd2⊢
     have hql:q.toNat<ch.length:=by have:=hqr.1;have:=hqr.2;omega
     have hqlt:q<((ch.length:Nat):Int):=by have:=hqr.2;omega
     refine Ac.mid (fun t=>t=ch.set q.toNat (ch.getD q.toNat 0+1)) ⟨⟨j0,hj⟩,hj2,⟨hqr.1,hqlt⟩,hql,⟨hqr.1,hqlt⟩,hql,by rw[w64 (by omega) (by omega)]⟩ ?_;rintro t rfl;rw[w64 (by omega) (by omega)];refine⟨⟨⟨by omega,by omega⟩,by rw[Qc9];exact hl,fun p hp=>?_⟩,by omega⟩
     rw[C8 hql,show(j+1).toNat=j.toNat+1 by omega,htk,Qc1,List.count_singleton];have hp0:=hp.1;have hq0:=hqr.1
     by_cases e:p=q
     ·subst e;rw[if_pos rfl,hcq];simp;omega
     ·rw[if_neg (by omega),hcn p hp]
      have:(q==p)=false:=beq_eq_false_iff_ne.2 fun h=>e h.symm
      rw[this];simp
    ·have hj:¬j<(Bp g i).length:=of_decide_eq_false hj;refine⟨hl,fun p hp=>?_⟩;rw[hcn p hp,Qa9 (by omega),hnx]
   ·rintro t ⟨ht,htc⟩;rw[w64 (by omega) (by omega)];exact⟨⟨⟨by omega,by omega⟩,ht,by rw[show(i+1).toNat=i.toNat+1 by omega];exact htc⟩,by omega⟩
  ·have hi:=of_decide_eq_false hi;rw[show i.toNat=g.length by omega]at hcn;exact⟨hl,hcn⟩
 rintro ch ⟨hl,hcn⟩;refine Ac.mid (fun out=>Up3 g ch out 0) ?_ ?_
 ·refine Au.of (fun q=>(0≤q.2∧q.2≤g.length)∧q.1.Nodup∧∀x,x∈q.1↔(0≤x∧x<q.2)∧ch.getD x.toNat 0=0) (fun q=>(g.length -q.2).toNat) ⟨⟨Qa2 _,Qa3 _⟩,List.nodup_nil,fun x=>⟨fun h=>(nomatch h),fun h=>by have:=h.1.1;have:=h.1.2;omega⟩⟩ ?_
  rintro⟨out,i⟩ ⟨⟨i0,i1⟩,hnd2,hm⟩;dsimp only at i0 i1 hnd2 hm⊢
  have hol:out.length≤g.length:=ZE hnd2 fun p hp=>⟨((hm p).1 hp).1.1,by have:=((hm p).1 hp).1.2;omega⟩
  refine⟨fun hi=>?_,fun hi=>?_⟩
  ·have hi:=of_decide_eq_true hi
   have hi2:i.toNat<ch.length:=by omega
   refine Ac.mid (fun t=>t.Nodup∧∀x,x∈t↔(0≤x∧x<i+1)∧ch.getD x.toNat 0=0) ⟨⟨i0,hi⟩,hi2,?_⟩ fun t ht=>?_
   ·refine Ac.mid (fun t=>t.Nodup∧∀x,x∈t↔(0≤x∧x<i+1)∧ch.getD x.toNat 0=0) ⟨fun hz=>⟨by simp only[Qa0,Qa5];omega,?_,fun x=>?_⟩,fun hz=>⟨hnd2,fun x=>?_⟩⟩ fun _ h=>h
    ·rw[Qe4];refine⟨hnd2,by simp,fun a ha b hb e=>?_⟩;rw[Qd2]at hb;have:=((hm a).1 ha).1.2;omega
    ·have hz:ch.getD i.toNat 0=0:=by simpa using hz
     rw[Qd8,Qd2,hm x];constructor
     ·rintro(⟨h1,h2⟩|rfl)
      ·exact⟨⟨h1.1,by omega⟩,h2⟩
      ·exact⟨⟨i0,by omega⟩,hz⟩
     ·rintro⟨h1,h2⟩
      by_cases e:x=i
      ·exact .inr e
      ·exact .inl ⟨⟨h1.1,by omega⟩,h2⟩
    ·have hz:ch.getD i.toNat 0≠0:=by simpa using hz
     rw[hm x];constructor
     ·rintro⟨h1,h2⟩;exact⟨⟨h1.1,by omega⟩,h2⟩
     ·rintro⟨h1,h2⟩
      by_cases e:x=i
      ·exact absurd (by rw[←e];exact h2) hz
      ·exact⟨⟨h1.1,by omega⟩,h2⟩
   ·rw[w64 (by omega) (by omega)];exact⟨⟨⟨by omega,by omega⟩,ht⟩,by omega⟩
  ·have hi:=of_decide_eq_false hi;refine⟨hl,fun p hp=>?_,fun p hp=>?_,fun p hp=>?_,hnd2,fun k hk c hc hp=>?_,Qd3 _⟩
   ·rw[hcn p hp,List.take_zero,Ala]
   ·rw[hm p];exact⟨fun h=>h.2,fun h=>⟨⟨hp.1,by have:=hp.2;omega⟩,h⟩⟩
   ·exact⟨((hm p).1 hp).1.1,by have:=((hm p).1 hp).1.2;omega⟩
   ·have hz:=((hm _).1 (A7 (d:=(0:Int)) hk)).2
    have hr:inR g (out.getD k 0):=⟨((hm _).1 (A7 (d:=(0:Int)) hk)).1.1,by have:=((hm _).1 (A7 (d:=(0:Int)) hk)).1.2;omega⟩
    rw[hcn _ hr]at hz
    have hz2:DH g (rng g.length) (out.getD k 0)=0:=by omega
    exact absurd hp (N6.1 hz2 c (FG.2 hc))
 intro out0 hU0
 refine Ac.mid (fun out=>UpG g out) ?_ fun _ h=>h
 refine Au.of (fun q=>0≤q.2.2∧Up3 g q.1 q.2.1 q.2.2.toNat) (fun q=>(g.length -q.2.2).toNat) ⟨Qa2 _,hU0⟩ ?_;rintro⟨ch,out,k⟩ ⟨k0,hU⟩;dsimp only at k0 hU⊢;have hol:=ZE hU.nd hU.rn;have hkl:=hU.kl;refine⟨fun hk=>?_,fun hk=>?_⟩
 ·have hk:=of_decide_eq_true hk
  have hk2:k.toNat<out.length:=by omega
  have hcm:out.getD k.toNat 0∈out:=A7 hk2;have hcr:=hU.rn _ hcm
  have hpre:out.take (k.toNat+1)=out.take k.toNat++[out.getD k.toNat 0]:=by rw[Qe6 hk2,getD_eq hk2]
  have hcn2:out.getD k.toNat 0∉out.take k.toNat:=fun hm=>by
   have h2:(out.take (k.toNat+1)).Nodup:=List.Nodup.sublist (List.take_sublist _ _) hU.nd;rw[hpre,Qe4]at h2;exact h2.2.2 _ hm _ (List.mem_singleton.2 rfl) rfl
  generalize hc:out.getD k.toNat 0=c at hcm hcr hpre hcn2
  have hcl:c.toNat<g.length:=by have:=hcr.1;have:=hcr.2;omega
  have hpc:=hpl c hcr
  refine Ac.mid (fun q=>Up3 g q.1 q.2 (k.toNat+1)) ⟨⟨k0,hk⟩,hk2,?_⟩ fun q hq=>?_
  ·refine⟨⟨hcr.1,hcr.2⟩,hcl,?_⟩
   refine Ac.mid (fun q=>Up3 g q.1 q.2 (k.toNat+1)) ?_ fun _ h=>h
   show Au _ _;refine Au.of (fun q=>(0≤q.2.2∧q.2.2≤(Bp g c).length)∧Up4 g c (out.take (k.toNat+1)) q.1 q.2.1 k.toNat q.2.2.toNat) (fun q=>((Bp g c).length -q.2.2).toNat) ⟨⟨Qa2 _,Qa3 _⟩,hU.len,fun p hp=>?_,hU.mem,hU.rn,hU.nd,hU.ord,rfl,hk2⟩ ?_
   ·rw[hU.cnt p hp,AfV p hcn2 hcr,←hpre];rfl
   rintro⟨ch,out',j⟩ ⟨⟨j0,j1⟩,hV⟩;dsimp only at j0 j1 hV⊢;have hol':=ZE hV.nd hV.rn;refine⟨fun hj=>?_,fun hj=>?_⟩
   ·have hj:j<(Bp g c).length:=of_decide_eq_true hj
    have hj2:j.toNat<(Bp g c).length:=by omega
    have hqm:(Bp g c).getD j.toNat 0∈Bp g c:=A7 hj2;have hqr:=hv c hcr _ hqm;obtain⟨hdr,hdz⟩:=Aki (hnd c hcr) hj2;show Ac _ _;have hqe:(g.getD c.toNat Ag).1.getD j.toNat 0=(Bp g c).getD j.toNat 0:=rfl;rw[hqe];generalize(Bp g c).getD j.toNat 0=q at hqm hqr hdr hdz⊢
    have hql:q.toNat<ch.length:=by have:=hqr.1;have:=hqr.2;have:=hV.len;omega
    have hqlt:q<((ch.length:Nat):Int):=by have:=hqr.2;have:=hV.len;omega
    have hcq:=hV.cnt q hqr
    have hdb:DH g (Jo g (out.take (k.toNat+1))) q≤g.length:=by
     refine Qc8 (hc1 _ q fun x hx=>(TO.1 hx).1) ?_;unfold Jo;exact Qc8 (List.length_filter_le ..) (by rw[Mc];exact Qb4 _)
    rw[hdr,Qh6,hdz]at hcq
    have hw:IntKind.i64.wrap (ch.getD q.toNat 0 -1)=((DH g (Jo g (out.take (k.toNat+1))) q:Nat):Int):=by rw[w64 (by omega) (by omega)];omega
    rw[hw]
    have hgs:(ch.set q.toNat ((DH g (Jo g (out.take (k.toNat+1))) q:Nat):Int)).getD q.toNat 0=((DH g (Jo g (out.take (k.toNat+1))) q:Nat):Int):=by rw[C8 hql,if_pos rfl]
    rw[hgs];have hls:(ch.set q.toNat ((DH g (Jo g (out.take (k.toNat+1))) q:Nat):Int)).length=ch.length:=Qc9
    have hqno:q∉out':=fun hm=>by
     have:=(hV.mem q hqr).1 hm;omega
    have hcnt:∀p,inR g p→(ch.set q.toNat ((DH g (Jo g (out.take (k.toNat+1))) q:Nat):Int)).getD p.toNat 0=((DH g (Jo g (out.take (k.toNat+1))) p+((Bp g c).drop (j.toNat+1)).count p:Nat):Int):=fun p hp=>by
     rw[C8 hql];have hp0:=hp.1;have hq0:=hqr.1
     by_cases e:p=q
     ·subst e;rw[if_pos rfl,hdz];rfl
     ·rw[if_neg (by omega),hV.cnt p hp,hdr,Qh2 (fun h=>e h.symm)]
    have hgo:∀p,inR g p→p≠q→(ch.set q.toNat ((DH g (Jo g (out.take (k.toNat+1))) q:Nat):Int)).getD p.toNat 0=ch.getD p.toNat 0:=fun p hp e=>by
     rw[C8 hql];have hp0:=hp.1;have hq0:=hqr.1;rw[if_neg (by omega)]
    have hkl:=hV.kl
    have hqp:∀c',inR g c'→DH g (Jo g (out.take (k.toNat+1))) q=0→q∈Bp g c'→c'∈out':=fun c' hc' hz hq=>by
     by_cases e:c'∈out.take (k.toNat+1)
     ·rw[←hV.pre]at e;exact Qf2 e
     ·exact absurd hq (N6.1 hz c' (TO.2 ⟨hc',e⟩))
    generalize hch:ch.set q.toNat ((DH g (Jo g (out.take (k.toNat+1))) q:Nat):Int)=ch' at*;refine Ac.mid (fun d=>Up4 g c (out.take (k.toNat+1)) d.1 d.2 k.toNat (j.toNat+1)) ⟨⟨j0,hj⟩,hj2,⟨hqr.1,hqlt⟩,hql,⟨hqr.1,hqlt⟩,hql,⟨hqr.1,by rw[hls];exact hqlt⟩,by rw[hls];exact hql,?_⟩ ?_
    ·refine Ac.mid (fun d=>Up4 g c (out.take (k.toNat+1)) ch' d k.toNat (j.toNat+1)) ⟨fun hz=>⟨by simp only[Qa0,Qa5];omega,?_⟩,fun hz=>?_⟩ fun _ h=>h
     ·have hz:DH g (Jo g (out.take (k.toNat+1))) q=0:=by
       have:((DH g (Jo g (out.take (k.toNat+1))) q:Nat):Int)=0:=beq_iff_eq.1 hz;omega
      refine⟨by rw[hls];exact hV.len,hcnt,fun p hp=>?_,fun p hp=>?_,?_,fun i hi c' hc' hp=>?_,?_,by rw[Qa6];omega⟩
      ·rw[Qd8,Qd2]
       by_cases e:p=q
       ·subst e;exact⟨fun _=>by rw[hgs,hz];rfl,fun _=>.inr rfl⟩
       ·rw[hgo p hp e,←hV.mem p hp];exact⟨fun h=>h.resolve_right e,.inl⟩
      ·rcases List.mem_append.1 hp with hp|hp
       ·exact hV.rn p hp
       ·rw[List.mem_singleton.1 hp];exact hqr
      ·rw[Qe4];refine⟨hV.nd,by simp,fun a ha b hb e=>?_⟩;rw[Qd2]at hb;exact hqno (by rw[←hb,←e];exact ha)
      ·by_cases e:i<out'.length
       ·rw[RU e]at hp;rw[Qd4 (by omega)];exact hV.ord i e c' hc' hp
       ·rw[Qa6]at hi;simp only[Qa0,Qa5]at hi
        obtain rfl:i=out'.length:=by omega
        rw[Ve]at hp;rw[Qd4 (Qb4 _),List.take_length];exact hqp c' hc' hz hp
      ·rw[Qd4 (by omega)];exact hV.pre
     ·have hz:((DH g (Jo g (out.take (k.toNat+1))) q:Nat):Int)≠0:=by simpa using hz
      refine⟨by rw[hls];exact hV.len,hcnt,fun p hp=>?_,hV.rn,hV.nd,hV.ord,hV.pre,hV.kl⟩
      by_cases e:p=q
      ·subst e;exact⟨fun h=>absurd h hqno,fun h=>absurd (by rw[hgs]at h;exact h) hz⟩
      ·rw[hgo p hp e];exact hV.mem p hp
    ·rintro⟨ch2,o⟩ hq;rw[w64 (by omega) (by omega)];exact⟨⟨⟨by omega,by omega⟩,by rw[show(j+1).toNat=j.toNat+1 by omega];exact hq⟩,by omega⟩
   ·have hj:¬j<(Bp g c).length:=of_decide_eq_false hj;refine⟨hV.len,fun p hp=>?_,hV.mem,hV.rn,hV.nd,hV.ord,hV.kl⟩;rw[hV.cnt p hp,Qc7 (by omega),hV.pre];rfl
  ·rw[w64 (by omega) (by omega)];exact⟨⟨by omega,by rw[show(k+1).toNat=k.toNat+1 by omega];exact hq⟩,by omega⟩
 ·have hk:=of_decide_eq_false hk;refine⟨hU.nd,hU.rn,hU.ord,fun p hp hpo=>?_⟩
  have h1:ch.getD p.toNat 0≠0:=fun h=>hpo ((hU.mem p hp).2 h)
  rw[hU.cnt p hp,Qa9 (by omega)]at h1
  have h2:¬DH g (Jo g out) p=0:=by omega
  rw[N6]at h2
  by_cases e:∃c,inR g c∧c∉out∧p∈Bp g c
  ·exact e
  ·exact absurd (fun c hc hpc=>e ⟨c,(TO.1 hc).1,(TO.1 hc).2,hpc⟩) h2
def Kp(g:List Al):Prop:=g.length≤300∧∀c∈g,c.1.length≤32
def S9(n:Nat)(l:List Int)(j:Nat):Prop:=(0≤l.getD j 0∧l.getD j 0<(n:Int))∧l.getD j 0∉l.take j
def Tu(n:Nat)(l:List Int):Prop:=∀j,j<l.length→S9 n l j
def Jl(g:List Al):Prop:=∀c∈g,Tu g.length c.1
def RL(g:List Al):Prop:=∀c∈g,0≤c.2.1∧c.2.1≤2147483647
def GO:List Al→Int
 |[]=>0
 |c::g=>if Dq c.2.2≠0 then Dq c.2.2 else GO g
def GK(g:List Al)(e:Int):Prop:=(¬Kp g→e=1)∧(Kp g→¬Jl g→e=230)∧(Kp g→Jl g→Ov g→e=231)∧(Kp g→Jl g→¬Ov g→¬RL g→e=3)∧(Kp g→Jl g→¬Ov g→RL g→e=GO g)
theorem AdF{g:List Al}{e d:Int}(h:GK g e)(k:GK g d):e=d:=by
 by_cases h1:Kp g
 ·by_cases h2:Jl g
  ·by_cases h3:Ov g
   ·rw[h.2.2.1 h1 h2 h3,k.2.2.1 h1 h2 h3]
   ·by_cases h4:RL g
    ·rw[h.2.2.2.2 h1 h2 h3 h4,k.2.2.2.2 h1 h2 h3 h4]
    ·rw[h.2.2.2.1 h1 h2 h3 h4,k.2.2.2.1 h1 h2 h3 h4]
  ·rw[h.2.1 h1 h2,k.2.1 h1 h2]
 ·rw[h.1 h1,k.1 h1]
theorem AdE{g:List Al}(h:¬Kp g):GK g 1:=⟨fun _=>rfl,fun k=>absurd k h,fun k=>absurd k h,fun k=>absurd k h,fun k=>absurd k h⟩
theorem Aiq{g:List Al}(k:Kp g)(h:¬Jl g):GK g 230:=⟨fun h=>absurd k h,fun _ _=>rfl,fun _ k=>absurd k h,fun _ k=>absurd k h,fun _ k=>absurd k h⟩
theorem Air{g:List Al}(k:Kp g)(k2:Jl g)(h:Ov g):GK g 231:=⟨fun h=>absurd k h,fun _ h=>absurd k2 h,fun _ _ _=>rfl,fun _ _ k=>absurd h k,fun _ _ k=>absurd h k⟩
theorem Ais{g:List Al}(k:Kp g)(k2:Jl g)(h:¬Ov g)(h4:¬RL g):GK g 3:=⟨fun h=>absurd k h,fun _ h=>absurd k2 h,fun _ _ k=>absurd k h,fun _ _ _ _=>rfl,fun _ _ _ k=>absurd k h4⟩
theorem Vl{g:List Al}(k:Kp g)(k2:Jl g)(h:¬Ov g)(h4:RL g){e:Int}(he:e=GO g):GK g e:=⟨fun h=>absurd k h,fun _ h=>absurd k2 h,fun _ _ k=>absurd k h,fun _ _ _ k=>absurd h4 k,fun _ _ _ _=>he⟩
theorem DX{g:List Al}{i:Nat}(hi:i<g.length):g.getD i ([],(0,[]))∈g:=A7 hi
theorem Ab6{g:List Al}{i j:Nat}(hi:i<g.length)(hj:j<(g.getD i ([],(0,[]))).1.length)(h:¬S9 g.length (g.getD i ([],(0,[]))).1 j):¬Jl g:=fun k=>h (k _ (DX hi) j hj)
theorem CT{α:Type}{l:List α}{d:α}{p:α→Prop}(h:∀j,j<l.length→p (l.getD j d)):∀x∈l,p x:=by
 intro x hx;obtain⟨j,hj⟩:=Qb9 hx;have hl:j<l.length:=(List.getElem?_eq_some_iff.1 hj).1;have:=h j hl;rw[Qa1,hj,Qb8]at this;exact this
theorem HU{g:List Al}(h:Jl g):XA g:=by
 intro c hc p hp;obtain⟨j,hj⟩:=Qb9 hp;have hl:j<(Bp g c).length:=(List.getElem?_eq_some_iff.1 hj).1;have:=(h _ (DX (g:=g) (i:=c.toNat) (by have:=hc.1;have:=hc.2;omega)) j hl).1
 have e:(Bp g c).getD j 0=p:=by rw[Qa1,hj,Qb8]
 have this:0≤(Bp g c).getD j 0∧(Bp g c).getD j 0<(g.length:Int):=this;rw[e]at this;exact this
theorem Ak4{g:List Al}(h:Jl g):ndG g:=by
 intro c hc;have hr:Tu g.length (Bp g c):=h _ (DX (g:=g) (i:=c.toNat) (by have:=hc.1;have:=hc.2;omega))
 rw[Qc2,Qd0];intro i j hi hj hij e;refine(hr j hj).2 ?_;rw[Qa1,Qa4 hj,Qb8,←e];refine List.mem_of_getElem? (i:=i) ?_;rw[Qg5 hij,Qa4 hi]
theorem Kf{g:List Al}(h:Kp g):∀c,inR g c→(Bp g c).length≤1000000:=fun c hc=>by
 have:=h.2 _ (DX (g:=g) (i:=c.toNat) (by have:=hc.1;have:=hc.2;omega))
 have:(Bp g c).length≤32:=this;omega
theorem Wh{g:List Al}{i:Nat}(hi:i<g.length):GO (g.drop i)=if Dq (g.getD i ([],(0,[]))).2.2≠0 then Dq (g.getD i ([],(0,[]))).2.2 else GO (g.drop (i+1)):=by
 rw[Qc0 hi,Qa1,Qa4 hi,Qb8];rfl
theorem ZD(x:Int)(n:Nat):(cond (decide (x<0)) true (decide (x≥(n:Int))))=false↔(0≤x∧x<(n:Int)):=by
 rw[Qb5]
 by_cases h:x<0
 ·rw[if_pos (decide_eq_true h)];exact⟨fun k=>(by cases k),fun k=>absurd k.1 (by omega)⟩
 ·rw[if_neg (by simpa using h)];exact⟨fun k=>(by have:=of_decide_eq_false k;omega),fun k=>decide_eq_false (by omega)⟩
theorem TR(x:Int):(cond (decide (x<(0:Int))) true (decide (x>(2147483647:Int))))=false↔(0≤x∧x≤2147483647):=by
 rw[Qb5]
 by_cases h:x<0
 ·rw[if_pos (decide_eq_true h)];exact⟨fun k=>(by cases k),fun k=>absurd k.1 (by omega)⟩
 ·rw[if_neg (by simpa using h)];exact⟨fun k=>(by have:=of_decide_eq_false k;omega),fun k=>decide_eq_false (by omega)⟩
def YM(P:Pg):Prop:=∀x:List Int×Int,x.1.length≤1000000→Fn P "slices.Index[[]int,int]" Ct x fun(d:Int) _=>decide (d≥0)=true↔x.2∈x.1
theorem Alh(h:Has P Dd):YM P:=by
 rintro⟨l,v⟩ hl;dsimp only at hl;refine Lw h ?_;unfold Gm;dsimp only
 refine Ac.mid (fun _=>v∉l) ?_ fun _ h=>⟨fun k=>absurd (of_decide_eq_true k) (by omega),fun k=>absurd k h⟩
 refine Au.of (fun q=>(0≤q.2∧q.2≤l.length)∧∀j,j<q.2.toNat→l.getD j 0≠v) (fun q=>(l.length -q.2).toNat) ⟨⟨Qa2 _,by dsimp only;omega⟩,fun j hj=>absurd hj (by simp)⟩ ?_
 rintro⟨q,i⟩ ⟨⟨i0,i1⟩,hq⟩;dsimp only at i0 i1 hq⊢;refine⟨fun hi=>?_,fun hi=>?_⟩
 ·have hi:=of_decide_eq_true hi
  have hi2:i.toNat<l.length:=by omega
  refine Ac.mid (fun _=>l.getD i.toNat 0≠v) ⟨⟨i0,hi⟩,hi2,fun hb=>?_,fun hb=>?_⟩ fun _ hn=>?_
  ·have e:v=l.getD i.toNat 0:=by simpa using hb
   exact⟨fun _=>e▸A7 hi2,fun _=>decide_eq_true (by omega)⟩
  ·exact fun e=>by rw[e]at hb;simp at hb
  ·rw[w64 (by omega) (by omega)];refine⟨⟨⟨by omega,by omega⟩,fun j hj=>?_⟩,by omega⟩
   by_cases hji:j=i.toNat
   ·subst hji;exact hn
   ·exact hq j (by omega)
 ·have hi:=of_decide_eq_false hi
  exact fun hv=>CT (p:=fun x=>x≠v) (d:=0) (fun j hj=>hq j (by omega)) v hv rfl
def Sp_ContI(P:Pg):Prop:=∀x:List Int×Int,x.1.length≤1000000→Fn P "slices.Contains[[]int,int]" B8 x fun(d:Bool) _=>d=true↔x.2∈x.1
theorem Ai6(h:Has P CE)(hI:YM P):Sp_ContI P:=by
 intro x hx;refine Jc h ?_;unfold E8
 exact(hI x hx).to fun(d:Int) _ hd=>hd
def YP(P:Pg):Prop:=∀x:List Int×Int,x.1.length≤1000000→Fn P AjW HL x fun(d:Bool) _=>d=true↔x.2∈x.1
theorem Ali(h:Has P JR):YP P:=by
 rintro⟨l,v⟩ hl;dsimp only at hl;refine Y8 h ?_;unfold SA;dsimp only
 refine Ac.mid (fun _=>v∉l) ?_ fun _ h=>⟨fun k=>(by cases k),fun k=>absurd k h⟩
 refine Au.of (fun q=>(0≤q.2∧q.2≤l.length)∧∀j,j<q.2.toNat→l.getD j 0≠v) (fun q=>(l.length -q.2).toNat) ⟨⟨Qa2 _,by dsimp only;omega⟩,fun j hj=>absurd hj (by simp)⟩ ?_
 rintro⟨q,i⟩ ⟨⟨i0,i1⟩,hq⟩;dsimp only at i0 i1 hq⊢;refine⟨fun hi=>?_,fun hi=>?_⟩
 ·have hi:=of_decide_eq_true hi
  have hi2:i.toNat<l.length:=by omega
  refine Ac.mid (fun _=>l.getD i.toNat 0≠v) ⟨⟨i0,hi⟩,hi2,fun hb=>?_,fun hb=>?_⟩ fun _ hn=>?_
  ·have e:l.getD i.toNat 0=v:=by simpa using hb
   exact⟨fun _=>e▸A7 hi2,fun _=>rfl⟩
  ·exact fun e=>by rw[e]at hb;simp at hb
  ·rw[w64 (by omega) (by omega)];refine⟨⟨⟨by omega,by omega⟩,fun j hj=>?_⟩,by omega⟩
   by_cases hji:j=i.toNat
   ·subst hji;exact hn
   ·exact hq j (by omega)
 ·have hi:=of_decide_eq_false hi
  exact fun hv=>CT (p:=fun x=>x≠v) (d:=0) (fun j hj=>hq j (by omega)) v hv rfl
def AcR(P:Pg):Prop:=∀l:List Al,l.length≤1000000→Fn P zS9 AE (l,()) fun(d:Int) _=>decide (d≥0)=false↔∀c∈l,c.1.length≤32
theorem AmH(h:Has P AP)(h1:Has P FB):AcR P:=by
 intro l hl;refine CU h ?_;unfold BL;dsimp only
 refine Ac.mid (fun _=>∀c∈l,c.1.length≤32) ?_ fun _ h=>⟨fun _=>h,fun _=>rfl⟩
 refine Au.of (fun q=>(0≤q.2∧q.2≤l.length)∧∀j,j<q.2.toNat→(l.getD j ([],(0,[]))).1.length≤32) (fun q=>(l.length -q.2).toNat) ⟨⟨Qa2 _,by dsimp only;omega⟩,fun j hj=>absurd hj (by simp)⟩ ?_
 rintro⟨q,i⟩ ⟨⟨i0,i1⟩,hq⟩;dsimp only at i0 i1 hq⊢;refine⟨fun hi=>?_,fun hi=>?_⟩
 ·have hi:=of_decide_eq_true hi
  have hi2:i.toNat<l.length:=by omega
  refine Ac.mid (fun _=>(l.getD i.toNat ([],(0,[]))).1.length≤32) ⟨⟨i0,hi⟩,hi2,RR h1 ⟨fun hb=>?_,fun hb=>?_⟩⟩ fun _ hn=>?_
  ·have hb:=of_decide_eq_true hb;have hb:(((l.getD i.toNat ([],(0,[]))).1.length:Nat):Int)>32:=hb;exact⟨fun k=>absurd (of_decide_eq_false k) (by omega),fun k=>absurd (k _ (DX hi2)) (by omega)⟩
  ·have hb:=of_decide_eq_false hb;have hb:¬((((l.getD i.toNat ([],(0,[]))).1.length:Nat):Int)>32):=hb;show(l.getD i.toNat ([],(0,[]))).1.length≤32;omega
  ·rw[w64 (by omega) (by omega)];refine⟨⟨⟨by omega,by omega⟩,fun j hj=>?_⟩,by omega⟩
   by_cases hji:j=i.toNat
   ·subst hji;exact hn
   ·exact hq j (by omega)
 ·have hi:=of_decide_eq_false hi
  exact CT (d:=([],(0,[]))) fun j hj=>hq j (by omega)
def AcT(P:Pg):Prop:=∀l:List Al,l.length≤1000000→Fn P XB Az (l,()) fun(d:Bool) _=>d=false↔∀c∈l,c.1.length≤32
theorem AmJ(h:Has P AN)(hI:AcR P):AcT P:=by
 intro l hl;refine CG h ?_;unfold BE
 exact(hI l hl).to fun(d:Int) _ hd=>hd
def Pc(P:Pg):Prop:=∀l:List Al,Fn P AjR Fe l fun(d:Bool) _=>d=true↔Kp l
theorem Aek(h:Has P G9)(hX:AcT P):Pc P:=by
 intro l;refine UJ h ?_;unfold OC
 refine Ac.mid (fun d=>l.length≤300→(d=false↔∀c∈l,c.1.length≤32)) ⟨fun hc=>?_,fun hc hl=>absurd (of_decide_eq_false hc) (by omega),trivial⟩ fun d hd=>?_
 ·have hc:=of_decide_eq_true hc
  exact(hX l (by omega)).to fun(d:Bool) _ hd _=>hd
 ·by_cases hl:l.length≤300
  ·have hd:=hd hl;rw[decide_eq_true (show((l.length:Nat):Int)≤300 by omega)];unfold Kp
   cases d with
   |false=>exact⟨fun _=>⟨hl,hd.1 rfl⟩,fun _=>rfl⟩
   |true=>exact⟨fun k=>(by cases k),fun k=>(by have:=hd.2 k.2;cases this)⟩
  ·rw[decide_eq_false (show¬((l.length:Nat):Int)≤300 by omega)];exact⟨fun k=>(by cases k),fun k=>absurd k.1 hl⟩
def AcS(P:Pg):Prop:=∀l:List Al,l.length≤1000000→Fn P zS9 AH (l,()) fun(d:Int) _=>decide (d≥0)=false↔RL l
theorem AmI(h:Has P AY)(h1:Has P G8):AcS P:=by
 intro l hl;refine C6 h ?_;unfold BP;dsimp only
 refine Ac.mid (fun _=>RL l) ?_ fun _ h=>⟨fun _=>h,fun _=>rfl⟩
 refine Au.of (fun q=>(0≤q.2∧q.2≤l.length)∧∀j,j<q.2.toNat→0≤(l.getD j ([],(0,[]))).2.1∧(l.getD j ([],(0,[]))).2.1≤2147483647) (fun q=>(l.length -q.2).toNat) ⟨⟨Qa2 _,by dsimp only;omega⟩,fun j hj=>absurd hj (by simp)⟩ ?_
 rintro⟨q,i⟩ ⟨⟨i0,i1⟩,hq⟩;dsimp only at i0 i1 hq⊢;refine⟨fun hi=>?_,fun hi=>?_⟩
 ·have hi:=of_decide_eq_true hi
  have hi2:i.toNat<l.length:=by omega
  refine Ac.mid (fun _=>0≤(l.getD i.toNat ([],(0,[]))).2.1∧(l.getD i.toNat ([],(0,[]))).2.1≤2147483647) ⟨⟨i0,hi⟩,hi2,UI h1 ⟨fun hb=>?_,fun hb=>?_⟩⟩ fun _ hn=>?_
  ·refine⟨fun k=>absurd (of_decide_eq_false k) (by omega),fun k=>?_⟩;have:=(TR _).2 (k _ (DX hi2));exact absurd (this.symm.trans hb) (by simp)
  ·exact(TR _).1 hb
  ·rw[w64 (by omega) (by omega)];refine⟨⟨⟨by omega,by omega⟩,fun j hj=>?_⟩,by omega⟩
   by_cases hji:j=i.toNat
   ·subst hji;exact hn
   ·exact hq j (by omega)
 ·have hi:=of_decide_eq_false hi
  exact CT (d:=([],(0,[]))) (p:=fun c=>0≤c.2.1∧c.2.1≤2147483647) fun j hj=>hq j (by omega)
def AcU(P:Pg):Prop:=∀l:List Al,l.length≤1000000→Fn P XB AB (l,()) fun(d:Bool) _=>d=false↔RL l
theorem AmK(h:Has P AO)(hI:AcS P):AcU P:=by
 intro l hl;refine CS h ?_;unfold BG
 exact(hI l hl).to fun(d:Int) _ hd=>hd
def Ph(P:Pg):Prop:=∀g:List Al,Kp g→Fn P AjS Ff g fun(d:Bool) _=>d=true↔Jl g
theorem Aep(h:Has P Ha)(hC:Sp_ContI P):Ph P:=by
 intro g hlim;refine UK h ?_;unfold OD;have hg:=hlim.1
 refine Ac.mid (fun _=>Jl g) ?_ fun _ h=>⟨fun _=>h,fun _=>rfl⟩
 refine Au.of (fun q=>(0≤q.2∧q.2≤g.length)∧∀j,j<q.2.toNat→Tu g.length (g.getD j ([],(0,[]))).1) (fun q=>(g.length -q.2).toNat) ⟨⟨Qa2 _,by dsimp only;omega⟩,fun j hj=>absurd hj (by simp)⟩ ?_
 rintro⟨q,i⟩ ⟨⟨i0,i1⟩,hq⟩;dsimp only at i0 i1 hq⊢;refine⟨fun hi=>?_,fun hi=>?_⟩
 ·have hi:=of_decide_eq_true hi
  have hi2:i.toNat<g.length:=by omega
  have hl:(g.getD i.toNat ([],(0,[]))).1.length≤32:=hlim.2 _ (DX hi2)
  have hbad:∀j,j<(g.getD i.toNat ([],(0,[]))).1.length→¬S9 g.length (g.getD i.toNat ([],(0,[]))).1 j→¬Jl g:=fun j hj=>Ab6 hi2 hj
  refine Ac.mid (fun _=>Tu g.length (g.getD i.toNat ([],(0,[]))).1) ⟨⟨i0,hi⟩,hi2,?_⟩ fun _ hn=>?_
  ·show Ac (D:=Bool) _ _;have ez:g.getD i.toNat Ag=g.getD i.toNat ([],(0,[])):=rfl;rw[ez];generalize(g.getD i.toNat ([],(0,[]))).1=l at hl hbad⊢
   refine Ac.mid (fun _=>Tu g.length l) ?_ fun _ h=>h
   refine Au.of (fun q=>(0≤q.2∧q.2≤l.length)∧∀j,j<q.2.toNat→S9 g.length l j) (fun q=>(l.length -q.2).toNat) ⟨⟨Qa2 _,by dsimp only;omega⟩,fun j hj=>absurd hj (by simp)⟩ ?_
   rintro⟨r,k⟩ ⟨⟨k0,k1⟩,hk⟩;dsimp only at k0 k1 hk⊢;refine⟨fun hki=>?_,fun hki=>?_⟩
   ·have hki:=of_decide_eq_true hki
    have hk2:k.toNat<l.length:=by omega
    have hou:=ZD (l.getD k.toNat 0) g.length;generalize(cond (decide (l.getD k.toNat 0<0)) true (decide (l.getD k.toNat 0≥(g.length:Int))))=b at hou⊢
    refine Ac.mid (fun _=>S9 g.length l k.toNat) ⟨⟨k0,hki⟩,hk2,fun _=>⟨k0,by omega⟩,?_⟩ fun _ hn=>?_
    ·refine Ac.mid (fun d=>b=false→(d=true↔l.getD k.toNat 0∈l.take k.toNat)) ⟨fun hc=>?_,fun hc h=>(by rw[hc]at h;cases h),trivial⟩ fun d hd=>⟨fun hb=>?_,fun hb=>?_⟩
     ·exact(hC (l.take k.toNat,l.getD k.toNat 0) (by rw[Qb0];omega)).to fun(d:Bool) _ hd _=>hd
     ·refine⟨fun k=>(by cases k),fun hr=>absurd hr (hbad k.toNat hk2 fun ha=>?_)⟩;have hbf:=hou.2 ha.1;rw[hbf]at hb;exact ha.2 ((hd hbf).1 hb)
     ·cases b with
      |true=>cases hb
      |false=>exact⟨hou.1 rfl,fun hm=>(by have:=(hd rfl).2 hm;rw[this]at hb;cases hb)⟩
    ·rw[w64 (by omega) (by omega)];refine⟨⟨⟨by omega,by omega⟩,fun j hj=>?_⟩,by omega⟩
     by_cases hji:j=k.toNat
     ·subst hji;exact hn
     ·exact hk j (by omega)
   ·have hki:=of_decide_eq_false hki
    exact fun j hj=>hk j (by omega)
  ·rw[w64 (by omega) (by omega)];refine⟨⟨⟨by omega,by omega⟩,fun j hj=>?_⟩,by omega⟩
   by_cases hji:j=i.toNat
   ·subst hji;exact hn
   ·exact hq j (by omega)
 ·have hi:=of_decide_eq_false hi
  exact CT (d:=([],(0,[]))) (p:=fun c=>Tu g.length c.1) fun j hj=>hq j (by omega)
def Z3(g:List Al):Prop:=∀c∈g,∀f∈c.2.2,f.1.length≤140737488351232∧f.2.length≤140737488351232
def AnK(l:List Ao):Prop:=∀f∈l,f.1.length≤140737488351232∧f.2.length≤140737488351232
def Kk(P:Pg):Prop:=∀l:List Ao,AnK l→Fn P zS6 Cu l fun(d:Int) _=>d=Dq l
theorem Xw(h:Has P F7)(hT:EZ P):Kk P:=by
 intro l hl
 by_cases hn:l.length≤1000000
 ·exact hT l ⟨hn,hl⟩
 ·refine O2 h ?_;unfold LY
  refine Ac.mid (fun _=>False) ⟨fun hc=>?_,fun hc=>absurd (of_decide_eq_false hc) (by omega)⟩ fun _ hh=>hh.elim
  unfold Dq;rw[if_pos (by omega)]
def IW(P:Pg):Prop:=∀l:List Ao,AnK l→Fn P zS5 Cc l fun(d:Int) _=>d=Dq l
theorem V1(h:Has P Fc)(hT:Ep P):IW P:=by
 intro l hl
 by_cases hn:l.length≤1000000
 ·exact hT l ⟨hn,hl⟩
 ·refine Nk h ?_;unfold Kl;refine⟨fun hc=>?_,fun hc=>absurd (of_decide_eq_false hc) (by omega)⟩;unfold Dq;rw[if_pos (by omega)]
def MV(P:Pg):Prop:=∀g:List Al,Z3 g→Fn P AjU HI g fun(d:Int) _=>GK g d
theorem Acj(h:Has P JM)(hL:Pc P)(hR:Ph P)(hU:RA P)(hX:AcU P)(hT:Kk P):MV P:=by
 intro g hs;refine Y3 h ?_;unfold Sv
 refine Ac.mid (fun _=>Kp g∧Jl g∧¬Ov g∧RL g) ?_ fun d2 hh=>?_
 ·refine(hL g).to ?_;rintro(d:Bool) _ hd;have hd:d=true↔Kp g:=hd;refine⟨fun hb=>AdE fun k=>(by rw[hd.2 k]at hb;cases hb),fun hb=>?_⟩
  have k1:Kp g:=hd.1 (by cases d with|true=>rfl|false=>cases hb);clear hd hb;refine(hR g k1).to ?_;rintro(d:Bool) _ hd;have hd:d=true↔Jl g:=hd;refine⟨fun hb=>Aiq k1 fun k=>(by rw[hd.2 k]at hb;cases hb),fun hb=>?_⟩
  have k2:Jl g:=hd.1 (by cases d with|true=>rfl|false=>cases hb);clear hd hb;have hg:=k1.1;refine(hU g (by omega) (HU k2) (Ak4 k2) (Kf k1)).to ?_;rintro(u:List Int) _ hu;have hu:UpG g u:=hu;have hcy:=AmY (HU k2) hu;refine⟨fun hb=>Air k1 k2 (hcy.1 (by have:=of_decide_eq_true hb;omega)),fun hb=>?_⟩
  have k3:¬Ov g:=fun k=>by have:=hcy.2 k;have:=of_decide_eq_false hb;omega
  refine(hX g (by omega)).to ?_;rintro(d:Bool) _ hd;have hd:d=false↔RL g:=hd;exact⟨fun hb=>Ais k1 k2 k3 fun k=>(by rw[hd.2 k]at hb;cases hb),fun hb=>⟨k1,k2,k3,hd.1 hb⟩⟩
 ·obtain⟨k1,k2,k3,k4⟩:=hh;have hg:=k1.1
  refine Ac.mid (fun _=>GO g=0) ?_ fun _ h=>Vl k1 k2 k3 k4 h.symm
  refine Au.of (fun q=>(0≤q.2∧q.2≤g.length)∧GO g=GO (g.drop q.2.toNat)) (fun q=>(g.length -q.2).toNat) ⟨⟨Qa2 _,by dsimp only;omega⟩,rfl⟩ ?_
  rintro⟨q,i⟩ ⟨⟨i0,i1⟩,hq⟩;dsimp only at i0 i1 hq⊢;refine⟨fun hi=>?_,fun hi=>?_⟩
  ·have hi:=of_decide_eq_true hi
   have hi2:i.toNat<g.length:=by omega
   rw[Wh hi2]at hq
   refine Ac.mid (fun _=>Dq (g.getD i.toNat ([],(0,[]))).2.2=0) ⟨⟨i0,hi⟩,hi2,(hT _ (hs _ (DX hi2))).to ?_⟩ fun _ hn=>?_
   ·rintro(d:Int) _ hd;have hd:d=Dq (g.getD i.toNat ([],(0,[]))).2.2:=hd;rw[←hd]at hq⊢;refine⟨fun hb=>Vl k1 k2 k3 k4 ?_,fun hb=>by simpa using hb⟩;rw[hq,if_pos (by simpa using hb)]
   ·rw[if_neg (by simpa using hn)]at hq;rw[w64 (by omega) (by omega)];refine⟨⟨⟨by omega,by omega⟩,?_⟩,by omega⟩;rw[hq,show(i+1).toNat=i.toNat+1 by omega]
  ·have hi:=of_decide_eq_false hi;show GO g=0;rw[hq,Qc7 (by omega)];rfl
theorem Al6{g:List Al}{c:Int}(hc:inR g c){s:List Bool}(hs:Ahp g (Bp g c) s)(h:s.getD c.toNat false=true):Ov g:=by
 obtain⟨f,hf,hr⟩:=(hs.2 c hc).1 h;exact⟨c,hc,f,hf,hr⟩
theorem Agp{g:List Al}{c:Int}(hc:inR g c){s:List Bool}(hs:Ahp g (Bp g c) s)(h:s.getD c.toNat false=false):¬∃p∈Bp g c,Rch g p c:=by
 rintro hr;have:=(hs.2 c hc).2 hr;unfold inS at this;rw[h]at this;cases this
def LX(P:Pg):Prop:=∀g:List Al,g.length≤1000000→Z3 g→Fn P AjY Fm g fun(d:Int) _=>GK g d
theorem Z0(h:Has P Hm)(hH:YP P)(hR:Ub P)(hT:IW P):LX P:=by
 intro g hgl hs;refine UX h ?_;unfold OQ;refine⟨fun hc=>AdE fun k=>absurd k.1 (by have:=of_decide_eq_true hc;omega),fun hc=>?_⟩
 have hg:g.length≤300:=by have:=of_decide_eq_false hc;omega
 clear hc
 refine Ac.mid (fun _=>∀c∈g,c.1.length≤32) ?_ fun d2 hlim=>?_
 ·refine Au.of (fun q=>(0≤q.2∧q.2≤g.length)∧∀j,j<q.2.toNat→(g.getD j ([],(0,[]))).1.length≤32) (fun q=>(g.length -q.2).toNat) ⟨⟨Qa2 _,by dsimp only;omega⟩,fun j hj=>absurd hj (by simp)⟩ ?_
  rintro⟨q,i⟩ ⟨⟨i0,i1⟩,hq⟩;dsimp only at i0 i1 hq⊢;refine⟨fun hi=>?_,fun hi=>?_⟩
  ·have hi:=of_decide_eq_true hi
   have hi2:i.toNat<g.length:=by omega
   refine Ac.mid (fun _=>(g.getD i.toNat ([],(0,[]))).1.length≤32) ⟨⟨i0,hi⟩,hi2,fun hb=>?_,fun hb=>?_⟩ fun _ hn=>?_
   ·have hb:=of_decide_eq_true hb;have hb:(((g.getD i.toNat ([],(0,[]))).1.length:Nat):Int)>32:=hb
    exact AdE fun k=>absurd (k.2 _ (DX hi2)) (by omega)
   ·have hb:=of_decide_eq_false hb;have hb:¬((((g.getD i.toNat ([],(0,[]))).1.length:Nat):Int)>32):=hb;show(g.getD i.toNat ([],(0,[]))).1.length≤32;omega
   ·rw[w64 (by omega) (by omega)];refine⟨⟨⟨by omega,by omega⟩,fun j hj=>?_⟩,by omega⟩
    by_cases hji:j=i.toNat
    ·subst hji;exact hn
    ·exact hq j (by omega)
  ·have hi:=of_decide_eq_false hi
   exact CT (d:=([],(0,[]))) (p:=fun c=>c.1.length≤32) fun j hj=>hq j (by omega)
 have k1:Kp g:=⟨hg,hlim⟩
 clear hlim
 refine Ac.mid (fun _=>Jl g) ?_ fun d8 k2=>?_
 ·refine Au.of (fun q=>(0≤q.2∧q.2≤g.length)∧∀j,j<q.2.toNat→Tu g.length (g.getD j ([],(0,[]))).1) (fun q=>(g.length -q.2).toNat) ⟨⟨Qa2 _,by dsimp only;omega⟩,fun j hj=>absurd hj (by simp)⟩ ?_
  rintro⟨q,i⟩ ⟨⟨i0,i1⟩,hq⟩;dsimp only at i0 i1 hq⊢;refine⟨fun hi=>?_,fun hi=>?_⟩
  ·have hi:=of_decide_eq_true hi
   have hi2:i.toNat<g.length:=by omega
   have hl:(g.getD i.toNat ([],(0,[]))).1.length≤32:=k1.2 _ (DX hi2)
   have hbad:∀j,j<(g.getD i.toNat ([],(0,[]))).1.length→¬S9 g.length (g.getD i.toNat ([],(0,[]))).1 j→¬Jl g:=fun j hj=>Ab6 hi2 hj
   refine Ac.mid (fun _=>Tu g.length (g.getD i.toNat ([],(0,[]))).1) ?_ fun _ hn=>?_
   ·have ez:g.getD i.toNat Ag=g.getD i.toNat ([],(0,[])):=rfl;rw[ez];generalize(g.getD i.toNat ([],(0,[]))).1=l at hl hbad⊢
    refine Ac.mid (fun _=>Tu g.length l) ?_ fun _ h=>h
    refine Au.of (fun q=>(0≤q.2∧q.2≤l.length)∧∀j,j<q.2.toNat→S9 g.length l j) (fun q=>(l.length -q.2).toNat) ⟨⟨Qa2 _,by dsimp only;omega⟩,fun j hj=>absurd hj (by simp)⟩ ?_
    rintro⟨r,k⟩ ⟨⟨k0,kk1⟩,hk⟩;dsimp only at k0 kk1 hk⊢;refine⟨⟨i0,hi⟩,hi2,fun hki=>?_,fun hki=>?_⟩
    ·have hki:=of_decide_eq_true hki
     have hk2:k.toNat<l.length:=by omega
     have hou:=ZD (l.getD k.toNat 0) g.length;generalize(cond (decide (l.getD k.toNat 0<0)) true (decide (l.getD k.toNat 0≥(g.length:Int))))=b at hou⊢
     refine Ac.mid (fun _=>S9 g.length l k.toNat) ⟨⟨i0,hi⟩,hi2,⟨k0,hki⟩,hk2,fun _=>⟨i0,hi⟩,fun _=>hi2,fun _=>⟨k0,by omega⟩,?_⟩ fun _ hn=>?_
     ·refine Ac.mid (fun d=>b=false→(d=true↔l.getD k.toNat 0∈l.take k.toNat)) ⟨fun hc=>?_,fun hc h=>(by rw[hc]at h;cases h),trivial⟩ fun d hd=>⟨fun hb=>?_,fun hb=>?_⟩
      ·exact(hH (l.take k.toNat,l.getD k.toNat 0) (by rw[Qb0];omega)).to fun(d:Bool) _ hd _=>hd
      ·refine Aiq k1 (hbad k.toNat hk2 fun ha=>?_);have hbf:=hou.2 ha.1;rw[hbf]at hb;exact ha.2 ((hd hbf).1 hb)
      ·cases b with
       |true=>cases hb
       |false=>exact⟨hou.1 rfl,fun hm=>(by have:=(hd rfl).2 hm;rw[this]at hb;cases hb)⟩
     ·rw[w64 (by omega) (by omega)];refine⟨⟨⟨by omega,by omega⟩,fun j hj=>?_⟩,by omega⟩
      by_cases hji:j=k.toNat
      ·subst hji;exact hn
      ·exact hk j (by omega)
    ·have hki:=of_decide_eq_false hki
     exact fun j hj=>hk j (by omega)
   ·rw[w64 (by omega) (by omega)];refine⟨⟨⟨by omega,by omega⟩,fun j hj=>?_⟩,by omega⟩
    by_cases hji:j=i.toNat
    ·subst hji;exact hn
    ·exact hq j (by omega)
  ·have hi:=of_decide_eq_false hi
   exact CT (d:=([],(0,[]))) (p:=fun c=>Tu g.length c.1) fun j hj=>hq j (by omega)
 refine Ac.mid (fun _=>¬Ov g) ?_ fun d23 k3=>?_
 ·refine Au.of (fun q=>(0≤q.2∧q.2≤g.length)∧∀c:Int,0≤c→c<q.2→¬∃p∈Bp g c,Rch g p c) (fun q=>(g.length -q.2).toNat) ⟨⟨Qa2 _,by dsimp only;omega⟩,fun c h1 h2=>absurd h2 (by dsimp only;omega)⟩ ?_
  rintro⟨q,i⟩ ⟨⟨i0,i1⟩,hq⟩;dsimp only at i0 i1 hq⊢;refine⟨fun hi=>?_,fun hi=>?_⟩
  ·have hi:=of_decide_eq_true hi
   have hi2:i.toNat<g.length:=by omega
   refine Ac.mid (fun _=>¬∃p∈Bp g i,Rch g p i) ⟨⟨i0,hi⟩,hi2,fun hp=>⟨⟨i0,hi⟩,hi2,?_⟩,fun hp=>⟨fun k=>(by cases k),fun _=>?_⟩⟩ fun _ hn=>?_
   ·refine(hR (g,Bp g i) (by dsimp only;omega) (Kf k1 i ⟨i0,hi⟩) (HU k2) (Kf k1) (fun f hf=>HU k2 i ⟨i0,hi⟩ f hf)).to ?_
    rintro(s:List Bool) _ hsr;have hsr:Ahp g (Bp g i) s:=hsr;have hsl:=hsr.1;refine⟨⟨i0,by rw[hsl];exact hi⟩,by rw[hsl];exact hi2,fun hb=>Air k1 k2 (Al6 ⟨i0,hi⟩ hsr hb),fun hb=>Agp ⟨i0,hi⟩ hsr hb⟩
   ·rintro⟨p,hm,_⟩;have hp:=of_decide_eq_false hp;have hp:¬(((Bp g i).length:Nat):Int)>0:=hp;have:=Qh1 hm;omega
   ·rw[w64 (by omega) (by omega)];refine⟨⟨⟨by omega,by omega⟩,fun c h1 h2=>?_⟩,by omega⟩
    by_cases hji:c=i
    ·subst hji;exact hn
    ·exact hq c h1 (by omega)
  ·have hi:=of_decide_eq_false hi;rintro⟨c,hc,hp⟩;exact hq c hc.1 (by have:=hc.2;omega) hp
 refine Ac.mid (fun _=>RL g) ?_ fun d31 k4=>?_
 ·refine Au.of (fun q=>(0≤q.2∧q.2≤g.length)∧∀j,j<q.2.toNat→0≤(g.getD j ([],(0,[]))).2.1∧(g.getD j ([],(0,[]))).2.1≤2147483647) (fun q=>(g.length -q.2).toNat) ⟨⟨Qa2 _,by dsimp only;omega⟩,fun j hj=>absurd hj (by simp)⟩ ?_
  rintro⟨q,i⟩ ⟨⟨i0,i1⟩,hq⟩;dsimp only at i0 i1 hq⊢;refine⟨fun hi=>?_,fun hi=>?_⟩
  ·have hi:=of_decide_eq_true hi
   have hi2:i.toNat<g.length:=by omega
   refine Ac.mid (fun _=>0≤(g.getD i.toNat ([],(0,[]))).2.1∧(g.getD i.toNat ([],(0,[]))).2.1≤2147483647) ⟨⟨i0,hi⟩,hi2,fun _=>⟨i0,hi⟩,fun _=>hi2,fun hb=>?_,fun hb=>?_⟩ fun _ hn=>?_
   ·refine Ais k1 k2 k3 fun k=>?_
    have:=(TR _).2 (k _ (DX hi2));exact absurd (this.symm.trans hb) (by simp)
   ·exact(TR _).1 hb
   ·rw[w64 (by omega) (by omega)];refine⟨⟨⟨by omega,by omega⟩,fun j hj=>?_⟩,by omega⟩
    by_cases hji:j=i.toNat
    ·subst hji;exact hn
    ·exact hq j (by omega)
  ·have hi:=of_decide_eq_false hi
   exact CT (d:=([],(0,[]))) (p:=fun c=>0≤c.2.1∧c.2.1≤2147483647) fun j hj=>hq j (by omega)
 refine Ac.mid (fun _=>GO g=0) ?_ fun _ h=>Vl k1 k2 k3 k4 h.symm
 refine Au.of (fun q=>(0≤q.2∧q.2≤g.length)∧GO g=GO (g.drop q.2.toNat)) (fun q=>(g.length -q.2).toNat) ⟨⟨Qa2 _,by dsimp only;omega⟩,rfl⟩ ?_
 rintro⟨q,i⟩ ⟨⟨i0,i1⟩,hq⟩;dsimp only at i0 i1 hq⊢;refine⟨fun hi=>?_,fun hi=>?_⟩
 ·have hi:=of_decide_eq_true hi
  have hi2:i.toNat<g.length:=by omega
  rw[Wh hi2]at hq
  refine Ac.mid (fun _=>Dq (g.getD i.toNat ([],(0,[]))).2.2=0) ⟨⟨i0,hi⟩,hi2,(hT _ (hs _ (DX hi2))).to ?_⟩ fun _ hn=>?_
  ·rintro(d:Int) _ hd;have hd:d=Dq (g.getD i.toNat ([],(0,[]))).2.2:=hd;rw[←hd]at hq⊢;refine⟨fun hb=>Vl k1 k2 k3 k4 ?_,fun hb=>by simpa using hb⟩;rw[hq,if_pos (by simpa using hb)]
  ·rw[if_neg (by simpa using hn)]at hq;rw[w64 (by omega) (by omega)];refine⟨⟨⟨by omega,by omega⟩,?_⟩,by omega⟩;rw[hq,show(i+1).toNat=i.toNat+1 by omega]
 ·have hi:=of_decide_eq_false hi;show GO g=0;rw[hq,Qc7 (by omega)];rfl
def Pe(P:Pg):Prop:=∀x:List Ao×List Ao,Du x.1→Du x.2→Kq x.1→Kq x.2→Fn P AjO EI x fun(d:List Bz) _=>LR x.1 x.2 d
theorem Aen(h:Has P F4)(hP:Rv P)(hF:Lm P):Pe P:=by
 rintro⟨a,b⟩ ha hb oa ob;dsimp only at ha hb oa ob;have hna:=ha.1;have hnb:=hb.1;refine Th h ?_;unfold M5;dsimp only;refine(hP (a,b) ha hb oa ob).to ?_;rintro(l:List Bs) _ hl;have hl:Gath a b l a.length b.length:=hl;have hll:=hl.len
 refine Ac.mid (fun d=>d=l.filterMap (Jk a b)) ?_ fun d hd=>by subst hd;exact Agc hl
 refine Au.of (fun q=>(0≤q.2∧q.2≤l.length)∧q.1=(l.take q.2.toNat).filterMap (Jk a b)) (fun q=>(l.length -q.2).toNat) ⟨⟨Qa2 _,Qa3 _⟩,rfl⟩ ?_;rintro⟨o,i⟩ ⟨⟨i0,i1⟩,ho⟩;dsimp only at i0 i1 ho⊢;refine⟨fun hi=>?_,fun hi=>?_⟩
 ·have hi:=of_decide_eq_true hi
  have hi2:i.toNat<l.length:=by omega
  have hol:o.length≤l.length:=by rw[ho];exact Qc8 (Qc3 ..) (by rw[Qb0];omega)
  have hnx:(l.take (i.toNat+1)).filterMap (Jk a b)=o++(Jk a b (l.getD i.toNat [])).toList:=by
   rw[ho,Qc4,Qa4 hi2,Qh4,Qa1,Qa4 hi2];simp only[Option.toList_some,Qb8]
   cases hp:Jk a b l[i.toNat]with
   |none=>simp[hp]
   |some v=>simp[hp]
  have hin:(Bq a (l.getD i.toNat [])).isSome=true∨(Bq b (l.getD i.toNat [])).isSome=true:=by
   rcases(hl.mem _).1 (A7 (d:=[]) hi2)with⟨k,h1,h2,h3⟩|⟨k,h1,h2,h3⟩
   ·exact .inl ((DV a _).2 ⟨_,A7 (d:=([],[])) h2,h3⟩)
   ·exact .inr ((DV b _).2 ⟨_,A7 (d:=([],[])) h2,h3⟩)
  have hpd:Jk a b (l.getD i.toNat [])=(QM a b (l.getD i.toNat [])).map fun k=>(l.getD i.toNat [],k):=rfl
  have hsz:∀k:Int,(o.length+([(l.getD i.toNat [],k)]:List Bz).length)*24≤140737488355328:=fun k=>by
   simp only[Qa0,Qa5];omega
  rw[hpd]at hnx;unfold QM at hnx;refine Ac.mid (fun d=>d=(l.take (i.toNat+1)).filterMap (Jk a b)) ⟨⟨i0,hi⟩,hi2,(hF (a,l.getD i.toNat []) (by dsimp only;omega)).to ?_⟩ ?_
  ·rintro(da:Bs×Bool) _ hda;have hda:da=_:=(show da=findF a (l.getD i.toNat [])from hda).trans (RQ oa.ne _);refine⟨⟨i0,hi⟩,hi2,(hF (b,l.getD i.toNat []) (by dsimp only;omega)).to ?_⟩
   rintro(db:Bs×Bool) _ hdb;have hdb:db=_:=(show db=findF b (l.getD i.toNat [])from hdb).trans (RQ ob.ne _)
   refine Ac.mid (fun d=>d=(l.take (i.toNat+1)).filterMap (Jk a b)) ?_ fun _ h=>h
   refine Ac.mid (fun d=>d=(l.take (i.toNat+1)).filterMap (Jk a b)) ?_ fun _ h=>h
   cases hba:Bq a (l.getD i.toNat [])with
   |none=>
    cases hbb:Bq b (l.getD i.toNat [])with
    |none=>rw[hba,hbb]at hin;simp at hin
    |some v=>
     rw[hba]at hda;rw[hba,hbb]at hnx;subst hda;exact⟨fun _=>⟨⟨i0,hi⟩,hi2,hsz 1,hnx.symm⟩,fun hc=>absurd hc (by simp)⟩
   |some u=>
    rw[hba]at hda;subst hda;refine⟨fun hc=>absurd hc (by simp),fun _=>?_⟩
    refine Ac.mid (fun d=>d=(l.take (i.toNat+1)).filterMap (Jk a b)) ?_ fun _ h=>h
    cases hbb:Bq b (l.getD i.toNat [])with
    |none=>
     rw[hbb]at hdb;rw[hba,hbb]at hnx;subst hdb;exact⟨fun _=>⟨⟨i0,hi⟩,hi2,hsz 2,hnx.symm⟩,fun hc=>absurd hc (by simp)⟩
    |some v=>
     rw[hbb]at hdb;rw[hba,hbb]at hnx;subst hdb;refine⟨fun hc=>absurd hc (by simp),fun _=>?_⟩
     refine Ac.mid (fun d=>d=(l.take (i.toNat+1)).filterMap (Jk a b)) ⟨fun hc=>⟨⟨i0,hi⟩,hi2,hsz 3,?_⟩,fun hc=>?_⟩ fun _ h=>h
     ·have hne:¬u=v:=by simpa using hc
      dsimp only at hnx;rw[if_neg hne]at hnx;exact hnx.symm
     ·have he:u=v:=by simpa using hc
      dsimp only at hnx;rw[if_pos he]at hnx;rw[hnx];exact(Qg8 o).symm
  ·rintro d rfl;rw[w64 (by omega) (by omega)];exact⟨⟨⟨by omega,by omega⟩,by rw[show(i+1).toNat=i.toNat+1 by omega]⟩,by omega⟩
 ·have hi:=of_decide_eq_false hi;rw[ho,Qa9 (by omega)]
theorem TG{l:List Ao}(h:Dq l=0):Kq l:=by
 unfold Dq at h;split at h
 ·cases h
 ·split at h
  ·cases h
  ·split at h
   ·cases h
   ·rename_i h3;exact(QX l).1 (by simpa using h3)
def Pf(P:Pg):Prop:=∀x:List Ao×List Ao,Du x.1→Du x.2→Fn P AjQ Gi x fun(d:List Bz×Int) _=>d.2=MH x.1 x.2∧(d.2≠0→d.1=[])∧(d.2=0→LR x.1 x.2 d.1)
theorem Aeo(h:Has P Ib)(hC:Ep P)(hD:Pe P):Pf P:=by
 rintro⟨a,b⟩ ha hb;dsimp only at ha hb;refine Wz h ?_;unfold Qf MH;dsimp only;refine hC.at ha ⟨fun hc=>?_,fun hc=>?_⟩
 ·have hc:Dq a≠0:=by simpa using hc
  rw[if_pos hc];exact⟨rfl,fun _=>rfl,fun h=>absurd h hc⟩
 ·have hc:Dq a=0:=by simpa using hc
  rw[if_neg (by simpa using hc)];refine hC.at hb ⟨fun hc2=>?_,fun hc2=>?_⟩
  ·have hc2:Dq b≠0:=by simpa using hc2
   exact⟨rfl,fun _=>rfl,fun h=>absurd h hc2⟩
  ·have hc2:Dq b=0:=by simpa using hc2
   refine(hD (a,b) ha hb (TG hc) (TG hc2)).to ?_;rintro(d:List Bz) _ hd;exact⟨hc2.symm,fun h=>absurd rfl h,fun _=>hd⟩
abbrev Alw:List Bs:=[([97]:List UInt8),([98]:List UInt8),([99]:List UInt8),([97,98]:List UInt8),([98,97]:List UInt8),([]:List UInt8),([97,97]:List UInt8),([98,32,97]:List UInt8),([120,43,121]:List UInt8),([92]:List UInt8)]
def SS(k:Int):Bs:=Alw.getD (G1 k 10).toNat []
theorem R7(k:Int):(SS k).length≤3:=by
 have hr:=EU (a:=k) (n:=10) (by decide) (by decide);unfold SS;generalize G1 k 10=m at*
 have:m=0∨m=1∨m=2∨m=3∨m=4∨m=5∨m=6∨m=7∨m=8∨m=9:=by omega
 rcases this with rfl|rfl|rfl|rfl|rfl|rfl|rfl|rfl|rfl|rfl<;>decide
def P7(P:Pg):Prop:=∀k:Int,Fn P AeE FO k fun(d:Bs) _=>d=SS k
theorem Aja(h:Has P LM)(hM:LV P):P7 P:=by
 intro k;refine AaO h ?_;unfold Ug;refine hM.at (by decide) (by decide) ?_;have hr:=EU (a:=k) (n:=10) (by decide) (by decide);exact⟨⟨by omega,by simp;omega⟩,by simp;omega,rfl⟩
def HO(raw:List Int)(fr kinds:Int):Nat→Bs
 |0=>[]
 |k+1=>(HO raw fr kinds k++SS (G1 (atF raw (fr+1+(k:Int))) kinds))++[10]
theorem Lr(raw:List Int)(fr kinds:Int):∀k,(HO raw fr kinds k).length≤4*k
 |0=>Qb4 _
 |k+1=>by
  have h1:=Lr raw fr kinds k;have h2:=R7 (G1 (atF raw (fr+1+(k:Int))) kinds);rw[HO,Qa6,Qa6];simp only[Qa0,Qa5];omega
def XM(s:Bs)(z:Int):Bool:=cond (cond ((Int.tmod z (4:Int))==(0:Int)) (decide (((Qa8 s:Nat):Int)>(1:Int))) false) (((UInt8.toNat (Qg7 s (Qc5 (IntKind.i64.wrap (((Qa8 s:Nat):Int) -(2:Int)))) 0):Nat):Int) !=(10:Int)) false
def Qp(raw:List Int)(fr mx kinds:Int):Bs:=
 if XM (HO raw fr kinds (G1 (atF raw fr) (mx+1)).toNat) (atF raw (fr+90))=true then(HO raw fr kinds (G1 (atF raw fr) (mx+1)).toNat).take ((HO raw fr kinds (G1 (atF raw fr) (mx+1)).toNat).length -1)else HO raw fr kinds (G1 (atF raw fr) (mx+1)).toNat
theorem AfQ{raw:List Int}{fr mx kinds:Int}(h0:0≤mx)(h1:mx≤100):(Qp raw fr mx kinds).length≤400:=by
 have hr:=EU (a:=atF raw fr) (n:=mx+1) (by omega) (by omega);have h2:=Lr raw fr kinds (G1 (atF raw fr) (mx+1)).toNat;unfold Qp;split
 ·rw[Qb0];omega
 ·omega
def Sp_BlobF(P:Pg):Prop:=∀x:List Int×(Int×(Int×Int)),(0≤x.2.1∧x.2.1≤1000000)→(0≤x.2.2.1∧x.2.2.1≤100)→(1≤x.2.2.2∧x.2.2.2≤100000)→Fn P AcC EG x fun(d:Bs) _=>d=Qp x.1 x.2.1 x.2.2.1 x.2.2.2
theorem Ai4(h:Has P LL)(hA:OB P)(hM:LV P)(hL:P7 P):Sp_BlobF P:=by
 rintro⟨raw,fr,mx,kinds⟩ ⟨f0,f1⟩ ⟨m0,m1⟩ ⟨k0,k1⟩;dsimp only at f0 f1 m0 m1 k0 k1;refine AaN h ?_;unfold Uf;dsimp only;rw[w64 (n:=mx+1) (by omega) (by omega),w64 (n:=fr+1) (by omega) (by omega),w64 (n:=fr+90) (by omega) (by omega)];refine hA.at f0 (hM.at (by omega) (by omega) ?_);unfold Qp;have hr:=EU (a:=atF raw fr) (n:=mx+1) (by omega) (by omega)
 generalize G1 (atF raw fr) (mx+1)=m at hr⊢
 refine Ac.mid (fun d=>d=HO raw fr kinds m.toNat) ?_ fun d hd=>?_
 ·refine Au.of (fun q=>(0≤q.2∧q.2≤m)∧q.1=HO raw fr kinds q.2.toNat) (fun q=>(m -q.2).toNat) ⟨⟨Qa2 _,hr.1⟩,rfl⟩ ?_;rintro⟨s,i⟩ ⟨⟨i0,i1⟩,hs⟩;dsimp only at i0 i1 hs⊢;have hsl:=Lr raw fr kinds i.toNat;rw[←hs]at hsl;refine⟨fun hi=>?_,fun hi=>by have hi:=of_decide_eq_false hi;rw[hs,show i=m by omega]⟩
  have hi:=of_decide_eq_true hi
  have hnx:HO raw fr kinds (i.toNat+1)=(s++SS (G1 (atF raw (fr+1+i)) kinds))++[10]:=by
   rw[HO,←hs,show((i.toNat:Nat):Int)=i by omega]
  have hll:=R7 (G1 (atF raw (fr+1+i)) kinds)
  refine Ac.mid (fun d=>d=HO raw fr kinds (i.toNat+1)) ?_ fun d hd=>?_
  ·rw[w64 (by omega) (by omega)];refine hA.at (by omega) (hM.at k0 (by omega) ((hL _).to ?_));rintro(ln:Bs) _ hln;have hln:ln=_:=hln;subst hln;refine⟨by omega,by rw[Qa6];simp only[Qa0,Qa5];omega,hnx.symm⟩
  ·rw[w64 (by omega) (by omega)];exact⟨⟨⟨by omega,by omega⟩,by rw[hd,show(i+1).toNat=i.toNat+1 by omega]⟩,by omega⟩
 ·subst hd;have hbl:=Lr raw fr kinds m.toNat;generalize HO raw fr kinds m.toNat=d at hbl⊢;refine hA.at (by omega) ⟨by decide,fun hc=>?_,?_⟩
  ·rw[Qb5]at hc;split at hc
   ·have h1:=of_decide_eq_true hc;rw[w64 (by omega) (by omega)];omega
   ·cases hc
  ·refine Ac.mid (fun e=>e=if XM d (atF raw (fr+90))=true then d.take (d.length -1)else d) ⟨fun hc=>?_,fun hc=>?_⟩ fun _ h=>h
   ·have h1:1<d.length:=by
     rw[Qb5]at hc;split at hc
     ·rename_i h2;rw[Qb5]at h2;split at h2
      ·have:=of_decide_eq_true h2;omega
      ·cases h2
     ·cases hc
    rw[w64 (by omega) (by omega)];refine⟨⟨by omega,by omega⟩,?_⟩
    have hc:XM d (atF raw (fr+90))=true:=by unfold XM;exact hc
    rw[if_pos hc,show(((d.length:Nat):Int) -1).toNat=d.length -1 by omega]
   ·have hc:XM d (atF raw (fr+90))=false:=by unfold XM;exact hc
    rw[if_neg (by rw[hc];exact Bool.false_ne_true)]
theorem TN:∀(s acc:Bs),(lnN acc s).length≤s.length
 |[],acc=>by rw[lnN];exact Qb4 _
 |b::r,acc=>by
  rw[lnN];split
  ·have:=TN r [];simp only[Qa0];omega
  ·have:=TN r (acc++[b]);simp only[Qa0];omega
theorem Adh{s:Bs}(h:s.length≤4000):B6 s=0:=by
 have h1:(lnF s).length≤s.length:=TN s [];unfold B6;rw[if_neg (by omega)]
abbrev Ee:List Bs:=[([97]:List UInt8),([98,47,120]:List UInt8),([98,47,121]:List UInt8),([99,32,100]:List UInt8)]
def Af3(raw:List Int)(fr lines:Int)(i:Nat):Option Ao:=if atF raw (fr+(i:Int))%3>0 then some (Ee.getD i [],Qp raw (fr+10+20*(i:Int)) lines 4)else none
def Tg(raw:List Int)(fr lines:Int)(k:Nat):List Ao:=(Qd9 k).filterMap (Af3 raw fr lines)
def ER(raw:List Int)(fr lines:Int):List Ao:=Tg raw fr lines 4
theorem Af4(raw:List Int)(fr lines:Int)(k:Nat):Tg raw fr lines (k+1)=Tg raw fr lines k++(Af3 raw fr lines k).toList:=by
 unfold Tg;rw[List.range_succ,Qh4]
 cases h:Af3 raw fr lines k with
 |none=>simp[h]
 |some v=>simp[h]
def Ahs(l:List Ao):Prop:=∃q:Nat→Option Bs,(∀i v,q i=some v→v.length≤4000)∧l=(Qd9 4).filterMap fun i=>(q i).map fun v=>(Ee.getD i [],v)
theorem Nh{raw:List Int}{fr lines:Int}(h0:0≤lines)(h1:lines≤100):Ahs (ER raw fr lines):=by
 refine⟨fun i=>if atF raw (fr+(i:Int))%3>0 then some (Qp raw (fr+10+20*(i:Int)) lines 4)else none,fun i v hv=>?_,?_⟩
 ·dsimp only at hv;split at hv
  ·cases hv;have:=AfQ (raw:=raw) (fr:=fr+10+20*(i:Int)) (kinds:=4) h0 h1;omega
  ·cases hv
 ·unfold ER Tg
  congr 1
  funext i
  unfold Af3;dsimp only
  split<;>rfl
theorem Acy{l:List Ao}(h:Ahs l):∃a b c d:Option Bs,(∀v,a=some v∨b=some v∨c=some v∨d=some v→v.length≤4000)∧l=(a.map fun v=>(Ee.getD 0 [],v)).toList++((b.map fun v=>(Ee.getD 1 [],v)).toList++((c.map fun v=>(Ee.getD 2 [],v)).toList++(d.map fun v=>(Ee.getD 3 [],v)).toList)):=by
 obtain⟨q,hq,rfl⟩:=h;refine⟨q 0,q 1,q 2,q 3,fun v hv=>?_,?_⟩
 ·rcases hv with h|h|h|h
  ·exact hq _ _ h
  ·exact hq _ _ h
  ·exact hq _ _ h
  ·exact hq _ _ h
 ·show(Qd9 4).filterMap _=_;rw[show Qd9 4=[0,1,2,3]from rfl]
  cases h0:q 0<;>cases h1:q 1<;>cases h2:q 2<;>cases h3:q 3<;>simp[h0,h1,h2,h3,List.filterMap]
def IU(P:Pg):Prop:=∀x:List Int×(Int×Int),(0≤x.2.1∧x.2.1≤100000)→(0≤x.2.2∧x.2.2≤100)→Fn P zS2 BM x fun(d:List Ao) _=>d=ER x.1 x.2.1 x.2.2
theorem Ai8(h:Has P JN)(hA:OB P)(hB:Sp_BlobF P):IU P:=by
 rintro⟨raw,fr,lines⟩ ⟨f0,f1⟩ ⟨l0,l1⟩;dsimp only at f0 f1 l0 l1;refine Y4 h ?_;unfold Sw;dsimp only
 refine Ac.mid (fun d=>d=ER raw fr lines) ?_ fun _ h=>h
 have hlen4:(Ee:List Bs).length=4:=rfl;unfold ER
 have hsl:∀k,(Tg raw fr lines k).length≤k:=fun k=>by unfold Tg;exact Qc8 (Qc3 ..) (by rw[List.length_range];exact Qb4 _)
 refine Au.of (fun q=>(0≤q.2∧q.2≤4)∧q.1=Tg raw fr lines q.2.toNat) (fun q=>(4 -q.2).toNat) ⟨⟨Qa2 _,by decide⟩,rfl⟩ ?_;rintro⟨o,i⟩ ⟨⟨i0,i1⟩,ho⟩;dsimp only at i0 i1 ho⊢;refine⟨fun hi=>?_,fun hi=>by have hi:=of_decide_eq_false hi;rw[ho,show i=4 by omega];rfl⟩
 have hi:=of_decide_eq_true hi;have hnx:=Af4 raw fr lines i.toNat;have hol:=hsl i.toNat;rw[←ho]at hnx hol;unfold Af3 at hnx;rw[show((i.toNat:Nat):Int)=i by omega]at hnx;have hr:=AfG raw (fr+i)
 have hi4:i<((Qa8 (Ee:List Bs):Nat):Int):=by rw[hlen4];omega
 have hi5:i.toNat<Qa8 (Ee:List Bs):=by rw[hlen4];omega
 have hsz:∀v:Bs,(o.length+([(Ee.getD i.toNat [],v)]:List Ao).length)*32≤140737488355328:=fun v=>by
  simp only[Qa0,Qa5];omega
 refine Ac.mid (fun d=>d=Tg raw fr lines (i.toNat+1)) ?_ fun d hd=>?_
 ·rw[w64 (n:=fr+i) (by omega) (by omega),w64 (n:=fr+10) (by omega) (by omega),w64 (n:=20*i) (by omega) (by omega),w64 (n:=fr+10+20*i) (by omega) (by omega)];refine hA.at (by omega) ⟨by decide,?_⟩;rw[Qd6 hr.1]
  refine Ac.mid (fun d=>d=Tg raw fr lines (i.toNat+1)) ⟨fun hc=>?_,fun hc=>?_⟩ fun _ h=>h
  ·have hc:=of_decide_eq_true hc;rw[if_pos hc]at hnx
   have hbl:∀{K:Bs→Unit→Prop},K (Qp raw (fr+10+20*i) lines 4) ()→Fn P AcC EG (raw,(fr+10+20*i,(lines,(4:Int)))) K:=fun{K} hk=>(hB (raw,(fr+10+20*i,(lines,(4:Int)))) ⟨by dsimp only;omega,by dsimp only;omega⟩ ⟨l0,l1⟩ ⟨(by decide:(1:Int)≤4),(by decide:(4:Int)≤100000)⟩).to fun(d:Bs) _ hd=>by
    have hd:d=_:=hd;subst hd;exact hk
   refine Ac.mid (fun d=>d=Tg raw fr lines (i.toNat+1)) (by repeat' (first|exact trivial|exact i0|exact hi4|exact hi5|exact hsz _|exact hnx.symm|apply And.intro|(refine hbl ?_))) fun _ h=>h
  ·have hc:=of_decide_eq_false hc;rw[if_neg hc]at hnx;rw[hnx];exact(Qg8 o).symm
 ·subst hd;rw[w64 (by omega) (by omega)];exact⟨⟨⟨by omega,by omega⟩,by rw[show(i+1).toNat=i.toNat+1 by omega]⟩,by omega⟩
theorem IU.at(h:IU P){raw:List Int}{fr lines:Int}(f0:0≤fr)(f1:fr≤100000)(l0:0≤lines)(l1:lines≤100){K:List Ao→Unit→Prop}(hk:K (ER raw fr lines) ()):Fn P zS2 BM (raw,(fr,lines)) K:=
 (h (raw,(fr,lines)) ⟨f0,f1⟩ ⟨l0,l1⟩).to fun(d:List Ao) _ hd=>by
  have hd:d=ER raw fr lines:=hd;subst hd;exact hk
theorem YC{l:List Ao}(h:Ahs l):Du l:=by
 obtain⟨q,hq,rfl⟩:=h;refine⟨Qc8 (Qc3 ..) (by decide),fun f hf=>?_⟩;obtain⟨i,hi,he⟩:=List.mem_filterMap.1 hf;obtain⟨v,hv,rfl⟩:=Option.map_eq_some_iff.1 he;have hi:=List.mem_range.1 hi;have hv:=hq i v hv
 have hn:(Ee.getD i []).length≤3:=by
  have:i=0∨i=1∨i=2∨i=3:=by omega
  rcases this with rfl|rfl|rfl|rfl<;>decide
 exact⟨by dsimp only;omega,by dsimp only;omega⟩
theorem Akl{α:Type}[DecidableEq α]{l m:List α}{d:α}(hl:l.length=m.length)(h:∀j,j<l.length→l.getD j d=m.getD j d):decide (l=m)=true:=
 decide_eq_true (AaH d hl h)
theorem Anq{α:Type}[DecidableEq α]{l m:List α}{d:α}(j:Nat)(h:l.getD j d≠m.getD j d):decide (l=m)=false:=
 decide_eq_false fun e=>h (by rw[e])
theorem Ami{α:Type}[DecidableEq α]{l m:List α}(h:((l.length:Nat):Int)≠((m.length:Nat):Int)):decide (l=m)=false:=
 decide_eq_false fun e=>h (by rw[e])
def Rq(a b:List Ao)(d:List Bz×Int):Prop:=d.2=MH a b∧(d.2≠0→d.1=[])∧(d.2=0→LR a b d.1)
theorem AfX{a b:List Ao}{d e:List Bz×Int}(hd:Rq a b d)(he:Rq a b e):d=e:=by
 obtain⟨d1,d2,d3⟩:=hd;obtain⟨e1,e2,e3⟩:=he
 by_cases h:MH a b=0
 ·exact Prod.ext (Abe (d3 (by omega)) (e3 (by omega))) (by rw[d1,e1])
 ·exact Prod.ext (by rw[d2 (by omega),e2 (by omega)]) (by rw[d1,e1])
theorem AdG{a b:List Ao}{d:List Bz}(h:LR a b d):d.length≤a.length+b.length:=by
 have hn:(d.map (·.1)).Nodup:=by
  rw[Qc2,Qe3]
  refine h.1.imp fun{x y} hxy e=>?_
  rw[e,FV]at hxy;cases hxy
 have hs:∀p∈d.map (·.1),p∈(a++b).map (·.1):=fun p hp=>by
  obtain⟨t,ht,rfl⟩:=List.mem_map.1 hp;have:=(h.2 t.1 t.2).1 ht;unfold QM at this;rw[Qb3,Qd8]
  cases h1:Bq a t.1 with
  |some v=>
   obtain⟨f,hf,e⟩:=(DV a t.1).1 (by rw[h1];rfl)
   exact .inl (List.mem_map.2 ⟨f,hf,e⟩)
  |none=>
   cases h2:Bq b t.1 with
   |some v=>
    obtain⟨f,hf,e⟩:=(DV b t.1).1 (by rw[h2];rfl)
    exact .inr (List.mem_map.2 ⟨f,hf,e⟩)
   |none=>rw[h1,h2]at this;cases this
 have:=G2 hn hs;rw[Qb2,Qb2,Qa6]at this;exact this
theorem Pr{a b:List Ao}{d:List Bz×Int}(h:Rq a b d):d.1.length≤a.length+b.length:=by
 by_cases h0:d.2=0
 ·exact AdG (h.2.2 h0)
 ·rw[h.2.1 h0];exact Qd3 _
def Ed(g:List Al)(c:Int):List Ao:=(g.getD c.toNat ([],(0,[]))).2.2
def De(g:List Al)(c:Int):List (List Ao):=if(Bp g c).length=0 then[[]]else(Bp g c).map fun p=>Ed g p
theorem Je{g:List Al}(h:GK g 0):Kp g∧Jl g∧¬Ov g∧RL g∧GO g=0:=by
 have k1:Kp g:=Classical.byContradiction fun k=>by have:=h.1 k;omega
 have k2:Jl g:=Classical.byContradiction fun k=>by have:=h.2.1 k1 k;omega
 have k3:¬Ov g:=fun k=>by have:=h.2.2.1 k1 k2 k;omega
 have k4:RL g:=Classical.byContradiction fun k=>by have:=h.2.2.2.1 k1 k2 k3 k;omega
 exact⟨k1,k2,k3,k4,(h.2.2.2.2 k1 k2 k3 k4).symm⟩
theorem Amc(g:List Al)(c:Int):(cond (decide (c≥(0:Int))) (decide (c<((Qa8 g:Nat):Int))) false)=true↔inR g c:=by
 unfold inR;rw[Qb5]
 by_cases h:c≥0
 ·rw[if_pos (decide_eq_true h)];exact⟨fun k=>⟨h,of_decide_eq_true k⟩,fun k=>decide_eq_true k.2⟩
 ·rw[if_neg (by simpa using h)];exact⟨fun k=>(by cases k),fun k=>absurd k.1 h⟩
theorem Rl{α:Type}{l:List α}{k:Nat}{d:α}(h:k<l.length):l.take (k+1)=l.take k++[l.getD k d]:=by
 rw[Qc4,Qa1,Qa4 h];rfl
def Pd(P:Pg):Prop:=∀x:List Al×Int,inR x.1 x.2→XA x.1→(Bp x.1 x.2).length≤1000000→Fn P AcK Ca x fun(d:List (List Ao)) _=>d=De x.1 x.2
theorem Aem(h:Has P EA):Pd P:=by
 rintro⟨g,c⟩ hc hv hl;dsimp only at hc hv hl;refine Pu h ?_;unfold JX;dsimp only
 have hc2:c.toNat<g.length:=by have:=hc.1;have:=hc.2;omega
 have ez:(g.getD c.toNat Ag).1=Bp g c:=rfl;have hv2:=hv c hc;rw[ez];refine⟨⟨hc.1,hc.2⟩,hc2,fun hb=>?_,fun hb=>⟨⟨hc.1,hc.2⟩,hc2,?_⟩⟩
 ·show[[]]=De g c
  have hb:((Bp g c).length:Int)=0:=by simpa using hb
  unfold De;rw[if_pos (by omega)]
 ·have hb:¬((Bp g c).length:Int)=0:=by simpa using hb
  have et:De g c=(Bp g c).map fun p=>Ed g p:=by unfold De;rw[if_neg (by omega)]
  rw[et];generalize Bp g c=l at hl hv2 hb⊢
  refine Ac.mid (fun d=>d=l.map fun p=>Ed g p) ?_ fun _ h=>h
  refine Au.of (fun q=>(0≤q.2∧q.2≤l.length)∧q.1=(l.take q.2.toNat).map fun p=>Ed g p) (fun q=>(l.length -q.2).toNat) ⟨⟨Qa2 _,by dsimp only;omega⟩,rfl⟩ ?_
  rintro⟨q,i⟩ ⟨⟨i0,i1⟩,hq⟩;dsimp only at i0 i1 hq⊢;refine⟨fun hi=>?_,fun hi=>?_⟩
  ·have hi:=of_decide_eq_true hi
   have hi2:i.toNat<l.length:=by omega
   have hp:=hv2 _ (A7 (d:=0) hi2)
   have hql:q.length=i.toNat:=by rw[hq,Qb2,Qb0];omega
   refine Ac.mid (fun d=>d=(l.take (i.toNat+1)).map fun p=>Ed g p) ⟨⟨i0,hi⟩,hi2,⟨hp.1,hp.2⟩,by have:=hp.1;have:=hp.2;omega,by simp only[Qa0,Qa5];omega,?_⟩ fun d hn=>?_
   ·rw[Rl (d:=0) hi2,Qb3,hq];rfl
   ·rw[w64 (by omega) (by omega)];refine⟨⟨⟨by omega,by omega⟩,?_⟩,by omega⟩;rw[hn,show(i+1).toNat=i.toNat+1 by omega]
  ·have hi:=of_decide_eq_false hi;show q=_;rw[hq,Qa9 (by omega)]
theorem Ank{α:Type}{q r:List α}{k:Nat}{d:α}(h:k<q.length):(q++r).getD k d=q.getD k d:=by
 rw[Qa1,Qg1 h,←Qa1]
theorem Anl{α:Type}{q:List α}{v d:α}:(q++[v]).getD q.length d=v:=by
 rw[Qa1,List.getElem?_append_right (Qb4 _),Nat.sub_self];rfl
theorem PZ{g:List Al}{c:Int}(hl:(Bp g c).length≤1000000):(De g c).length≤1000000∧0<(De g c).length:=by
 unfold De;split
 ·simp
 ·rw[Qb2];omega
theorem YD:∀{g:List Al},GO g=0→∀c∈g,Dq c.2.2=0
 |[],_,c,hc=>(nomatch hc)
 |x::g,h,c,hc=>by
  rw[GO]at h
  by_cases hx:Dq x.2.2=0
  ·rw[if_neg (by simpa using hx)]at h
   rcases List.mem_cons.1 hc with rfl|hc
   ·exact hx
   ·exact YD h c hc
  ·rw[if_pos hx]at h;exact absurd h hx
theorem AhX{l:List Ao}(h:Dq l=0):l.length≤200:=by
 unfold Dq at h;split at h
 ·cases h
 ·omega
theorem N9{g:List Al}(h0:GK g 0)(hs:Z3 g){c:Int}(hc:inR g c):Dq (Ed g c)=0∧Du (Ed g c):=by
 have hm:=DX (g:=g) (i:=c.toNat) (by have:=hc.1;have:=hc.2;omega)
 have h1:=YD (Je h0).2.2.2.2 _ hm;refine⟨h1,?_,hs _ hm⟩;have:=AhX h1;have:(Ed g c).length≤200:=this;omega
theorem Sr{g:List Al}(h0:GK g 0)(hs:Z3 g){c:Int}(hc:inR g c):∀t∈De g c,Dq t=0∧Du t:=by
 intro t ht;unfold De at ht;split at ht
 ·have:t=[]:=by simpa using ht
  subst this;exact⟨by decide,Qd3 _,fun f hf=>nomatch hf⟩
 ·obtain⟨p,hp,rfl⟩:=List.mem_map.1 ht;exact N9 h0 hs (HU (Je h0).2.1 c hc p hp)
theorem R8:∀(s acc:Bs),s≠[]→(lnN acc s).flatten=acc++s
 |[],_,h=>absurd rfl h
 |b::r,acc,_=>by
  rw[lnN];split
  ·by_cases hr:r=[]
   ·subst hr;simp[lnN]
   ·rw[List.flatten_cons,R8 r [] hr];simp
  ·rename_i h
   have hr:r≠[]:=fun e=>h (Or.inr e)
   rw[R8 r (acc++[b]) hr];simp
theorem Agk(s:Bs):(lnF s).flatten=s:=by
 by_cases h:s=[]
 ·subst h;rfl
 ·exact R8 s [] h
theorem Abo(k:Int):(SS k).count 10=0:=by
 have hr:=EU (a:=k) (n:=10) (by decide) (by decide);unfold SS;generalize G1 k 10=m at*
 have:m=0∨m=1∨m=2∨m=3∨m=4∨m=5∨m=6∨m=7∨m=8∨m=9:=by omega
 rcases this with rfl|rfl|rfl|rfl|rfl|rfl|rfl|rfl|rfl|rfl<;>decide
def T7(P:Pg):Prop:=∀x:Bs×(List Int×Int),x.1.length≤4000→(0≤x.2.2∧x.2.2≤1000000)→Fn P Ajv IL x fun(d:Bs) _=>d.length≤x.1.length+4*(x.1.count 10+1)∧d.count 10≤2*x.1.count 10+1
theorem Ajb(h:Has P LN)(hA:OB P)(hL:P7 P)(hN:IV P):T7 P:=by
 rintro⟨s,raw,fr⟩ hs ⟨f0,f1⟩;dsimp only at hs f0 f1;refine AaP h ?_;unfold Uh;dsimp only;refine(hN s (by omega)).to ?_;rintro(l:List Bs) _ hl;have hl:l=lnF s:=hl
 have hlen:l.length≤s.count 10+1:=by
  have:=Ae6 s;rw[hl]
  split at this<;>omega
 have hlen2:l.length≤s.length:=by rw[hl];exact TN s []
 have hfl:l.flatten=s:=by rw[hl];exact Agk s
 clear hl
 have hpre:∀k,k<l.length→(l.take (k+1)).flatten=(l.take k).flatten++l.getD k []:=fun k hk=>by
  rw[Qc4,Qa4 hk,Qf6,Qa1,Qa4 hk];simp
 have hle:∀k,(l.take k).flatten.length≤s.length∧(l.take k).flatten.count 10≤s.count 10:=fun k=>by
  have:l.flatten=(l.take k).flatten++(l.drop k).flatten:=by rw[←Qf6,Qh3]
  rw[hfl]at this;have h1:=congrArg Qa8 this;have h2:=congrArg (List.count (10:UInt8)) this;rw[Qa6]at h1;rw[Qc1]at h2;omega
 rw[w64 (n:=fr+40) (by omega) (by omega)]
 refine Ac.mid (fun d=>d.length≤s.length+4*(s.count 10+1)∧d.count 10≤2*s.count 10+1) ?_ fun _ h=>h
 refine Au.of (fun q=>(0≤q.2∧q.2≤l.length)∧(q.1.length:Int)≤4*q.2+((l.take q.2.toNat).flatten.length:Nat)∧(q.1.count 10:Int)≤q.2+((l.take q.2.toNat).flatten.count 10:Nat)) (fun q=>(l.length -q.2).toNat) ⟨⟨Qa2 _,Qa3 _⟩,by simp,by simp⟩ ?_;rintro⟨d,i⟩ ⟨⟨i0,i1⟩,hd,hc⟩;dsimp only at i0 i1 hd hc⊢;have hti:=hle i.toNat
 refine⟨fun hi=>?_,fun hi=>by have hi:=of_decide_eq_false hi;omega⟩
 have hi:=of_decide_eq_true hi
 have hi2:i.toNat<l.length:=by omega
 have hp:=congrArg Qa8 (hpre i.toNat hi2);have hp2:=congrArg (List.count (10:UInt8)) (hpre i.toNat hi2);rw[Qa6]at hp;rw[Qc1]at hp2;have htj:=hle (i.toNat+1)
 refine Ac.mid (fun d=>(d.length:Int)≤4*(i+1)+((l.take (i.toNat+1)).flatten.length:Nat)∧(d.count 10:Int)≤i+1+((l.take (i.toNat+1)).flatten.count 10:Nat)) ?_ fun d hd=>?_
 ·rw[w64 (n:=fr+i) (by omega) (by omega),w64 (n:=fr+40+i) (by omega) (by omega)];refine hA.at (by omega) ⟨by decide,?_⟩
  refine Ac.mid (fun e=>(e.length:Int)≤4*i+((l.take i.toNat).flatten.length:Nat)+4∧(e.count 10:Int)≤i+((l.take i.toNat).flatten.count 10:Nat)+1) ⟨fun _=>by omega,fun _=>?_⟩ fun e he=>?_
  ·refine Ac.mid (fun e=>(e.length:Int)≤4*i+((l.take i.toNat).flatten.length:Nat)+4∧(e.count 10:Int)≤i+((l.take i.toNat).flatten.count 10:Nat)+1) ⟨fun _=>?_,fun _=>by omega⟩ fun _ h=>h
   refine hA.at (by omega) ((hL _).to ?_);rintro(ln:Bs) _ hln;have hln:ln=SS _:=hln;have hl1:=R7 (atF raw (fr+40+i));have hl2:=Abo (atF raw (fr+40+i));rw[←hln]at hl1 hl2;refine⟨by omega,by rw[Qa6];simp only[Qa0,Qa5];omega,?_⟩
   try dsimp only
   rw[Qa6,Qa6,Qc1,Qc1,hl2];simp only[Qa0,Qa5,List.count_singleton_self];omega
  ·refine⟨⟨i0,hi⟩,hi2,by omega,?_⟩
   try dsimp only
   rw[Qa6,Qc1];omega
 ·rw[w64 (by omega) (by omega),show(i+1).toNat=i.toNat+1 by omega];exact⟨⟨⟨by omega,by omega⟩,hd.1,hd.2⟩,by omega⟩
def Ut(B:Nat)(v:Bs):Prop:=v.count 10+1≤B∧v.length+4≤4*B
def IY(B:Nat)(l:List Ao):Prop:=(l.map (·.1)).Sublist Ee∧∀f∈l,Ut B f.2
theorem IY.mono{B C:Nat}{l:List Ao}(h:IY B l)(hB:B≤C):IY C l:=⟨h.1,fun f hf=>by have:=h.2 f hf;unfold Ut at*;omega⟩
theorem AdK:∀p∈Ee,CO p=0:=by decide
theorem Agn:Ee.Pairwise fun p q=>Op.bytesLess p q=true∧GV p q=false:=by decide
theorem PY{B:Nat}{l:List Ao}(h:IY B l):l.length≤4:=by
 have:=h.1.length_le;rw[Qb2]at this;exact this
theorem Ahe{B:Nat}{l:List Ao}(h:IY B l)(hB:B≤1000):Dq l=0:=by
 have hl:=PY h
 have hp:l.all (fun f=>CO f.1==0)=true:=by
  rw[Qe5];intro f hf;rw[AdK f.1 (h.1.subset (List.mem_map.2 ⟨f,hf,rfl⟩))];rfl
 have ho:VB l=true:=by
  rw[QX];have hpw:=Agn.sublist h.1;rw[Qe3,Qd0]at hpw;intro i hi k hk;have:=hpw k i (by omega) hi hk;unfold pth;rw[Qa1,Qa1,Qa4 hi,Qa4 (Nat.lt_trans hk hi)];exact this
 have hc:l.all (fun f=>B6 f.2==0)=true:=by
  rw[Qe5];intro f hf;have:=(h.2 f hf).2;rw[Adh (by omega)];rfl
 unfold Dq;rw[if_neg (by omega),if_neg (by rw[hp];simp),if_neg (by rw[ho];simp),if_neg (by rw[hc];simp)]
theorem Agm:∀p∈Ee,p.length≤3:=by decide
theorem Ajr{B:Nat}{l:List Ao}(h:IY B l)(hB:B≤1000):Du l:=⟨by have:=PY h;omega,fun f hf=>by
 have h1:=Agm f.1 (h.1.subset (List.mem_map.2 ⟨f,hf,rfl⟩));have h2:=(h.2 f hf).2
 omega⟩
theorem Aau(raw:List Int)(fr kinds:Int):∀k,(HO raw fr kinds k).count 10=k
 |0=>rfl
 |k+1=>by
  rw[HO,Qc1,Qc1,Aau raw fr kinds k,Abo];rfl
theorem Akd{raw:List Int}{fr mx kinds:Int}(h0:0≤mx)(h1:mx≤100):Ut (mx.toNat+1) (Qp raw fr mx kinds):=by
 have hr:=EU (a:=atF raw fr) (n:=mx+1) (by omega) (by omega);have h2:=Lr raw fr kinds (G1 (atF raw fr) (mx+1)).toNat;have h3:=Aau raw fr kinds (G1 (atF raw fr) (mx+1)).toNat;unfold Qp Ut;split
 ·have h4:=(List.take_sublist ((HO raw fr kinds (G1 (atF raw fr) (mx+1)).toNat).length -1) (HO raw fr kinds (G1 (atF raw fr) (mx+1)).toNat)).count_le (10:UInt8);rw[Qb0];omega
 ·omega
theorem TP(p:Bs)(o:Option Bs):(((o.map fun v=>(p,v)).toList).map (·.1)).Sublist [p]:=by cases o<;>simp
theorem AaI{raw:List Int}{fr lines:Int}(h0:0≤lines)(h1:lines≤100):IY (lines.toNat+1) (ER raw fr lines):=by
 refine⟨?_,fun f hf=>?_⟩
 ·obtain⟨a,b,c,d,_,hl⟩:=Acy (Nh (raw:=raw) (fr:=fr) h0 h1);rw[hl,Qb3,Qb3,Qb3];exact(TP (Ee.getD 0 []) a).append ((TP (Ee.getD 1 []) b).append ((TP (Ee.getD 2 []) c).append (TP (Ee.getD 3 []) d)))
 ·unfold ER Tg at hf;obtain⟨i,_,hi⟩:=List.mem_filterMap.1 hf;unfold Af3 at hi;split at hi
  ·have:=Qi1 hi;rw[←this];exact Akd h0 h1
  ·cases hi
theorem Abt{l:List Ao}{i:Nat}(h:i<l.length):(l.take (i+1)).map (·.1)=(l.take i).map (·.1)++[(l.getD i ([],[])).1]:=by
 rw[Rl (d:=([],[])) h,Qb3];rfl
def Aaf(B:Nat)(l:List Ao)(i:Nat)(d:List Ao):Prop:=(d.map (·.1)).Sublist ((l.take i).map (·.1))∧∀f∈d,Ut B f.2
theorem AfT{B:Nat}{l d:List Ao}{i:Nat}(h:Aaf B l i d)(hi:i<l.length):Aaf B l (i+1) d:=⟨by rw[Abt hi];exact h.1.trans (List.sublist_append_left _ _),h.2⟩
theorem AhV{B:Nat}{l d:List Ao}{i:Nat}{v:Bs}(h:Aaf B l i d)(hi:i<l.length)(hv:Ut B v):Aaf B l (i+1) (d++[((l.getD i ([],[])).1,v)]):=by
 refine⟨?_,fun f hf=>?_⟩
 ·rw[Abt hi,Qb3];exact h.1.append (List.Sublist.refl _)
 ·rcases List.mem_append.1 hf with hf|hf
  ·exact h.2 f hf
  ·rw[List.mem_singleton.1 hf];exact hv
theorem AhW{B:Nat}{l d:List Ao}{i:Nat}(h:Aaf B l i d)(hl:l.length≤4):d.length≤4:=by
 have:=h.1.length_le;rw[Qb2,Qb2,Qb0]at this;omega
def Rr(P:Pg):Prop:=∀(B:Nat) (x:List Ao×(List Int×(Int×Int))),IY B x.1→x.2.2.2.toNat+1≤B→B≤900→(0≤x.2.2.1∧x.2.2.1≤90000)→(0≤x.2.2.2∧x.2.2.2≤100)→Fn P Ajw Gc x fun(d:List Ao) _=>IY (2*B) d
theorem AgS(h:Has P H6)(hA:OB P)(hM:LV P)(hN:T7 P)(hF:IU P):Rr P:=by
 rintro B ⟨l,raw,fr,lines⟩ hl hB hB2 ⟨f0,f1⟩ ⟨l0,l1⟩;dsimp only at hl hB f0 f1 l0 l1;have hl4:=PY hl;refine Wu h ?_;unfold Qa;dsimp only;rw[w64 (n:=fr+3) (by omega) (by omega),w64 (n:=fr+5) (by omega) (by omega),w64 (n:=fr+7) (by omega) (by omega)];refine hA.at (by omega) (hM.at (by decide) (by decide) ?_);generalize G1 (atF raw (fr+3)) 4=k
 refine Ac.mid (fun d=>Aaf (2*B) l l.length d) ?_ fun d hd=>⟨fun _=>?_,fun _=>?_⟩
 ·refine Au.of (fun q=>(0≤q.2∧q.2≤l.length)∧Aaf (2*B) l q.2.toNat q.1) (fun q=>(l.length -q.2).toNat) ⟨⟨Qa2 _,Qa3 _⟩,by exact⟨by simp,fun f hf=>nomatch hf⟩⟩ ?_;rintro⟨d,i⟩ ⟨⟨i0,i1⟩,hd⟩;dsimp only at i0 i1 hd⊢;refine⟨fun hi=>?_,fun hi=>by have hi:=of_decide_eq_false hi;rw[show i.toNat=l.length by omega]at hd;exact hd⟩
  have hi:=of_decide_eq_true hi
  have hi2:i.toNat<l.length:=by omega
  have hb:=hl.2 _ (A7 (d:=([],[])) hi2);have hb0:=hb;unfold Ut at hb0;have hdl:=AhW hd hl4
  refine Ac.mid (fun d=>Aaf (2*B) l (i.toNat+1) d) ⟨⟨i0,hi⟩,hi2,?_⟩ fun d hn=>?_
  ·refine Ac.mid (fun f=>f.1=(l.getD i.toNat ([],[])).1∧Ut (2*B) f.2) ⟨fun _=>?_,fun _=>⟨rfl,by unfold Ut;omega⟩⟩ fun f hf=>⟨by simp only[Qa0,Qa5];omega,?_⟩
   ·refine(hN ((l.getD i.toNat ([],[])).2,(raw,fr+7)) (by dsimp only;omega) ⟨by dsimp only;omega,by dsimp only;omega⟩).to ?_
    rintro(v:Bs) _ hv;have hv:v.length≤(l.getD i.toNat ([],[])).2.length+4*((l.getD i.toNat ([],[])).2.count 10+1)∧v.count 10≤2*(l.getD i.toNat ([],[])).2.count 10+1:=hv
    have hvb:Ut (2*B) v:=by unfold Ut;omega
    exact hA.at (by omega) ⟨by decide,fun _=>AfT hd hi2,fun _=>⟨rfl,hvb⟩⟩
   ·obtain⟨a,b⟩:=f;have e:a=(l.getD i.toNat ([],[])).1:=hf.1;subst e;exact AhV hd hi2 hf.2
  ·rw[w64 (by omega) (by omega)];exact⟨⟨⟨by omega,by omega⟩,by rw[show(i+1).toNat=i.toNat+1 by omega];exact hn⟩,by omega⟩
 ·refine(hF (raw,(fr,lines)) ⟨by dsimp only;omega,by dsimp only;omega⟩ ⟨l0,l1⟩).to ?_
  rintro(e:List Ao) _ he;have he:e=ER raw fr lines:=he;rw[he];exact(AaI l0 l1).mono (by omega)
 ·refine⟨?_,hd.2⟩;have:=hd.1;rw[List.take_length]at this;exact this.trans hl.1
def Lh(i:Int)(l:List Int):Prop:=l.length≤3∧l.Nodup∧∀p∈l,0≤p∧p<i
def OkC(B:Nat)(i:Nat)(c:Al):Prop:=Lh (i:Int) c.1∧(0≤c.2.1∧c.2.1<5)∧IY (B*2^i) c.2.2
def GU(B:Nat)(g:List Al):Prop:=∀j,j<g.length→OkC B j (g.getD j ([],(0,[])))
theorem Lh.mono{i k:Int}{l:List Int}(h:Lh i l)(hk:i≤k):Lh k l:=⟨h.1,h.2.1,fun p hp=>by have:=h.2.2 p hp;omega⟩
theorem Lh.app{i:Int}{l:List Int}(h:Lh i l)(h0:0≤i)(hl:l.length<3):Lh (i+1) (l++[i]):=by
 refine⟨by rw[Qa6];simp only[Qa0,Qa5];omega,?_,fun p hp=>?_⟩
 ·rw[Qe4];refine⟨h.2.1,by simp,fun a ha b hb=>?_⟩;rw[List.mem_singleton.1 hb];have:=h.2.2 a ha;omega
 ·rcases List.mem_append.1 hp with hp|hp
  ·have:=h.2.2 p hp;omega
  ·rw[List.mem_singleton.1 hp];omega
theorem GU.app{B:Nat}{g:List Al}{c:Al}(h:GU B g)(hc:OkC B g.length c):GU B (g++[c]):=by
 intro j hj;rw[Qa6,List.length_singleton]at hj
 by_cases hjg:j<g.length
 ·rw[Ank hjg];exact h j hjg
 ·have e:j=g.length:=by omega
  subst e;rw[Anl];exact hc
theorem Ant{B i:Nat}(hB:B≤3)(hi:i≤8):B*2^i≤768:=Nat.mul_le_mul hB (Qf3 (by decide) hi:2^i≤2^8)
theorem Amr{B i p:Nat}(h:p<i):2*(B*2^p)≤B*2^i:=by
 have h1:2^(p+1)≤2^i:=Qf3 (by decide) h
 have h2:2*(B*2^p)=B*2^(p+1):=by rw[Nat.pow_succ,Nat.mul_comm 2,Nat.mul_assoc]
 rw[h2];exact Nat.mul_le_mul_left _ h1
theorem pow_one(B i:Nat):B≤B*2^i:=Nat.le_mul_of_pos_right _ (Nat.pow_pos (by decide))
theorem Ux{a b:Bool}(h:(cond a b false)=true):a=true∧b=true:=by cases a<;>simp_all
def Wn(n:Nat)(c:Al):Al:=(c.1.map fun p=>(n:Int) -1 -p,c.2)
def Aht(g d:List Al):Prop:=d=g∨(d.length=g.length∧∀c,c<g.length→d.getD (g.length -1 -c) ([],(0,[]))=Wn g.length (g.getD c ([],(0,[]))))
theorem AaZ{α:Type}{l:List α}{i:Nat}{v d:α}(h:i<l.length):(l.set i v).getD i d=v:=by
 rw[Qa1,List.getElem?_set_self h];rfl
theorem getD_set_ne{α:Type}{l:List α}{i j:Nat}{v d:α}(h:i≠j):(l.set i v).getD j d=l.getD j d:=by
 rw[Qa1,List.getElem?_set_ne h,←Qa1]
def Rz(P:Pg):Prop:=∀x:List Al×List Int,x.1.length≤1000→(∀j,j<x.1.length→(x.1.getD j ([],(0,[]))).1.length≤1000∧∀p∈(x.1.getD j ([],(0,[]))).1,0≤p∧p<(x.1.length:Int))→Fn P Ajx Gb x fun(d:List Al) _=>Aht x.1 d
theorem Ag5(h:Has P H5)(hA:OB P):Rz P:=by
 rintro⟨g,raw⟩ hg hp;dsimp only at hg hp;refine Wt h ?_;unfold P9;dsimp only;refine hA.at (by decide) ⟨by decide,fun _=>Or.inl rfl,fun _=>⟨⟨by omega,by omega,by omega⟩,?_⟩⟩
 refine Ac.mid (fun d=>d.length=g.length∧∀c,c<g.length→d.getD (g.length -1 -c) ([],(0,[]))=Wn g.length (g.getD c ([],(0,[])))) ?_ fun _ h=>Or.inr h
 refine Au.of (fun q=>(0≤q.2∧q.2≤g.length)∧q.1.length=g.length∧∀c,c<q.2.toNat→q.1.getD (g.length -1 -c) ([],(0,[]))=Wn g.length (g.getD c ([],(0,[])))) (fun q=>(g.length -q.2).toNat) ⟨⟨Qa2 _,Qa3 _⟩,by simp,fun c hc=>absurd hc (by simp)⟩ ?_;rintro⟨d,i⟩ ⟨⟨i0,i1⟩,hdl,hd⟩;dsimp only at i0 i1 hdl hd⊢
 refine⟨fun hi=>?_,fun hi=>by have hi:=of_decide_eq_false hi;exact⟨hdl,fun c hc=>hd c (by omega)⟩⟩
 have hi:=of_decide_eq_true hi
 have hi2:i.toNat<g.length:=by omega
 obtain⟨hpl,hpp⟩:=hp i.toNat hi2
 refine Ac.mid (fun d=>d.length=g.length∧∀c,c<i.toNat+1→d.getD (g.length -1 -c) ([],(0,[]))=Wn g.length (g.getD c ([],(0,[])))) ⟨⟨i0,hi⟩,hi2,?_⟩ fun d2 hn=>?_
 ·have ez:g.getD i.toNat Ag=g.getD i.toNat ([],(0,[])):=rfl;rw[ez]
  refine Ac.mid (fun y=>y=Wn g.length (g.getD i.toNat ([],(0,[])))) ?_ fun y hy=>?_
  ·generalize g.getD i.toNat ([],(0,[]))=cm at hpl hpp⊢;obtain⟨l,r⟩:=cm;dsimp only at hpl hpp⊢;refine Au.of (fun q=>(0≤q.1∧q.1≤l.length)∧q.2=((l.take q.1.toNat).map (fun p=>(g.length:Int) -1 -p),r)) (fun q=>(l.length -q.1).toNat) ⟨⟨Qa2 _,Qa3 _⟩,rfl⟩ ?_;rintro⟨k,x⟩ ⟨⟨k0,k1⟩,hx⟩;dsimp only at k0 k1 hx⊢;subst hx
   refine⟨⟨i0,hi⟩,hi2,fun hk=>?_,fun hk=>?_⟩
   ·have hk:=of_decide_eq_true hk
    have hk2:k.toNat<l.length:=by omega
    have hb:=hpp _ (A7 (d:=0) hk2)
    have hnx:(l.take (k.toNat+1)).map (fun p=>(g.length:Int) -1 -p)=(l.take k.toNat).map (fun p=>(g.length:Int) -1 -p)++[(g.length:Int) -1 -l.getD k.toNat 0]:=by
     rw[Rl (d:=0) hk2,Qb3];rfl
    have hsz:(((l.take k.toNat).map (fun p=>(g.length:Int) -1 -p)).length+([(g.length:Int) -1 -l.getD k.toNat 0]:List Int).length)*8≤140737488355328:=by
     rw[Qb2,Qb0];simp only[Qa0,Qa5];omega
    rw[w64 (n:=(g.length:Int) -1) (by omega) (by omega),w64 (n:=(g.length:Int) -1 -l.getD k.toNat 0) (by omega) (by omega)]
    refine Ac.mid (fun y=>y=((l.take (k.toNat+1)).map (fun p=>(g.length:Int) -1 -p),r)) ?_ fun y hy=>?_
    ·refine Ac.mid (fun y=>y=((l.take (k.toNat+1)).map (fun p=>(g.length:Int) -1 -p),r)) ?_ fun y hy=>hy
     have hj:(((l.take k.toNat).map (fun p=>(g.length:Int) -1 -p)++([(g.length:Int) -1 -l.getD k.toNat 0]:List Int),r):Al)=((l.take (k.toNat+1)).map (fun p=>(g.length:Int) -1 -p),r):=by rw[hnx]
     exact⟨⟨i0,hi⟩,hi2,⟨k0,hk⟩,hk2,⟨⟨⟨hsz,hj,trivial⟩,trivial⟩,trivial⟩,⟨⟨hsz,hj,trivial⟩,trivial⟩,trivial⟩
    ·subst hy;rw[w64 (by omega) (by omega)];exact⟨⟨⟨by omega,by omega⟩,by rw[show(k+1).toNat=k.toNat+1 by omega]⟩,by omega⟩
   ·have hk:=of_decide_eq_false hk;show((l.take k.toNat).map _,r)=Wn g.length (l,r);rw[Qa9 (by omega)];rfl
  ·rw[w64 (n:=(g.length:Int) -1) (by omega) (by omega),w64 (n:=(g.length:Int) -1 -i) (by omega) (by omega)]
   have e:((g.length:Int) -1 -i).toNat=g.length -1 -i.toNat:=by omega
   rw[e];refine⟨⟨by omega,by omega⟩,by omega,?_,fun c hc=>?_⟩
   ·rw[Qc9];exact hdl
   ·by_cases hci:c=i.toNat
    ·subst hci;rw[AaZ (by omega)];exact hy
    ·rw[getD_set_ne (by omega)];exact hd c (by omega)
 ·rw[w64 (by omega) (by omega)];exact⟨⟨⟨by omega,by omega⟩,hn.1,by rw[show(i+1).toNat=i.toNat+1 by omega];exact hn.2⟩,by omega⟩
theorem AiR{g:List Al}(hv:XA g)(f:Int→Int)(h:∀c,inR g c→∀p∈Bp g c,f p<f c){a b:Int}(hr:Rch g a b):inR g a→f b≤f a:=by
 induction hr with
 |refl c=>exact fun _=>Qa2 _
 |step hm t ih=>
  intro ha;have h1:=h _ ha _ hm;have h2:=ih (hv _ ha _ hm);omega
theorem Amj{g:List Al}(hv:XA g)(f:Int→Int)(h:∀c,inR g c→∀p∈Bp g c,f p<f c):¬Ov g:=by
 rintro⟨c,hc,p,hp,hr⟩;have h1:=h c hc p hp;have h2:=AiR hv f h hr (hv c hc p hp);omega
theorem Ak3{n:Nat}{l:List Int}(hn:l.Nodup)(h:∀p∈l,0≤p∧p<(n:Int)):Tu n l:=by
 intro j hj;refine⟨h _ (A7 hj),fun hm=>?_⟩;obtain⟨i,hi⟩:=Qb9 hm;have hi2:i<(l.take j).length:=(List.getElem?_eq_some_iff.1 hi).1;rw[Qb0]at hi2;rw[Qg5 (by omega),Qa4 (by omega),Qa1,Qa4 hj,Qb8]at hi
 rw[Qc2,Qd0]at hn;exact hn i j (by omega) hj (by omega) (Qi1 hi)
def Aho(n:Nat)(g:List Al):Prop:=g.length≤n∧GK g 0∧Z3 g∧∀c∈g,IY 768 c.2.2∧c.1.length≤3
theorem Wi:∀{g:List Al},(∀c∈g,Dq c.2.2=0)→GO g=0
 |[],_=>rfl
 |c::g,h=>by
  rw[GO,if_neg (by simpa using h c (Qb1 ..))]
  exact Wi fun x hx=>h x (Qa7 _ hx)
theorem AeZ{n:Nat}{g:List Al}(hn:g.length≤n)(hn2:n≤9)(f:Int→Int)(h:∀j,j<g.length→(g.getD j ([],(0,[]))).1.length≤3∧(g.getD j ([],(0,[]))).1.Nodup∧(∀p∈(g.getD j ([],(0,[]))).1,(0≤p∧p<(g.length:Int))∧f p<f j)∧(0≤(g.getD j ([],(0,[]))).2.1∧(g.getD j ([],(0,[]))).2.1<5)∧IY 768 (g.getD j ([],(0,[]))).2.2):Aho n g:=by
 have hT:∀c∈g,IY 768 c.2.2∧c.1.length≤3:=CT (d:=([],(0,[]))) fun j hj=>⟨(h j hj).2.2.2.2,(h j hj).1⟩
 have hrel:Jl g:=CT (d:=([],(0,[]))) (p:=fun c=>Tu g.length c.1) fun j hj=>Ak3 (h j hj).2.1 fun p hp=>((h j hj).2.2.1 p hp).1
 have hv:=HU hrel;refine⟨hn,Vl ⟨by omega,fun c hc=>Qc8 (hT c hc).2 (by decide)⟩ hrel (Amj hv f fun c hc p hp=>?_) (CT (d:=([],(0,[]))) (p:=fun c=>0≤c.2.1∧c.2.1≤2147483647) fun j hj=>by have:=(h j hj).2.2.2.1;omega) (Wi fun c hc=>Ahe (hT c hc).1 (by decide)).symm,fun c hc=>(Ajr (hT c hc).1 (by decide)).2,hT⟩
 have h0:=hc.1;have h1:=hc.2;have:=((h c.toNat (by omega)).2.2.1 p hp).2;rw[show((c.toNat:Nat):Int)=c by omega]at this;exact this
def okB(B n:Nat):Prop:=(B≤3∧n≤9)∨(B≤5∧n≤8)
theorem AdU{B n i:Nat}(h:okB B n)(hi:i<n):B*2^i≤768:=by
 rcases h with⟨h1,h2⟩|⟨h1,h2⟩
 ·exact Ant h1 (by omega)
 ·exact Qc8 (Nat.mul_le_mul h1 (Qf3 (by decide) (show i≤7 by omega):2^i≤2^7)) (by decide)
theorem Anm{B n:Nat}{g:List Al}(hB:okB B n)(hn:g.length≤n)(hn2:n≤9)(h:GU B g):Aho n g:=AeZ hn hn2 (fun x=>x) fun j hj=>by
 obtain⟨⟨h1,h2,h3⟩,h4,h5⟩:=h j hj;exact⟨h1,h2,fun p hp=>⟨by have:=h3 p hp;omega,(h3 p hp).2⟩,h4,h5.mono (AdU hB (by omega))⟩
theorem Agq{α β:Type}{f:α→β}(hf:∀a b,f a=f b→a=b){l:List α}(h:l.Nodup):(l.map f).Nodup:=by
 rw[Qc2]at*;rw[Qe3]
 exact h.imp fun hne e=>hne (hf _ _ e)
theorem Alr{B n:Nat}{g d:List Al}(hB:okB B n)(hn:g.length≤n)(hn2:n≤9)(h:GU B g)(ht:Aht g d):Aho n d:=by
 rcases ht with rfl|⟨hl,ht⟩
 ·exact Anm hB hn hn2 h
 ·refine AeZ (by omega) hn2 (fun x=>-x) fun j hj=>?_
  have e:=ht (g.length -1 -j) (by omega);rw[show g.length -1 -(g.length -1 -j)=j by omega]at e;rw[e];obtain⟨⟨h1,h2,h3⟩,h4,h5⟩:=h (g.length -1 -j) (by omega);refine⟨by unfold Wn;rw[Qb2];exact h1,Agq (fun a b e=>by omega) h2,fun p hp=>?_,h4,h5.mono (AdU hB (by omega))⟩
  obtain⟨q,hq,rfl⟩:=List.mem_map.1 hp;have:=h3 q hq;omega
def Rs(P:Pg):Prop:=∀x:List Int×(Int×Int),0≤x.2.1→0≤x.2.2→okB (x.2.2.toNat+1) x.2.1.toNat→Fn P Ajy HJ x fun(d:List Al) _=>Aho x.2.1.toNat d
theorem AgV(h:Has P JO)(hA:OB P)(hM:LV P)(hF:IU P)(hC:Rr P)(hT:Rz P):Rs P:=by
 rintro⟨raw,n,lines⟩ n0 l0 hB;dsimp only at n0 l0 hB
 have n1:n≤9:=by rcases hB with h|h<;>omega
 have l1:lines≤4:=by rcases hB with h|h<;>omega
 refine Y5 h ?_;unfold Sx;dsimp only;rw[w64 (n:=n+1) (by omega) (by omega)];refine hA.at (by decide) (hM.at (by omega) (by omega) ?_);have hr:=EU (a:=atF raw 0) (n:=n+1) (by omega) (by omega);generalize G1 (atF raw 0) (n+1)=m at hr⊢
 refine Ac.mid (fun g=>g.length=m.toNat∧GU (lines.toNat+1) g) ?_ fun g hg=>?_
 ·refine Au.of (fun q=>(0≤q.2∧q.2≤m)∧q.1.length=q.2.toNat∧GU (lines.toNat+1) q.1) (fun q=>(m -q.2).toNat) ⟨⟨Qa2 _,hr.1⟩,rfl,fun j hj=>absurd hj (by simp)⟩ ?_;rintro⟨g,i⟩ ⟨⟨i0,i1⟩,hgl,hg⟩;dsimp only at i0 i1 hgl hg⊢;refine⟨fun hi=>?_,fun hi=>by have hi:=of_decide_eq_false hi;exact⟨by omega,hg⟩⟩
  have hi:=of_decide_eq_true hi
  refine Ac.mid (fun g=>g.length=i.toNat+1∧GU (lines.toNat+1) g) ?_ fun g2 hn=>?_
  ·rw[w64 (n:=1000+i) (by omega) (by omega),w64 (n:=40*i) (by omega) (by omega),w64 (n:=1100+40*i) (by omega) (by omega),w64 (n:=1500+i) (by omega) (by omega),w64 (n:=200*i) (by omega) (by omega),w64 (n:=2000+200*i) (by omega) (by omega),w64 (n:=1600+i) (by omega) (by omega),w64 (n:=i -1) (by omega) (by omega)]
   refine hA.at (by omega) (hM.at (by decide) (by decide) ?_);have hdr:=EU (a:=atF raw (1000+i)) (n:=5) (by decide) (by decide);generalize G1 (atF raw (1000+i)) 5=dt at hdr⊢
   refine Ac.mid (fun x=>Lh i x.1∧x.2=(dt,[])) ?_ fun x hx=>?_
   ·refine Au.of (fun q=>(0≤q.1∧q.1≤i)∧Lh q.1 q.2.1∧q.2.2=(dt,[])) (fun q=>(i -q.1).toNat) ⟨⟨Qa2 _,i0⟩,⟨Qd3 _,List.nodup_nil,fun p hp=>nomatch hp⟩,rfl⟩ ?_;rintro⟨p,⟨l,r⟩⟩ ⟨⟨p0,p1⟩,hl,hrr⟩;dsimp only at p0 p1 hl hrr⊢;refine⟨fun hp=>?_,fun hp=>by have hp:=of_decide_eq_false hp;exact⟨hl.mono (by omega),hrr⟩⟩
    have hp:=of_decide_eq_true hp
    refine Ac.mid (fun x=>Lh (p+1) x.1∧x.2=(dt,[])) ?_ fun x hx=>?_
    ·rw[w64 (n:=1100+40*i+p) (by omega) (by omega)];refine hA.at (by omega) ⟨by decide,?_⟩
     refine Ac.mid (fun x=>Lh (p+1) x.1∧x.2=(dt,[])) ⟨fun hb=>?_,fun _=>⟨hl.mono (by omega),hrr⟩⟩ fun _ h=>h
     have hb2:=of_decide_eq_true (Ux hb).2;exact⟨by simp only[Qa0,Qa5];omega,hl.app p0 (by omega),hrr⟩
    ·rw[w64 (by omega) (by omega)];exact⟨⟨⟨by omega,by omega⟩,hx.1,hx.2⟩,by omega⟩
   ·refine Ac.mid (fun _=>True) ⟨fun _=>hA.at (by omega) trivial,fun _=>trivial,trivial⟩ fun d27 _=>⟨fun _=>by decide,?_⟩
    refine Ac.mid (fun y=>Lh i y.1∧y.2=(dt,[])) ⟨fun hb=>?_,fun _=>hx⟩ fun y hy=>?_
    ·have hi0:=of_decide_eq_true (Ux (Ux hb).1).2;exact⟨⟨Nat.succ_le_succ (Qd3 _),by simp,fun p hp=>by rw[List.mem_singleton.1 hp];omega⟩,hx.2⟩
    ·obtain⟨hy1,hy2⟩:=hy;refine(hF (raw,(2000+200*i,lines)) ⟨by dsimp only;omega,by dsimp only;omega⟩ ⟨l0,by dsimp only;omega⟩).to ?_
     rintro(fl:List Ao) _ hfl;have hfl:fl=ER raw (2000+200*i) lines:=hfl
     have hfs:IY (lines.toNat+1) fl:=by rw[hfl];exact AaI l0 (by omega)
     refine Ac.mid (fun _=>True) ⟨fun _=>hA.at (by omega) trivial,fun _=>trivial,trivial⟩ fun d34 _=>⟨fun _=>by decide,?_⟩
     have hii:((i.toNat:Nat):Int)=i:=by omega
     have hy1':Lh ((i.toNat:Nat):Int) y.1:=by rw[hii];exact hy1
     have hdt:0≤y.2.1∧y.2.1<5:=by rw[hy2];exact hdr
     refine Ac.mid (fun z=>OkC (lines.toNat+1) i.toNat z) ⟨fun hb=>?_,fun _=>?_⟩ fun z hz=>⟨by simp only[Qa0,Qa5];omega,?_,hg.app (by rw[hgl];exact hz)⟩
     ·have hpos:=of_decide_eq_true (Ux hb).1
      have hpos2:0<y.1.length:=by omega
      have hp:=hy1.2.2 _ (A7 (d:=0) hpos2);refine⟨⟨by decide,by omega⟩,hpos2,⟨hp.1,by rw[hgl];exact(show y.1.getD 0 0<((i.toNat:Nat):Int)by rw[hii];exact hp.2)⟩,by have:=hp.1;have:=hp.2;show(y.1.getD 0 0).toNat<g.length;omega,?_⟩
      have hpn:(y.1.getD 0 0).toNat<i.toNat:=by omega
      have hog:=hg (y.1.getD 0 0).toNat (by omega);have hpb:=AdU (i:=(y.1.getD 0 0).toNat) hB (by omega);have hpo:=pow_one (lines.toNat+1) (y.1.getD 0 0).toNat;have hup:=Amr (B:=lines.toNat+1) hpn
      refine(hC ((lines.toNat+1)*2^(y.1.getD 0 0).toNat) ((g.getD (y.1.getD 0 0).toNat ([],(0,[]))).2.2,(raw,(2000+200*i,lines))) hog.2.2 hpo (by omega) ⟨by dsimp only;omega,by dsimp only;omega⟩ ⟨l0,by dsimp only;omega⟩).to ?_
      rintro(fl2:List Ao) _ hfl2;exact⟨hy1',hdt,IY.mono hfl2 hup⟩
     ·exact⟨hy1',hdt,hfs.mono (pow_one _ _)⟩
     ·rw[Qa6,hgl];rfl
  ·rw[w64 (by omega) (by omega)];exact⟨⟨⟨by omega,by omega⟩,by rw[hn.1];omega,hn.2⟩,by omega⟩
 ·refine(hT (g,raw) (by dsimp only;omega) fun j hj=>?_).to ?_
  ·have:=(hg.2 j hj).1;exact⟨Qc8 this.1 (by decide),fun p hp=>by have h3:=this.2.2 p hp;have hj:j<g.length:=hj;dsimp only;omega⟩
  ·rintro(d:List Al) _ hd;exact Alr hB (by omega) (by omega) hg.2 hd
def Sp_Known(P:Pg):Prop:=∀x:List Al×Int,x.1.length≤1000000→Z3 x.1→Fn P AjZ Fp x fun(d:Int) _=>∃e,GK x.1 e∧(e≠0→d=e)∧(e=0→(inR x.1 x.2→d=0)∧(¬inR x.1 x.2→d=5))
theorem Ai9(h:Has P Ho)(hR:LX P):Sp_Known P:=by
 rintro⟨g,c⟩ hg hs;refine UZ h ?_;unfold OS;dsimp only at hg hs⊢;refine(hR g hg hs).to ?_;rintro(e:Int) _ he;have he:GK g e:=he;have ho:=ZD c g.length;refine⟨fun hb=>⟨e,he,fun _=>rfl,fun h0=>absurd h0 (by simpa using hb)⟩,fun hb=>?_⟩
 have h0:e=0:=by simpa using hb
 refine⟨fun hb=>⟨e,he,fun k=>absurd h0 k,fun _=>⟨fun k=>?_,fun _=>rfl⟩⟩,fun hb=>⟨e,he,fun k=>absurd h0 k,fun _=>⟨fun _=>rfl,fun k=>absurd (ho.1 hb) k⟩⟩⟩;rw[ho.2 k]at hb;cases hb
def M0(P:Pg):Prop:=∀x:List Al×Int,inR x.1 x.2→XA x.1→(Bp x.1 x.2).length≤1000000→Fn P AcL Dh x fun(d:List (List Ao)) _=>d=De x.1 x.2
theorem Aco(h:Has P Hp):M0 P:=by
 rintro⟨g,c⟩ hc hv hl;dsimp only at hc hv hl;refine U0 h ?_;unfold OT;dsimp only
 have hc2:c.toNat<g.length:=by have:=hc.1;have:=hc.2;omega
 have ez:(g.getD c.toNat Ag).1=Bp g c:=rfl;have hv2:=hv c hc;rw[ez];refine⟨⟨hc.1,hc.2⟩,hc2,fun hb=>?_,fun hb=>?_⟩
 ·show[[]]=De g c
  have hb:((Bp g c).length:Int)=0:=by simpa using hb
  unfold De;rw[if_pos (by omega)]
 ·have hb:¬((Bp g c).length:Int)=0:=by simpa using hb
  have et:De g c=(Bp g c).map fun p=>Ed g p:=by unfold De;rw[if_neg (by omega)]
  rw[et];generalize Bp g c=l at hl hv2 hb⊢
  refine Ac.mid (fun d=>d=l.map fun p=>Ed g p) ?_ fun _ h=>h
  refine Au.of (fun q=>(0≤q.2∧q.2≤l.length)∧q.1=(l.take q.2.toNat).map fun p=>Ed g p) (fun q=>(l.length -q.2).toNat) ⟨⟨Qa2 _,by dsimp only;omega⟩,rfl⟩ ?_
  rintro⟨q,i⟩ ⟨⟨i0,i1⟩,hq⟩;dsimp only at i0 i1 hq⊢;refine⟨⟨hc.1,hc.2⟩,hc2,fun hi=>?_,fun hi=>?_⟩
  ·have hi:=of_decide_eq_true hi
   have hi2:i.toNat<l.length:=by omega
   have hp:=hv2 _ (A7 (d:=0) hi2)
   have hql:q.length=i.toNat:=by rw[hq,Qb2,Qb0];omega
   refine Ac.mid (fun d=>d=(l.take (i.toNat+1)).map fun p=>Ed g p) ⟨⟨hc.1,hc.2⟩,hc2,⟨i0,hi⟩,hi2,⟨hp.1,hp.2⟩,by have:=hp.1;have:=hp.2;omega,by simp only[Qa0,Qa5];omega,?_⟩ fun d hn=>?_
   ·rw[Rl (d:=0) hi2,Qb3,hq];rfl
   ·rw[w64 (by omega) (by omega)];refine⟨⟨⟨by omega,by omega⟩,?_⟩,by omega⟩;rw[hn,show(i+1).toNat=i.toNat+1 by omega]
  ·have hi:=of_decide_eq_false hi;show q=_;rw[hq,Qa9 (by omega)]
theorem cor{p q:Prop}[Decidable p][Decidable q]:cond (decide p) true (decide q)=true↔p∨q:=by
 by_cases h:p<;>simp[h]
theorem corf{p q:Prop}[Decidable p][Decidable q]:cond (decide p) true (decide q)=false↔¬p∧¬q:=by
 by_cases h:p<;>simp[h]
def Jb(n:Int):Bs:=if n<0∨n>2147483647 then[]else Lib.decDigits n.toNat
def YN(P:Pg):Prop:=∀n:Int,0≤n→n≤2147483647→Fn P "strconv.Itoa" IP n fun(d:Bs) _=>d=Lib.decDigits n.toNat
def Lj(P:Pg):Prop:=∀x:Int,Fn P "mergelens/scan.Format" Hy x fun(d:Bs) _=>d=Jb x
theorem AgT(h:Has P Hs)(hI:YN P):Lj P:=by
 intro x;refine U3 h ?_;unfold OW Jb;dsimp only;refine⟨fun hc=>?_,fun hc=>?_⟩
 ·rw[if_pos (by have:=cor.1 hc;omega)]
 ·have:=corf.1 hc;rw[if_neg (by omega)];exact hI x (by omega) (by omega)
def up(l:Bs):List Int:=l.map fun b=>((b.toNat:Nat):Int)
theorem AnZ:Jb 1=[49]:=by unfold Jb;rw[if_neg (by decide),show(1:Int).toNat=1 from rfl,Lib.decDigits];rfl
theorem An0:Jb 2=[50]:=by unfold Jb;rw[if_neg (by decide),show(2:Int).toNat=2 from rfl,Lib.decDigits];rfl
theorem An1:Jb 3=[51]:=by unfold Jb;rw[if_neg (by decide),show(3:Int).toNat=3 from rfl,Lib.decDigits];rfl
def IX(P:Pg):Prop:=Fn P AcD Df () fun(d:Bool) _=>d=true
theorem IX.at(h:IX P){K:Bool→Unit→Prop}(hk:K true ()):Fn P AcD Df () K:=
 Fn.to h fun(d:Bool) _ hd=>by
  have hd:d=true:=hd;subst hd;exact hk
def AsS(P:Pg):Prop:=∀n:Int,0≤n∧n≤2147483647→Fn P zS3 Bx n fun(d:Bool) _=>d=true
theorem Ath(h:Has P Hv):AsS P:=by
 rintro n ⟨h0,h1⟩;refine U6 h ?_;unfold OZ;show cond _ _ _=true;rw[decide_eq_true (show n≥0 from h0),decide_eq_true h1];rfl
theorem AsS.at(h:AsS P){n:Int}(h0:0≤n∧n≤2147483647){K:Bool→Unit→Prop}(hk:K true ()):Fn P zS3 Bx n K:=
 (h n h0).to fun(d:Bool) _ hd=>by
  have hd:d=true:=hd;subst hd;exact hk
def AsY(P:Pg):Prop:=∀n:Int,n=100∨n=40→Fn P Ahh D9 (n,((10:Int),(100:Int))) fun(d:Int) (e:Int×Int)=>d=(if n=100 then 10 else 4)∧e=(10,100)
theorem Ati(h:Has P Ih):AsY P:=by
 rintro n (rfl|rfl)<;>
  (refine WE h ?_
   unfold Qj
   exact⟨(fun hc=>nomatch hc),fun _=>⟨by decide,by kernel_rfl,rfl⟩⟩)
def AsV(P:Pg):Prop:=Fn P Ahi GS ((60:Int),((40:Int),((100:Int),(10:Int)))) fun(d:Int×Int) _=>d=(6,4)
theorem Atd(h:Has P LQ)(hS:AsY P):AsV P:=by
 refine AaS h ?_;unfold Uk;refine⟨(fun hc=>nomatch hc),fun _=>?_⟩;refine(hS 100 (.inl rfl)).to ?_;rintro(d:Int) (e:Int×Int) ⟨hd,he⟩;rw[if_pos rfl]at hd;subst hd he;refine Ac.mid (fun q=>q=10) ⟨fun _=>rfl,(fun hc=>nomatch hc)⟩ ?_;rintro q rfl;refine(hS 40 (.inr rfl)).to ?_;rintro(d:Int) _ ⟨hd,_⟩;rw[if_neg (by decide)]at hd;subst hd
 exact⟨(fun hc=>nomatch hc),fun _=>(by kernel_rfl:((IntKind.i64.wrap ((10:Int) -4)),(4:Int))=((6:Int),(4:Int)))⟩
def AsW(P:Pg):Prop:=Fn P Ahi GS ((1:Int),((2:Int),((3:Int),(10:Int)))) fun(d:Int×Int) _=>d=(1,2)
theorem Ate(h:Has P LQ):AsW P:=by
 refine AaS h ?_;unfold Uk;exact⟨fun _=>rfl,(fun hc=>nomatch hc)⟩
def AsX(P:Pg):Prop:=Fn P Ajz GR ((60:Int),((40:Int),((100:Int),(10:Int)))) fun(d:Int×(Int×Int)) _=>d=(6,(4,0))
theorem Atg(h:Has P LP)(hN:AsS P)(hB:AsV P):AsX P:=by
 refine AaR h ?_;unfold Uj;refine Ac.mid (fun q=>q=true) ⟨fun _=>hN.at (by decide) rfl,(fun hc=>nomatch hc),trivial⟩ ?_;rintro _ rfl;refine Ac.mid (fun q=>q=true) ⟨fun _=>hN.at (by decide) rfl,(fun hc=>nomatch hc),trivial⟩ ?_;rintro _ rfl;refine Ac.mid (fun q=>q=true) ⟨fun _=>hN.at (by decide) rfl,(fun hc=>nomatch hc),trivial⟩ ?_;rintro _ rfl
 refine⟨(fun hc=>nomatch hc),fun _=>Fn.to hB ?_⟩;rintro(d:Int×Int) _ hd;have hd:d=(6,4):=hd;rw[hd]
abbrev As2:List Stat:=[(([120]:List UInt8),((1:Int),(2:Int)))]
def AsZ(P:Pg):Prop:=Fn P "mergelens/stat.totals" HA As2 fun(d:Int×(Int×(Int×Bool))) _=>d=(1,(2,(3,true)))
theorem Atj(h:Has P Hw)(hN:AsS P):AsZ P:=by
 refine U7 h ?_;unfold O0;refine Ac.mid (fun q=>q.1=1∧q.2.1=2∧q.2.2.1=3) ?_ ?_
 ·refine Au.of (fun s=>(s.2.2.2.2=0∧s.1=0∧s.2.1=0∧s.2.2.1=0)∨(s.2.2.2.2=1∧s.1=1∧s.2.1=2∧s.2.2.1=3)) (fun s=>(1 -s.2.2.2.2).toNat) (.inl ⟨rfl,rfl,rfl,rfl⟩) ?_;rintro⟨a,b,c,d,i⟩ hs;dsimp only at hs⊢
  rcases hs with⟨rfl,rfl,rfl,rfl⟩|⟨rfl,rfl,rfl,rfl⟩
  ·refine⟨fun _=>?_,(fun hc=>nomatch hc)⟩;refine Ac.mid (fun q=>q.1=1∧q.2.1=2∧q.2.2.1=3) ⟨by decide,by decide,hN.at (by decide) ?_⟩ ?_
   ·refine Ac.mid (fun q=>q=true) ⟨fun _=>hN.at (by decide) rfl,(fun hc=>nomatch hc),trivial⟩ ?_;rintro _ rfl;refine⟨(fun hc=>nomatch hc),fun _=>hN.at (by decide) ⟨(fun hc=>nomatch hc),fun _=>⟨by kernel_rfl,by kernel_rfl,by kernel_rfl⟩⟩⟩
   ·rintro⟨a,b,c,d⟩ ⟨h1,h2,h3⟩;dsimp only at h1 h2 h3;subst h1 h2 h3;exact⟨.inr ⟨by kernel_rfl,rfl,rfl,rfl⟩,by decide⟩
  ·exact⟨(fun hc=>nomatch hc),fun _=>⟨rfl,rfl,rfl⟩⟩
 ·rintro⟨a,b,c,d⟩ ⟨h1,h2,h3⟩;dsimp only at h1 h2 h3⊢;rw[h1,h2,h3]
abbrev Atf:Bs:=[32,120,32,124,32,51,32,43,45,45,10]
abbrev Atk:Bs:=[32,49,32,102,105,108,101,115,44,32,49,32,97,100,100,101,100,44,32,50,32,114,101,109,111,118,101,100,10]
def AsU(P:Pg):Prop:=Fn P "mergelens/stat.Format" Hz (As2,(10:Int)) fun(d:Bs×Int) _=>d=(Atf++Atk,0)
theorem As3(h:Has P Hb)(hB:AsX P)(hS:AsU P):IX P:=by
 refine UL h ?_;unfold OE;refine Fn.to hB ?_;rintro(d:Int×(Int×Int)) _ hd;have hd:d=(6,(4,0)):=hd;subst hd;refine Fn.to hS ?_;rintro(d:Bs×Int) _ hd;have hd:d=(Atf++Atk,0):=hd;subst hd;rfl
theorem Zx:∀(s acc t:Bs),t∈lnN acc s→t.length≤acc.length+s.length
 |[],acc,t,h=>by rw[lnN]at h;cases h
 |b::r,acc,t,h=>by
  rw[lnN]at h;split at h
  ·rcases List.mem_cons.1 h with rfl|h
   ·simp only[Qa6,Qa0,Qa5];omega
   ·have:=Zx r [] t h;simp only[Qa0,Qa5]at this⊢;omega
  ·have:=Zx r (acc++[b]) t h;simp only[Qa6,Qa0,Qa5]at this⊢;omega
theorem AkF{s t:Bs}(h:t∈lnF s):t.length≤s.length:=by
 have:=Zx s [] t h;simp only[Qa5]at this;omega
def MZ(P:Pg):Prop:=∀s:Bs,s.length≤140737488351232→Fn P AeI DQ s fun(d:List Bs×Int) _=>d=if B6 s=0 then(lnF s,0)else([],1)
theorem Acn(h:Has P He)(hC:HB P)(hL:IV P):MZ P:=by
 intro s hs;refine UO h ?_;unfold OI;refine(hC s hs).to ?_;rintro(d:Int) _ hd;have hd:d=B6 s:=hd;subst hd;refine⟨fun hb=>?_,fun hb=>?_⟩
 ·rw[if_neg (by simpa using hb)]
 ·have hb:B6 s=0:=by simpa using hb
  rw[if_pos hb]
  have hs2:s.length≤1048576:=by
   unfold B6 at hb;split at hb
   ·cases hb
   ·omega
  refine(hL s (by omega)).to ?_;rintro(d:List Bs) _ hd;have hd:d=lnF s:=hd;rw[hd]
def Uc(P:Pg):Prop:=∀x:List Int×List Int,x.1.length≤4096→x.2.length≤4096→Fn P Am2 FF x fun(d:List (Int×Int)) _=>d=Cq x.1 x.2 0 0
def YO(P:Pg):Prop:=∀x:List (Int×Int)×(Int×Int),x.1.length≤4096→(0≤x.2.1∧x.2.1≤4096)→(0≤x.2.2∧x.2.2≤4096)→Pm (0,0) x.2.1 x.2.2 x.1→Fn P Am1 D7 x fun(d:List Cz) _=>d=Cj x.2.1 x.2.2 x.1 0 0
def Akp(x:List (List Bs))(f:Bs→Int):Prop:=∀u,u∈x.flatten→∀v,v∈x.flatten→f u=f v→u=v
def Pb(P:Pg):Prop:=∀x:List (List Bs),x.length≤4096→(∀l∈x,l.length≤4096∧∀s∈l,s.length≤1048576)→Fn P Am0 FE x fun(d:List (List Int)×List Bs) _=>∃f,Akp x f∧d.1=x.map fun l=>l.map f
def AcV(P:Pg):Prop:=∀x:List (List Bs),x.length≤4096→(∀l∈x,l.length≤4096∧∀s∈l,s.length≤1048576)→Fn P AjB Ge x fun(d:List (List Int)) _=>∃f,Akp x f∧d=x.map fun l=>l.map f
theorem AmL(h:Has P H7)(hN:Pb P):AcV P:=by
 intro x h1 h2;refine Wv h ?_;unfold Qb;refine(hN x h1 h2).to ?_;rintro(d:List (List Int)×List Bs) _ hd;exact hd
def Tz(P:Pg):Prop:=∀n:Int,Fn P Aad Cf n fun(d:Bool) _=>d=true↔(0≤n∧n≤4096)
theorem Alk(h:Has P FC):Tz P:=by
 intro n;refine RS h ?_;unfold MF;dsimp only
 by_cases h1:n≥0
 ·rw[decide_eq_true h1,cond_true,decide_eq_true_eq];exact⟨fun h=>⟨h1,h⟩,fun h=>h.2⟩
 ·rw[decide_eq_false h1,cond_false];exact⟨fun h=>(nomatch h),fun h=>absurd h.1 h1⟩
def Pa(P:Pg):Prop:=∀n:Int,(0≤n∧n≤4096)→Fn P AeG CI n fun(d:Int) _=>d=n
theorem Aej(h:Has P EX)(hL:Tz P):Pa P:=by
 intro n hn;refine QB h ?_;unfold Lo;refine(hL n).to ?_;rintro(d:Bool) _ hd;have hd:d=true:=hd.2 hn;subst hd;exact⟨fun hb=>absurd hb (by decide),fun _=>rfl⟩
theorem JB{α:Type}{l:List α}{k:Nat}{d:α}(h:k<l.length):l.take (k+1)=l.take k++[l.getD k d]:=by
 rw[Qc4,Qa4 h,getD_eq h];rfl
theorem Rh{f:Cz→Int}{l:List Cz}{k:Nat}{d:Cz}(h:k<l.length):((l.take (k+1)).map f).sum=((l.take k).map f).sum+f (l.getD k d):=by
 rw[JB (d:=d) h,Qb3,Qe9];simp
theorem V5{f:Cz→Int}{B:Int}:∀{l:List Cz},(∀c∈l,0≤f c∧f c≤B)→0≤(l.map f).sum∧(l.map f).sum≤B*(l.length:Int)
 |[],_=>by simp
 |c::l,h=>by
  have h1:=h c (Qb1 ..)
  have h2:=V5 (l:=l) fun x hx=>h x (Qa7 _ hx)
  rw[Qb6,Qd7,Qa0]
  have:B*((l.length+1:Nat):Int)=B*(l.length:Int)+B:=by rw[Int.natCast_add,Int.mul_add];simp
  rw[this];omega
def YR(P:Pg):Prop:=∀l:List Cz,l.length≤1000000→(∀c∈l,(0≤c.2.1∧c.2.1≤4096)∧(0≤c.2.2.2∧c.2.2.2≤4096))→Fn P AjE Fq l fun(d:Int×Int) _=>d=(NL l,OA l)
theorem Alm(h:Has P Ht)(hC:Pa P):YR P:=by
 intro l hl hb;refine U4 h ?_;unfold OX
 refine Ac.mid (fun d=>d=(NL l,OA l)) ?_ fun d hd=>hd
 refine Au.of (fun q=>(0≤q.2.2∧q.2.2≤l.length)∧q.1=NL (l.take q.2.2.toNat)∧q.2.1=OA (l.take q.2.2.toNat)) (fun q=>(l.length -q.2.2).toNat) ⟨⟨Qa2 _,Qa3 _⟩,rfl,rfl⟩ ?_;rintro⟨u,v,i⟩ ⟨⟨i0,i1⟩,hu,hv⟩;dsimp only at i0 i1 hu hv⊢;refine⟨fun hi=>?_,fun hi=>?_⟩
 ·have hi:=of_decide_eq_true hi
  have hi2:i.toNat<l.length:=by omega
  have hc:=hb _ (A7 (d:=((0:Int),((0:Int),((0:Int),(0:Int))))) hi2);have ho:=Rh (f:=fun c:Cz=>c.2.1) (d:=((0:Int),((0:Int),((0:Int),(0:Int))))) hi2;have hn:=Rh (f:=fun c:Cz=>c.2.2.2) (d:=((0:Int),((0:Int),((0:Int),(0:Int))))) hi2
  have bo:=V5 (f:=fun c:Cz=>c.2.1) (B:=4096) (l:=l.take i.toNat) fun c hc=>(hb c (Qf2 hc)).1
  have bn:=V5 (f:=fun c:Cz=>c.2.2.2) (B:=4096) (l:=l.take i.toNat) fun c hc=>(hb c (Qf2 hc)).2
  have ltk:(l.take i.toNat).length=i.toNat:=by rw[Qb0];omega
  rw[ltk]at bo bn;have hu2:u=((l.take i.toNat).map fun c:Cz=>c.2.1).sum:=hu;have hv2:v=((l.take i.toNat).map fun c:Cz=>c.2.2.2).sum:=hv;rw[←hu2]at ho bo;rw[←hv2]at hn bn
  refine Ac.mid (fun d=>d=(NL (l.take (i.toNat+1)),OA (l.take (i.toNat+1)))) ⟨⟨i0,hi⟩,hi2,(hC _ hc.1).to ?_⟩ fun d hd=>by
   rw[w64 (by omega) (by omega),hd];exact⟨⟨⟨by omega,by omega⟩,by rw[show(i+1).toNat=i.toNat+1 by omega],by rw[show(i+1).toNat=i.toNat+1 by omega]⟩,by omega⟩
  rintro(d:Int) _ hd;refine(hC _ hc.2).to ?_;rintro(e:Int) _ he;rw[hd,he,w64 (by omega) (by omega),w64 (by omega) (by omega)];exact Prod.ext ho.symm hn.symm
 ·have hi:=of_decide_eq_false hi;rw[Qa9 (by omega)]at hu hv;exact Prod.ext hu hv
theorem TD:∀{p:List (Int×Int)} {lo:Int×Int} {m n:Int},Pm lo m n p→lo.1≤m→lo.2≤n→(p.length:Int)≤m -lo.1∧(p.length:Int)≤n -lo.2
 |[],_,_,_,_,h1,h2=>by simp;omega
 |s::r,lo,m,n,h,h1,h2=>by
  obtain⟨⟨k1,k2,k3,k4⟩,hr⟩:=h;obtain⟨q1,q2⟩:=TD (p:=r) (lo:=(s.1+1,s.2+1)) hr (by dsimp only;omega) (by dsimp only;omega)
  dsimp only at q1 q2;rw[Qa0];omega
def LU(P:Pg):Prop:=∀x:List (Int×Int)×(Int×Int),x.1.length≤4096→(0≤x.2.1∧x.2.1≤4096)→(0≤x.2.2∧x.2.2≤4096)→Pm (0,0) x.2.1 x.2.2 x.1→Fn P AjC Dn x fun(d:List Cz×Int) _=>d=(Cj x.2.1 x.2.2 x.1 0 0,0)
theorem ZY(h:Has P D5)(hL:Tz P)(hM:YO P):LU P:=by
 rintro⟨p,m,n⟩ hp hm hn ha;dsimp only at hp hm hn ha;refine Ox h ?_;unfold I1;dsimp only;refine(hL m).to ?_;rintro(d:Bool) _ hd;have hd:d=true:=hd.2 hm;subst hd;refine Ac.mid (fun d=>d=true) ⟨fun _=>(hL n).to fun(d:Bool) _ hd=>hd.2 hn,fun hb=>absurd hb (by decide),trivial⟩ ?_;rintro d rfl;refine⟨fun hb=>absurd hb (by decide),fun _=>?_⟩
 refine Ac.mid (fun _=>True) ?_ fun _ _=>(hM (p,(m,n)) hp hm hn ha).to fun(d:List Cz) _ hd=>(by
  have hd:d=Cj m n p 0 0:=hd
  rw[hd])
 refine Au.of (fun q=>(0≤q.2.2.1∧q.2.2.1≤p.length)∧Pm (q.2.2.2.1+1,q.2.2.2.2+1) m n (p.drop q.2.2.1.toNat)) (fun q=>(p.length -q.2.2.1).toNat) ⟨⟨Qa2 _,Qa3 _⟩,by dsimp only;exact ha⟩ ?_
 rintro⟨o,u,i,s1,s2⟩ ⟨⟨i0,i1⟩,hs⟩;dsimp only at i0 i1 hs⊢;refine⟨fun hi=>?_,fun hi=>trivial⟩;have hi:=of_decide_eq_true hi
 have hi2:i.toNat<p.length:=by omega
 have hdr:p.drop i.toNat=p.getD i.toNat (0,0)::p.drop (i.toNat+1):=by rw[Qc0 hi2,getD_eq hi2]
 rw[hdr]at hs;obtain⟨⟨k1,k2,k3,k4⟩,hr⟩:=hs;dsimp only at k1 k2;generalize p.getD i.toNat (0,0)=t at k1 k2 k3 k4 hr⊢
 have e:cond (cond (cond (decide (t.1≤s1)) true (decide (t.1≥m))) true (decide (t.2≤s2))) true (decide (t.2≥n))=false:=by
  rw[decide_eq_false (by omega),decide_eq_false (by omega),decide_eq_false (by omega),decide_eq_false (by omega)];rfl
 rw[e];refine Ac.mid (fun q=>q.2.2=t) ⟨⟨i0,hi⟩,hi2,fun hb=>absurd hb (by decide),fun _=>rfl⟩ ?_;rintro⟨q1,q2,q3⟩ hq;have hq:q3=t:=hq;subst hq;rw[w64 (by omega) (by omega)];exact⟨⟨⟨by omega,by omega⟩,by rw[show(i+1).toNat=i.toNat+1 by omega];exact hr⟩,by omega⟩
def Rx(P:Pg):Prop:=∀x:List Int×List Int,x.1.length≤4096→x.2.length≤4096→Fn P AjD DD x fun(d:List Cz×Int) _=>d=(Cj x.1.length x.2.length (Cq x.1 x.2 0 0) 0 0,0)
theorem Ag1(h:Has P EC)(hL:Has P D6)(hW:Uc P)(hF:LU P):Rx P:=by
 rintro⟨a,b⟩ ha hb;dsimp only at ha hb;refine Pw h ?_;unfold JZ;refine Oy hL ?_;unfold I2;dsimp only;rw[decide_eq_true (show((a.length:Nat):Int)≤4096 by omega),decide_eq_true (show((b.length:Nat):Int)≤4096 by omega)];refine⟨fun hb=>absurd hb (by decide),fun _=>?_⟩;refine(hW (a,b) ha hb).to ?_;rintro(d:List (Int×Int)) _ hd;have hd:d=Cq a b 0 0:=hd
 subst hd;have hasc:=Aab _ a b 0 0 (Qb4 _);rw[Qg6,Qg6]at hasc;have hle:=TD hasc (Qa3 _) (Qa3 _);refine(hF (Cq a b 0 0,(((a.length:Nat):Int),((b.length:Nat):Int))) (by have:=hle.1;dsimp only at this⊢;omega) ⟨Qa3 _,by dsimp only;omega⟩ ⟨Qa3 _,by dsimp only;omega⟩ hasc).to ?_
 rintro(d:List Cz×Int) _ hd;exact hd
def JH(a b:Bs):List Cz:=Cj ((lnF a).length:Nat) ((lnF b).length:Nat) (Cq (lnF a) (lnF b) 0 0) 0 0
theorem Pq{a:Bs}(h:B6 a=0):(lnF a).length≤4096∧∀s∈lnF a,s.length≤1048576:=by
 unfold B6 at h;split at h
 ·cases h
 ·rename_i k;refine⟨by omega,fun s hs=>?_⟩;have:=AkF hs;omega
def MU(P:Pg):Prop:=∀x:Bs×Bs,x.1.length≤140737488351232→x.2.length≤140737488351232→Fn P Ahj Dk x fun(d:List Cz×Int) _=>d=if B6 x.1=0∧B6 x.2=0 then(JH x.1 x.2,0)else([],1)
theorem Ai5(h:Has P EY)(hT:Ln P)(hI:AcV P)(hS:Rx P):MU P:=by
 rintro⟨a,b⟩ ha hb;dsimp only at ha hb;refine QC h ?_;unfold Lp;dsimp only;refine(hT a ha).to ?_;rintro(d:List Bs×Int) _ hd
 have hd:d=if B6 a=0 then(lnF a,0)else([],1):=hd
 by_cases h1:B6 a=0
 ·rw[if_pos h1]at hd;subst hd;refine⟨fun hb=>absurd hb (by simp),fun _=>?_⟩;refine(hT b hb).to ?_;rintro(d:List Bs×Int) _ hd
  have hd:d=if B6 b=0 then(lnF b,0)else([],1):=hd
  by_cases h2:B6 b=0
  ·rw[if_pos h2]at hd;subst hd;rw[if_pos ⟨h1,h2⟩];refine⟨fun hb=>absurd hb (by simp),fun _=>?_⟩;obtain⟨la,sa⟩:=Pq h1;obtain⟨lb,sb⟩:=Pq h2;refine(hI [lnF a,lnF b] (by simp) fun l hl=>?_).to ?_
   ·simp only[List.mem_cons,List.not_mem_nil,or_false]at hl
    rcases hl with rfl|rfl
    ·exact⟨la,sa⟩
    ·exact⟨lb,sb⟩
   rintro(d:List (List Int)) _ ⟨f,hf,hd⟩;have hd:d=[(lnF a).map f,(lnF b).map f]:=hd;subst hd
   have hmap:Cq ((lnF a).map f) ((lnF b).map f) 0 0=Cq (lnF a) (lnF b) 0 0:=AfA f _ _ _ 0 0 (Qb4 _) fun u hu v hv e=>hf u (by simp[hu]) v (by simp[hv]) e
   refine Ac.mid (fun d=>d=(JH a b,0)) ⟨by simp,by simp,by simp,by simp,⟨by simp,by simp,(hS ((lnF a).map f,(lnF b).map f) (by dsimp only;rw[Qb2];exact la) (by dsimp only;rw[Qb2];exact lb)).to ?_⟩,trivial⟩ fun d hd=>hd
   rintro(d:List Cz×Int) _ hd
   have hd:d=(JH a b,0):=by
    rw[show d=_ from hd];dsimp only;rw[hmap,Qb2,Qb2];rfl
   (repeat' apply And.intro)<;>first|exact True.intro|exact hd
  ·rw[if_neg h2]at hd;subst hd;rw[if_neg fun k=>h2 k.2];exact⟨fun _=>rfl,fun hb=>absurd hb (by simp)⟩
 ·rw[if_neg h1]at hd;subst hd;rw[if_neg fun k=>h1 k.1];exact⟨fun _=>rfl,fun hb=>absurd hb (by simp)⟩
def Xj(a b:Bs):Nat:=(Cq (lnF a) (lnF b) 0 0).length
def Wr(a b:Bs):Int×(Int×Int):=if B6 a=0∧B6 b=0 then(((lnF b).length:Int) -(Xj a b:Int),(((lnF a).length:Int) -(Xj a b:Int),0))else(0,(0,1))
theorem ZT{a b:Bs}(ha:B6 a=0)(hb:B6 b=0):NL (JH a b)=((lnF a).length:Int) -(Xj a b:Int)∧OA (JH a b)=((lnF b).length:Int) -(Xj a b:Int)∧(∀c∈JH a b,(0≤c.2.1∧c.2.1≤4096)∧(0≤c.2.2.2∧c.2.2.2≤4096))∧((Xj a b:Int)≤(lnF a).length∧(Xj a b:Int)≤(lnF b).length):=by
 have hasc:=Aab _ (lnF a) (lnF b) 0 0 (Qb4 _);rw[Qg6,Qg6]at hasc;have hle:=TD hasc (Qa3 _) (Qa3 _);obtain⟨h1,h2,h3⟩:=Abs hasc (Qa3 _) (Qa3 _);obtain⟨la,_⟩:=Pq ha;obtain⟨lb,_⟩:=Pq hb;refine⟨?_,?_,fun c hc=>?_,?_⟩
 ·show NL _=_;unfold JH Xj;rw[h1];omega
 ·unfold JH Xj;rw[h2];omega
 ·have:=h3 c hc;omega
 ·have h4:=hle.1;have h5:=hle.2;unfold Xj;dsimp only at h4 h5;omega
theorem Abr:∀{m n:Int} (p:List (Int×Int)) (o w:Int),(Cj m n p o w).length≤p.length+1
 |m,n,[],o,w=>by unfold Cj Ir;split<;>simp
 |m,n,s::r,o,w=>by
  unfold Cj;have:=Abr (m:=m) (n:=n) r (s.1+1) (s.2+1)
  have h2:(Ir o w s).length≤1:=by unfold Ir;split<;>simp
  rw[Qa6,Qa0];omega
theorem Afq{a b:Bs}(ha:B6 a=0)(hb:B6 b=0):(JH a b).length≤1000000:=by
 have h1:=Abr (m:=((lnF a).length:Nat)) (n:=((lnF b).length:Nat)) (Cq (lnF a) (lnF b) 0 0) 0 0;have h2:=(ZT ha hb).2.2.2.1;have h3:=(Pq ha).1;unfold Xj at h2;unfold JH;omega
def Li(P:Pg):Prop:=∀x:Bs×Bs,x.1.length≤140737488351232→x.2.length≤140737488351232→Fn P AcF DE x fun(d:Int×(Int×Int)) _=>d=Wr x.1 x.2
theorem Ai7(h:Has P Ie)(hB:MU P)(hS:YR P):Li P:=by
 rintro⟨a,b⟩ ha hb;dsimp only at ha hb;refine WC h ?_;unfold Qh;dsimp only;refine(hB (a,b) ha hb).to ?_;rintro(d:List Cz×Int) _ hd
 have hd:d=if B6 a=0∧B6 b=0 then(JH a b,0)else([],1):=hd
 unfold Wr
 by_cases h1:B6 a=0∧B6 b=0
 ·rw[if_pos h1]at hd⊢;subst hd;obtain⟨s1,s2,s3,_⟩:=ZT h1.1 h1.2;refine⟨fun hb=>absurd hb (by simp),fun _=>(hS (JH a b) (Afq h1.1 h1.2) s3).to ?_⟩;rintro(d:Int×Int) _ hd;have hd:d=(NL (JH a b),OA (JH a b)):=hd;rw[hd,s1,s2]
 ·rw[if_neg h1]at hd⊢;subst hd;exact⟨fun _=>rfl,fun hb=>absurd hb (by simp)⟩
def Ny(l:List Bs)(s:Bs):Nat:=l.findIdx (·==s)
theorem Amq{l:List Bs}{s:Bs}{i:Nat}(hi:i<l.length)(he:l.getD i []=s)(hk:∀k,k<i→l.getD k []≠s):Ny l s=i:=by
 unfold Ny;rw[List.findIdx_eq hi];rw[getD_eq hi]at he;refine⟨by rw[he];simp,fun j hj=>?_⟩
 have:=hk j hj;rw[getD_eq (by omega)]at this;simpa using this
theorem AiH{l:List Bs}{s:Bs}(h:s∈l):Ny l s<l.length∧l.getD (Ny l s) []=s:=by
 have hl:Ny l s<l.length:=List.findIdx_lt_length_of_exists ⟨s,h,by simp⟩;refine⟨hl,?_⟩;rw[getD_eq hl];have:=List.findIdx_getElem (w:=hl);exact eq_of_beq this
def Ll(P:Pg):Prop:=∀x:List Bs×Bs,x.1.length≤100000000→Fn P AcG Dg x fun(d:Int) _=>d=if x.2∈x.1 then((Ny x.1 x.2:Nat):Int)else-1
theorem Ajc(h:Has P Hg):Ll P:=by
 rintro⟨l,s⟩ hl;dsimp only at hl;refine UQ h ?_;unfold OK;dsimp only
 refine Ac.mid (fun _=>s∉l) ?_ fun _ hn=>by rw[if_neg hn]
 refine Au.of (fun q=>(0≤q.2∧q.2≤l.length)∧∀k,k<q.2.toNat→l.getD k []≠s) (fun q=>(l.length -q.2).toNat) ⟨⟨Qa2 _,Qa3 _⟩,fun k hk=>absurd hk (Qh0 _)⟩ ?_;rintro⟨q,i⟩ ⟨⟨i0,i1⟩,hk⟩;dsimp only at i0 i1 hk⊢;refine⟨fun hi=>?_,fun hi=>?_⟩
 ·have hi:=of_decide_eq_true hi
  have hi2:i.toNat<l.length:=by omega
  refine Ac.mid (fun _=>l.getD i.toNat []≠s) ⟨⟨i0,hi⟩,hi2,fun hb=>?_,fun hb=>beq_eq_false_iff_ne.1 hb⟩ fun _ hne=>?_
  ·have he:=eq_of_beq hb;have hm:s∈l:=he▸A7 hi2;rw[if_pos hm,Amq hi2 he hk];omega
  ·rw[w64 (by omega) (by omega)];refine⟨⟨⟨by omega,by omega⟩,fun k hk2=>?_⟩,by omega⟩
   by_cases e:k=i.toNat
   ·rw[e];exact hne
   ·exact hk k (by omega)
 ·have hi:=of_decide_eq_false hi;intro hm;obtain⟨k,hk1,hk2⟩:=Qf5 hm;exact hk k (by omega) (by rw[getD_eq hk1];exact hk2)
theorem Ll.at(h:Ll P){l:List Bs}{s:Bs}(hl:l.length≤100000000){K:Int→Unit→Prop}(hk:K (if s∈l then((Ny l s:Nat):Int)else-1) ()):Fn P AcG Dg (l,s) K:=
 (h (l,s) hl).to fun(d:Int) _ hd=>by
  have hd:d=if s∈l then((Ny l s:Nat):Int)else-1:=hd
  rw[hd];exact hk
theorem Af5{α:Type}{x:List (List α)}{i:Nat}(hi:i<x.length):(x.take (i+1)).flatten=(x.take i).flatten++x.getD i []:=by
 rw[JB (d:=[]) hi,Qf6,List.flatten_singleton]
def Ru(P:Pg):Prop:=∀x:List (List Bs),x.length≤4096→(∀l∈x,l.length≤4096)→Fn P AjF Fg x fun(d:List Bs) _=>d.length≤16777216∧∀s∈x.flatten,s∈d
theorem AgX(h:Has P Hf)(hP:Ll P):Ru P:=by
 intro x hx hl;refine UP h ?_;unfold OJ
 refine Ac.mid (fun d=>d.length≤16777216∧∀s∈x.flatten,s∈d) ?_ fun _ h=>h
 refine Au.of (fun q=>(0≤q.2∧q.2≤x.length)∧q.1.length≤4096*q.2.toNat∧∀s∈(x.take q.2.toNat).flatten,s∈q.1) (fun q=>(x.length -q.2).toNat) ⟨⟨Qa2 _,Qa3 _⟩,Qd3 _,fun s hs=>by simp at hs⟩ ?_;rintro⟨N,i⟩ ⟨⟨i0,i1⟩,hN,hc⟩;dsimp only at i0 i1 hN hc⊢;refine⟨fun hi=>?_,fun hi=>?_⟩
 ·have hi:=of_decide_eq_true hi
  have hi2:i.toNat<x.length:=by omega
  have hrl:=hl _ (A7 (d:=[]) hi2)
  refine Ac.mid (fun d=>d.length≤4096*(i.toNat+1)∧∀s∈(x.take (i.toNat+1)).flatten,s∈d) ?_ fun d hd=>by
   rw[w64 (by omega) (by omega)];exact⟨⟨⟨by omega,by omega⟩,by rw[show(i+1).toNat=i.toNat+1 by omega];exact hd⟩,by omega⟩
  refine Ac.mid (fun d=>d.length≤4096*(i.toNat+1)∧∀s∈(x.take (i.toNat+1)).flatten,s∈d) ?_ fun _ h=>h
  rw[Af5 hi2];refine Au.of (fun q=>(0≤q.2∧q.2≤(x.getD i.toNat []).length)∧q.1.length≤4096*i.toNat+q.2.toNat∧(∀s∈(x.take i.toNat).flatten,s∈q.1)∧∀s∈(x.getD i.toNat []).take q.2.toNat,s∈q.1) (fun q=>((x.getD i.toNat []).length -q.2).toNat) ⟨⟨Qa2 _,Qa3 _⟩,by dsimp only;omega,hc,fun s hs=>by simp at hs⟩ ?_
  rintro⟨M,j⟩ ⟨⟨j0,j1⟩,hM,hM2,hM3⟩;dsimp only at j0 j1 hM hM2 hM3⊢;refine⟨⟨i0,hi⟩,hi2,fun hj=>?_,fun hj=>?_⟩
  ·have hj:=of_decide_eq_true hj
   have hj2:j.toNat<(x.getD i.toNat []).length:=by omega
   refine Ac.mid (fun d=>d.length≤4096*i.toNat+(j.toNat+1)∧(∀s∈(x.take i.toNat).flatten,s∈d)∧∀s∈(x.getD i.toNat []).take (j.toNat+1),s∈d) ⟨⟨i0,hi⟩,hi2,⟨j0,hj⟩,hj2,hP.at (l:=M) (s:=(x.getD i.toNat []).getD j.toNat []) (by omega) ?_⟩ fun d hd=>by
    rw[w64 (by omega) (by omega)];exact⟨⟨⟨by omega,by omega⟩,by rw[show(j+1).toNat=j.toNat+1 by omega];exact hd⟩,by omega⟩
   rw[JB (d:=[]) hj2]
   refine Ac.mid (fun d=>d.length≤4096*i.toNat+(j.toNat+1)∧(∀s∈(x.take i.toNat).flatten,s∈d)∧∀s∈(x.getD i.toNat []).take j.toNat++[(x.getD i.toNat []).getD j.toNat []],s∈d) ⟨fun hb=>⟨⟨i0,hi⟩,hi2,⟨j0,hj⟩,hj2,by simp only[Qa0,Qa5];omega,by rw[Qa6];simp only[Qa0,Qa5];omega,fun s hs=>Qh8 _ (hM2 s hs),fun s hs=>?_⟩,fun hb=>⟨by omega,hM2,fun s hs=>?_⟩⟩ fun _ h=>h
   ·rcases List.mem_append.1 hs with hs|hs
    ·exact Qh8 _ (hM3 s hs)
    ·exact List.mem_append_right _ hs
   ·rcases List.mem_append.1 hs with hs|hs
    ·exact hM3 s hs
    ·have hb:=of_decide_eq_false hb;rw[List.mem_singleton.1 hs]
     refine Classical.byContradiction fun hno=>hb ?_
     rw[if_neg hno];decide
  ·have hj:=of_decide_eq_false hj;rw[Qa9 (by omega)]at hM3;refine⟨by omega,fun s hs=>?_⟩
   rcases List.mem_append.1 hs with hs|hs
   ·exact hM2 s hs
   ·exact hM3 s hs
 ·have hi:=of_decide_eq_false hi;rw[Qa9 (by omega)]at hc;exact⟨by show N.length≤_;omega,hc⟩
def YQ(P:Pg):Prop:=∀x:List (List Bs),x.length≤4096→(∀l∈x,l.length≤4096)→Fn P AjG HK x fun(d:List (List Int)) _=>∃f,Akp x f∧d=x.map fun l=>l.map f
theorem Alj(h:Has P JQ)(hN:Ru P)(hP:Ll P):YQ P:=by
 intro x hx hl;refine Y7 h ?_;unfold Sz;refine(hN x hx hl).to ?_;rintro(N:List Bs) _ ⟨hN,hc⟩
 refine Ac.mid (fun d=>d=x.map fun l=>l.map fun s=>((Ny N s:Nat):Int)) ?_ fun d hd=>⟨fun s=>((Ny N s:Nat):Int),fun u hu v hv e=>?_,hd⟩
 ·refine Au.of (fun q=>(0≤q.2∧q.2≤x.length)∧q.1=(x.take q.2.toNat).map fun l=>l.map fun s=>((Ny N s:Nat):Int)) (fun q=>(x.length -q.2).toNat) ⟨⟨Qa2 _,Qa3 _⟩,rfl⟩ ?_;rintro⟨o,i⟩ ⟨⟨i0,i1⟩,ho⟩;dsimp only at i0 i1 ho⊢;refine⟨fun hi=>?_,fun hi=>?_⟩
  ·have hi:=of_decide_eq_true hi
   have hi2:i.toNat<x.length:=by omega
   have hrm:=A7 (d:=[]) hi2;have hrl:=hl _ hrm
   refine Ac.mid (fun d=>d=(x.take (i.toNat+1)).map fun l=>l.map fun s=>((Ny N s:Nat):Int)) ?_ fun d hd=>by
    rw[w64 (by omega) (by omega)];exact⟨⟨⟨by omega,by omega⟩,by rw[show(i+1).toNat=i.toNat+1 by omega];exact hd⟩,by omega⟩
   have hol:o.length=i.toNat:=by rw[ho,Qb2,Qb0];omega
   refine Ac.mid (fun d=>d=(x.getD i.toNat []).map fun s=>((Ny N s:Nat):Int)) ?_ fun d hd=>⟨by simp only[Qa0,Qa5];omega,by rw[JB (d:=[]) hi2,Qb3,hd,ho];rfl⟩
   refine Au.of (fun q=>(0≤q.2∧q.2≤(x.getD i.toNat []).length)∧q.1=((x.getD i.toNat []).take q.2.toNat).map fun s=>((Ny N s:Nat):Int)) (fun q=>((x.getD i.toNat []).length -q.2).toNat) ⟨⟨Qa2 _,Qa3 _⟩,rfl⟩ ?_;rintro⟨r,j⟩ ⟨⟨j0,j1⟩,hr⟩;dsimp only at j0 j1 hr⊢;refine⟨⟨i0,hi⟩,hi2,fun hj=>?_,fun hj=>?_⟩
   ·have hj:=of_decide_eq_true hj
    have hj2:j.toNat<(x.getD i.toNat []).length:=by omega
    have hrl2:r.length=j.toNat:=by rw[hr,Qb2,Qb0];omega
    have hin:(x.getD i.toNat []).getD j.toNat []∈N:=hc _ (List.mem_flatten.2 ⟨(x.getD i.toNat []),hrm,A7 hj2⟩)
    refine Ac.mid (fun d=>d=((x.getD i.toNat []).take (j.toNat+1)).map fun s=>((Ny N s:Nat):Int)) ⟨⟨i0,hi⟩,hi2,⟨j0,hj⟩,hj2,hP.at (l:=N) (s:=(x.getD i.toNat []).getD j.toNat []) (by omega) ⟨by simp only[Qa0,Qa5];omega,?_⟩⟩ fun d hd=>by
     rw[w64 (by omega) (by omega)];exact⟨⟨⟨by omega,by omega⟩,by rw[show(j+1).toNat=j.toNat+1 by omega];exact hd⟩,by omega⟩
    rw[JB (d:=[]) hj2,Qb3,hr,if_pos hin];rfl
   ·have hj:=of_decide_eq_false hj;rw[Qa9 (by omega)]at hr;exact hr
  ·have hi:=of_decide_eq_false hi;rw[Qa9 (by omega)]at ho;exact ho
 ·have h1:=AiH (hc u hu);have h2:=AiH (hc v hv)
  have e:Ny N u=Ny N v:=by dsimp only at e;omega
  rw[←h1.2,e,h2.2]
end Go.VS
