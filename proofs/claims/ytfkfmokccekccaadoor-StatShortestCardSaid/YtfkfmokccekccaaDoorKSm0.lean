import Derived.Test.YtfkfmokccekccaaDoorFwD
import Derived.IntWalk
import Derived.Test.YtfkfmokccekccaaDoorKGf0
import Derived.Lib.ItoaNum
/- Rules for lifted functions; numbers; lists. -/
set_option linter.unusedVariables false
set_option linter.unusedSimpArgs false
namespace Go.VS
theorem Av.of{D:Type}{body:(D→Prop)→Prop}{rest:D→Prop}(h:body rest):Av body rest:=⟨rest,h,fun _ h=>h⟩
theorem Av.mid{D:Type}{body:(D→Prop)→Prop}{rest:D→Prop}(J:D→Prop)(h:body J)(h2:∀d,J d→rest d):Av body rest:=⟨J,h,h2⟩
theorem DD.of{D:Type}{x:D}{body:D→(D→Prop)→Prop}(I:D→Prop)(m:D→Nat)(h0:I x)(hs:∀d,I d→body d fun d'=>I d'∧m d'<m d):DD x body:=by
 refine⟨fun n d=>I d∧m d=n,⟨_,h0,rfl⟩,?_⟩
 rintro n d ⟨hI,rfl⟩
 have:(fun d'=>∃k,k<m d∧I d'∧m d'=k)=fun d'=>I d'∧m d'<m d:=by
  funext d'
  exact propext ⟨fun⟨k,h1,h2,h3⟩=>⟨h2,by omega⟩,fun⟨h1,h2⟩=>⟨_,h2,h1,rfl⟩⟩
 rw[this]
 exact hs d hI
theorem Fn.to{P:Pg}{nm:String}{S:Sig}{x:DP S.ps}{K K':DP S.rs→DP (ptrs S.ps)→Prop}(h:Fn P nm S x K)(hk:∀d e,K d e→K' d e):Fn P nm S x K':=h.mono hk
theorem w64{n:Int}(h1:-9223372036854775808≤n)(h2:n≤9223372036854775807):IntKind.i64.wrap n=n:=by rw[IntKind.wrap_i64];omega
theorem AaF{n:Int}(h1:0≤n)(h2:n≤18446744073709551615):IntKind.u64.wrap n=n:=by rw[IntKind.wrap_u64];omega
theorem getD_eq{α:Type}{l:List α}{i:Nat}{d:α}(h:i<l.length):l.getD i d=l[i]:=by simp[List.getD_eq_getElem?_getD,List.getElem?_eq_getElem h]
theorem Rk{α:Type}{l:List α}{i:Nat}{d:α}(h:i<l.length):l.getD i d∈l:=by rw[getD_eq h];exact List.getElem_mem h
theorem FK{α:Type}{l:List α}{i j:Nat}{x d:α}(h:i<l.length):(l.set i x).getD j d=if i=j then x else l.getD j d:=by
 simp only[List.getD_eq_getElem?_getD,List.getElem?_set]
 split
 ·rename_i e;subst e;simp[h]
 ·rfl
theorem toNat_lt{i:Int}{n:Nat}(h0:0≤i)(h:i<(n:Int)):i.toNat<n:=by omega
end Go.VS

/- Distances of lists, and the shortest script: in plain Lean. -/
set_option linter.unusedVariables false
set_option linter.unusedSimpArgs false
set_option linter.unusedSectionVars false
namespace Go.VS
section
variable{α β:Type}[DecidableEq α][DecidableEq β]
def CN:List α→List α→Nat
 |[],b=>b.length
 |x::a,[]=>a.length+1
 |x::a,y::b=>if x=y then CN a b else 1+min (CN a (y::b)) (CN (x::a) b)
termination_by a b=>a.length+b.length
theorem EL(b:List α):CN [] b=b.length:=by cases b<;>simp[CN]
theorem FG(a:List α):CN a []=a.length:=by cases a<;>simp[CN]
theorem Jf{x y:α}(h:x=y)(a b:List α):CN (x::a) (y::b)=CN a b:=by rw[CN,if_pos h]
theorem Jg{x y:α}(h:x≠y)(a b:List α):CN (x::a) (y::b)=1+min (CN a (y::b)) (CN (x::a) b):=by rw[CN,if_neg h]
theorem WG:∀(n:Nat) (a b:List α),a.length+b.length≤n→CN a b=CN b a:=by
 intro n
 induction n with
 |zero=>
  intro a b h
  have ha:a=[]:=List.length_eq_zero_iff.1 (by omega)
  have hb:b=[]:=List.length_eq_zero_iff.1 (by omega)
  rw[ha,hb]
 |succ n ih=>
  intro a b h
  cases a with
  |nil=>rw[EL,FG]
  |cons x a=>
   cases b with
   |nil=>rw[EL,FG]
   |cons y b=>
    simp only[List.length_cons]at h
    by_cases e:x=y
    ·rw[Jf e,Jf e.symm,ih a b (by omega)]
    ·rw[Jg e,Jg (fun k=>e k.symm),ih a (y::b) (by simp only[List.length_cons];omega),ih (x::a) b (by simp only[List.length_cons];omega),Nat.min_comm]
theorem WE(a b:List α):CN a b=CN b a:=WG _ a b (Nat.le_refl _)
theorem Zh:∀(n:Nat) (a b:List α),a.length+b.length≤n→CN a b≤a.length+b.length:=by
 intro n
 induction n with
 |zero=>
  intro a b h
  have ha:a=[]:=List.length_eq_zero_iff.1 (by omega)
  have hb:b=[]:=List.length_eq_zero_iff.1 (by omega)
  rw[ha,hb]
  simp[EL]
 |succ n ih=>
  intro a b h
  cases a with
  |nil=>rw[EL];simp
  |cons x a=>
   cases b with
   |nil=>rw[FG];simp
   |cons y b=>
    simp only[List.length_cons]at h⊢
    by_cases e:x=y
    ·rw[Jf e]
     have:=ih a b (by omega)
     omega
    ·rw[Jg e]
     have:=ih a (y::b) (by simp only[List.length_cons];omega)
     simp only[List.length_cons]at this
     omega
def B8:List α→List α→Int→Int→List (Int×Int)
 |[],_,_,_=>[]
 |x::a,[],i,j=>B8 a [] (i+1) j
 |x::a,y::b,i,j=>if x=y then(i,j)::B8 a b (i+1) (j+1)else if CN a (y::b)+1=CN (x::a) (y::b)then B8 a (y::b) (i+1) j else B8 (x::a) b i (j+1)
termination_by a b=>a.length+b.length
theorem Eo(b:List α)(i j:Int):B8 [] b i j=[]:=by cases b<;>simp[B8]
theorem F6:∀(a:List α) (i j:Int),B8 a [] i j=[]
 |[],_,_=>by simp[B8]
 |x::a,i,j=>by rw[B8,F6 a]
theorem LP{x y:α}(h:x=y)(a b:List α)(i j:Int):B8 (x::a) (y::b) i j=(i,j)::B8 a b (i+1) (j+1):=by rw[B8,if_pos h]
theorem Ik{x y:α}(h:x≠y){a b:List α}(hd:CN a (y::b)+1=CN (x::a) (y::b))(i j:Int):B8 (x::a) (y::b) i j=B8 a (y::b) (i+1) j:=by rw[B8,if_neg h,if_pos hd]
theorem GY{x y:α}(h:x≠y){a b:List α}(hd:¬CN a (y::b)+1=CN (x::a) (y::b))(i j:Int):B8 (x::a) (y::b) i j=B8 (x::a) b i (j+1):=by rw[B8,if_neg h,if_neg hd]
theorem UU:∀(n:Nat) (a b:List α) (i j:Int),a.length+b.length≤n→CN a b+2*(B8 a b i j).length=a.length+b.length:=by
 intro n
 induction n with
 |zero=>
  intro a b i j h
  have ha:a=[]:=List.length_eq_zero_iff.1 (by omega)
  have hb:b=[]:=List.length_eq_zero_iff.1 (by omega)
  rw[ha,hb,EL,Eo]
  rfl
 |succ n ih=>
  intro a b i j h
  cases a with
  |nil=>rw[EL,Eo];simp
  |cons x a=>
   cases b with
   |nil=>rw[FG,F6];simp
   |cons y b=>
    simp only[List.length_cons]at h⊢
    by_cases e:x=y
    ·rw[Jf e,LP e]
     have:=ih a b (i+1) (j+1) (by omega)
     simp only[List.length_cons]
     omega
    ·have h1:=ih a (y::b) (i+1) j (by simp only[List.length_cons];omega)
     have h2:=ih (x::a) b i (j+1) (by simp only[List.length_cons];omega)
     simp only[List.length_cons]at h1 h2
     have hd:=Jg e a b
     by_cases k:CN a (y::b)+1=CN (x::a) (y::b)
     ·rw[Ik e k]
      omega
     ·rw[GY e k]
      omega
def MR(lo:Int×Int)(m n:Int):List (Int×Int)→Prop
 |[]=>True
 |s::r=>(lo.1≤s.1∧lo.2≤s.2∧s.1<m∧s.2<n)∧MR (s.1+1,s.2+1) m n r
theorem OH:∀{p:List (Int×Int)} {lo lo':Int×Int} {m n:Int},MR lo m n p→lo'.1≤lo.1→lo'.2≤lo.2→MR lo' m n p
 |[],_,_,_,_,_,_,_=>trivial
 |s::r,lo,lo',m,n,h,h1,h2=>⟨⟨by have:=h.1.1;omega,by have:=h.1.2.1;omega,h.1.2.2.1,h.1.2.2.2⟩,h.2⟩
theorem US:∀(n:Nat) (a b:List α) (i j:Int),a.length+b.length≤n→MR (i,j) (i+a.length) (j+b.length) (B8 a b i j):=by
 intro n
 induction n with
 |zero=>
  intro a b i j h
  have ha:a=[]:=List.length_eq_zero_iff.1 (by omega)
  rw[ha,Eo]
  trivial
 |succ n ih=>
  intro a b i j h
  cases a with
  |nil=>rw[Eo];trivial
  |cons x a=>
   cases b with
   |nil=>rw[F6];trivial
   |cons y b=>
    simp only[List.length_cons]at h
    by_cases e:x=y
    ·rw[LP e]
     have:=ih a b (i+1) (j+1) (by omega)
     refine⟨⟨Int.le_refl _,Int.le_refl _,?_,?_⟩,?_⟩
     ·simp only[List.length_cons];omega
     ·simp only[List.length_cons];omega
     ·rw[show i+(((x::a).length:Nat):Int)=i+1+(a.length:Int)by simp only[List.length_cons];omega,show j+(((y::b).length:Nat):Int)=j+1+(b.length:Int)by simp only[List.length_cons];omega]
      exact this
    ·by_cases k:CN a (y::b)+1=CN (x::a) (y::b)
     ·rw[Ik e k]
      have:=ih a (y::b) (i+1) j (by simp only[List.length_cons];omega)
      rw[show i+(((x::a).length:Nat):Int)=i+1+(a.length:Int)by simp only[List.length_cons];omega]
      exact OH this (by dsimp only;omega) (Int.le_refl _)
     ·rw[GY e k]
      have:=ih (x::a) b i (j+1) (by simp only[List.length_cons];omega)
      rw[show j+(((y::b).length:Nat):Int)=j+1+(b.length:Int)by simp only[List.length_cons];omega]
      exact OH this (Int.le_refl _) (by dsimp only;omega)
theorem Uh(f:α→β):∀(n:Nat) (a b:List α),a.length+b.length≤n→(∀x∈a,∀y∈b,f x=f y→x=y)→CN (a.map f) (b.map f)=CN a b:=by
 intro n
 induction n with
 |zero=>
  intro a b h _
  have ha:a=[]:=List.length_eq_zero_iff.1 (by omega)
  have hb:b=[]:=List.length_eq_zero_iff.1 (by omega)
  rw[ha,hb]
  simp[EL]
 |succ n ih=>
  intro a b h hf
  cases a with
  |nil=>rw[List.map_nil,EL,EL,List.length_map]
  |cons x a=>
   cases b with
   |nil=>rw[List.map_nil,FG,FG,List.length_map]
   |cons y b=>
    simp only[List.length_cons]at h
    have i1:=ih a b (by omega) fun u hu v hv=>hf u (List.mem_cons_of_mem _ hu) v (List.mem_cons_of_mem _ hv)
    have i2:=ih a (y::b) (by simp only[List.length_cons];omega) fun u hu v hv=>hf u (List.mem_cons_of_mem _ hu) v hv
    have i3:=ih (x::a) b (by simp only[List.length_cons];omega) fun u hu v hv=>hf u hu v (List.mem_cons_of_mem _ hv)
    rw[List.map_cons]at i2 i3
    rw[List.map_cons,List.map_cons]
    by_cases e:x=y
    ·rw[Jf e,Jf (congrArg f e),i1]
    ·have e2:f x≠f y:=fun k=>e (hf x (List.mem_cons_self ..) y (List.mem_cons_self ..) k)
     rw[Jg e,Jg e2,i2,i3]
theorem YQ(f:α→β):∀(n:Nat) (a b:List α) (i j:Int),a.length+b.length≤n→(∀x∈a,∀y∈b,f x=f y→x=y)→B8 (a.map f) (b.map f) i j=B8 a b i j:=by
 intro n
 induction n with
 |zero=>
  intro a b i j h _
  have ha:a=[]:=List.length_eq_zero_iff.1 (by omega)
  rw[ha,List.map_nil,Eo,Eo]
 |succ n ih=>
  intro a b i j h hf
  cases a with
  |nil=>rw[List.map_nil,Eo,Eo]
  |cons x a=>
   cases b with
   |nil=>rw[List.map_nil,F6,F6]
   |cons y b=>
    simp only[List.length_cons]at h
    have q1:=fun u (hu:u∈a) v (hv:v∈b)=>hf u (List.mem_cons_of_mem _ hu) v (List.mem_cons_of_mem _ hv)
    have q2:=fun u (hu:u∈a) v (hv:v∈y::b)=>hf u (List.mem_cons_of_mem _ hu) v hv
    have q3:=fun u (hu:u∈x::a) v (hv:v∈b)=>hf u hu v (List.mem_cons_of_mem _ hv)
    have i1:=ih a b (i+1) (j+1) (by omega) q1
    have i2:=ih a (y::b) (i+1) j (by simp only[List.length_cons];omega) q2
    have i3:=ih (x::a) b i (j+1) (by simp only[List.length_cons];omega) q3
    have d2:=Uh f _ a (y::b) (Nat.le_refl _) q2
    have d0:=Uh f _ (x::a) (y::b) (Nat.le_refl _) hf
    rw[List.map_cons]at i2 i3 d2
    rw[List.map_cons,List.map_cons]at d0
    rw[List.map_cons,List.map_cons]
    by_cases e:x=y
    ·rw[LP e,LP (congrArg f e),i1]
    ·have e2:f x≠f y:=fun k=>e (hf x (List.mem_cons_self ..) y (List.mem_cons_self ..) k)
     by_cases k:CN a (y::b)+1=CN (x::a) (y::b)
     ·rw[Ik e k,Ik e2 (by rw[d2,d0];exact k),i2]
     ·rw[GY e k,GY e2 (by rw[d2,d0];exact k),i3]
end
abbrev BU:=Int×(Int×(Int×Int))
def HS(old now:Int)(s:Int×Int):List BU:=if old<s.1∨now<s.2 then[(old,(s.1 -old,(now,s.2 -now)))]else[]
def Cs(m n:Int):List (Int×Int)→Int→Int→List BU
 |[],old,now=>HS old now (m,n)
 |s::r,old,now=>HS old now s++Cs m n r (s.1+1) (s.2+1)
def Gt(l:List BU):Int:=(l.map fun c=>c.2.1).sum
def GR(l:List BU):Int:=(l.map fun c=>c.2.2.2).sum
theorem Un{old now:Int}{s:Int×Int}(h1:old≤s.1)(h2:now≤s.2):Gt (HS old now s)=s.1 -old∧GR (HS old now s)=s.2 -now∧∀c∈HS old now s,(0≤c.2.1∧c.2.1≤s.1 -old)∧(0≤c.2.2.2∧c.2.2.2≤s.2 -now):=by
 unfold HS
 split
 ·refine⟨by simp[Gt],by simp[GR],fun c hc=>?_⟩
  rw[List.mem_singleton.1 hc]
  dsimp only
  omega
 ·refine⟨?_,?_,fun c hc=>nomatch hc⟩
  ·show(0:Int)=_;omega
  ·show(0:Int)=_;omega
theorem Rz{m n:Int}:∀{p:List (Int×Int)} {old now:Int},MR (old,now) m n p→old≤m→now≤n→
  Gt (Cs m n p old now)=m -old -p.length∧GR (Cs m n p old now)=n -now -p.length∧∀c∈Cs m n p old now,(0≤c.2.1∧c.2.1≤m -old)∧(0≤c.2.2.2∧c.2.2.2≤n -now)
 |[],old,now,_,h1,h2=>by
  obtain⟨q1,q2,q3⟩:=Un (s:=(m,n)) h1 h2
  exact⟨by unfold Cs;rw[q1];simp,by unfold Cs;rw[q2];simp,q3⟩
 |s::r,old,now,h,h1,h2=>by
  obtain⟨⟨k1,k2,k3,k4⟩,hr⟩:=h
  dsimp only at k1 k2
  obtain⟨q1,q2,q3⟩:=Un (s:=s) k1 k2
  obtain⟨r1,r2,r3⟩:=Rz (p:=r) (old:=s.1+1) (now:=s.2+1) hr (by omega) (by omega)
  refine⟨?_,?_,fun c hc=>?_⟩
  ·unfold Cs Gt
   rw[List.map_append,List.sum_append]
   have e1:(List.map (fun c:BU=>c.2.1) (HS old now s)).sum=s.1 -old:=q1
   have e2:(List.map (fun c:BU=>c.2.1) (Cs m n r (s.1+1) (s.2+1))).sum=m -(s.1+1) -r.length:=r1
   rw[e1,e2]
   simp only[List.length_cons]
   omega
  ·unfold Cs GR
   rw[List.map_append,List.sum_append]
   have e1:(List.map (fun c:BU=>c.2.2.2) (HS old now s)).sum=s.2 -now:=q2
   have e2:(List.map (fun c:BU=>c.2.2.2) (Cs m n r (s.1+1) (s.2+1))).sum=n -(s.2+1) -r.length:=r2
   rw[e1,e2]
   simp only[List.length_cons]
   omega
  ·unfold Cs at hc
   rcases List.mem_append.1 hc with hc|hc
   ·have:=q3 c hc;omega
   ·have:=r3 c hc;omega
end Go.VS

/- Bars: plain arithmetic. -/
set_option linter.unusedVariables false
set_option linter.unusedSimpArgs false
namespace Go.VS
def scl(n most width:Int):Int:=if n=0 then 0 else 1+n*(width -1)/most
def PV(a r most width:Int):Int:=if a>0∧r>0∧scl (a+r) most width<2 then 2 else scl (a+r) most width
def D3(a r most width:Int):Int×Int:=
 if most≤width then(a,r)
 else if a≤r then(scl a most width,PV a r most width -scl a most width)else(PV a r most width -scl r most width,scl r most width)
theorem IJ{n most width:Int}(h0:0≤n)(h1:n≤most)(hm:0<most)(hw:2≤width):0≤scl n most width∧scl n most width≤width∧(scl n most width=0↔n=0):=by
 unfold scl
 split
 ·rename_i h
  exact⟨by omega,by omega,fun _=>h,fun _=>rfl⟩
 ·rename_i h
  have e0:0≤n*(width -1)/most:=Int.ediv_nonneg (Int.mul_nonneg h0 (by omega)) (by omega)
  have e1:n*(width -1)/most≤width -1:=by
   have:n*(width -1)≤most*(width -1):=Int.mul_le_mul_of_nonneg_right h1 (by omega)
   have h2:=Int.ediv_le_ediv hm this
   rw[Int.mul_ediv_cancel_left _ (by omega)]at h2
   exact h2
  exact⟨by omega,by omega,fun hh=>by omega,fun hh=>absurd hh h⟩
theorem UK{a r most width:Int}(h0:0<a)(h1:a≤r)(hm:0<most)(hw:2≤width):2*scl a most width≤scl (a+r) most width+1:=by
 unfold scl
 rw[if_neg (by omega),if_neg (by omega)]
 have e1:2*(a*(width -1)/most)≤(a+r)*(width -1)/most:=by
  refine Int.le_ediv_of_mul_le hm ?_
  have h2:a*(width -1)/most*most≤a*(width -1):=Int.ediv_mul_le _ (by omega)
  have h3:(a+a)*(width -1)≤(a+r)*(width -1):=Int.mul_le_mul_of_nonneg_right (by omega) (by omega)
  have h4:(a+a)*(width -1)=2*(a*(width -1)):=by rw[Int.add_mul];omega
  have h5:2*(a*(width -1)/most)*most=2*(a*(width -1)/most*most):=by rw[Int.mul_assoc]
  omega
 omega
theorem Sj{a b most width:Int}(h0:0≤a)(h1:a≤b)(hm:0<most)(hw:2≤width):scl a most width≤scl b most width:=by
 unfold scl
 split
 ·split
  ·exact Int.le_refl _
  ·have e0:0≤b*(width -1)/most:=Int.ediv_nonneg (Int.mul_nonneg (by omega) (by omega)) (by omega)
   omega
 ·rename_i h
  rw[if_neg (by omega)]
  have:=Int.ediv_le_ediv hm (Int.mul_le_mul_of_nonneg_right h1 (show 0≤width -1 by omega))
  omega
theorem X3{a r most width:Int}(ha:0≤a)(hr:0≤r)(h:a+r≤most)(hw:2≤width)(hm:width<most):
  (D3 a r most width).1+(D3 a r most width).2≤width∧((D3 a r most width).1>0↔a>0)∧((D3 a r most width).2>0↔r>0)∧0≤(D3 a r most width).1∧0≤(D3 a r most width).2:=by
 have hsum:=IJ (n:=a+r) (by omega) h (by omega) hw
 have hA:=IJ (n:=a) ha (by omega) (by omega:0<most) hw
 have hR:=IJ (n:=r) hr (by omega) (by omega:0<most) hw
 have mA:=Sj (a:=a) (b:=a+r) (most:=most) ha (by omega) (by omega) hw
 have mR:=Sj (a:=r) (b:=a+r) (most:=most) hr (by omega) (by omega) hw
 unfold D3
 rw[if_neg (by omega)]
 unfold PV
 by_cases hle:a≤r
 ·rw[if_pos hle]
  dsimp only
  by_cases ha0:a>0
  ·have:=UK ha0 hle (by omega:0<most) hw
   split<;>refine⟨?_,⟨?_,?_⟩,⟨?_,?_⟩,?_,?_⟩<;>omega
  ·rw[if_neg (by omega)]
   refine⟨?_,⟨?_,?_⟩,⟨?_,?_⟩,?_,?_⟩<;>omega
 ·rw[if_neg hle]
  dsimp only
  by_cases hr0:r>0
  ·have:=UK (a:=r) (r:=a) hr0 (by omega) (by omega:0<most) hw
   rw[show r+a=a+r by omega]at this
   split<;>refine⟨?_,⟨?_,?_⟩,⟨?_,?_⟩,?_,?_⟩<;>omega
  ·rw[if_neg (by omega)]
   refine⟨?_,⟨?_,?_⟩,⟨?_,?_⟩,?_,?_⟩<;>omega
end Go.VS

/- A number brought into a range. -/
set_option linter.unusedVariables false
set_option linter.unusedSimpArgs false
namespace Go.VS
variable{P:Pg}
@[irreducible] def Qg(a n:Int):Int:=IntKind.i64.wrap (Int.tmod (IntKind.u64.wrap a) (IntKind.u64.wrap n))
theorem VX(n:Int):0≤IntKind.u64.wrap n∧IntKind.u64.wrap n≤18446744073709551615:=by rw[IntKind.wrap_u64];omega
theorem Nv{a n:Int}(h1:1≤n)(h2:n≤9223372036854775807):0≤Qg a n∧Qg a n<n:=by
 unfold Qg
 rw[AaF (n:=n) (by omega) (by omega)]
 have h:=VX a
 rw[Int.tmod_eq_emod_of_nonneg h.1]
 have e1:=Int.emod_nonneg (IntKind.u64.wrap a) (show n≠0 by omega)
 have e2:=Int.emod_lt_of_pos (IntKind.u64.wrap a) (show 0<n by omega)
 rw[w64 (by omega) (by omega)]
 exact⟨e1,e2⟩
def Lb(P:Pg):Prop:=∀x:Int×Int,1≤x.2→x.2≤9223372036854775807→Fn P zS3 B2 x fun d _=>d=Qg x.1 x.2
theorem ZM(h:Has P Il):Lb P:=by
 intro x h1 h2
 refine Ta h ?_
 unfold OE
 exact⟨by rw[AaF (by omega) (by omega)];omega,by unfold Qg;rfl⟩
theorem Lb.at(h:Lb P){a n:Int}(h1:1≤n)(h2:n≤9223372036854775807){K:Int→Unit→Prop}(hk:K (Qg a n) ()):Fn P zS3 B2 (a,n) K:=(h (a,n) h1 h2).to fun(d:Int) e hd=>by
 have hd:d=Qg a n:=hd
 subst hd;exact hk
end Go.VS

/- Numbers made of raw numbers; sets of bytes. -/
set_option linter.unusedVariables false
set_option linter.unusedSimpArgs false
namespace Go.VS
variable{P:Pg}
@[irreducible] def atX(raw:List Int)(k:Int):Int:=
 if((List.length raw:Nat):Int)>0 then(IntKind.u64.wrap ((BitVec.toNat (BitVec.ofInt IntKind.u64.bits (IntKind.u64.wrap ((IntKind.u64.wrap (IntKind.i64.wrap (k+(1:Int))))*(11400714819323198485:Int)))^^^BitVec.ofInt IntKind.u64.bits (IntKind.u64.wrap (List.getD raw (Int.toNat (Int.tmod k ((List.length raw:Nat):Int))) (0:Int)))):Nat):Int))
 else(IntKind.u64.wrap ((IntKind.u64.wrap (IntKind.i64.wrap (k+(1:Int))))*(11400714819323198485:Int)))
@[irreducible] def atY(d2:Int):Int:=IntKind.u64.wrap ((BitVec.toNat (BitVec.ofInt IntKind.u64.bits (IntKind.u64.wrap ((IntKind.u64.wrap ((BitVec.toNat (BitVec.ofInt IntKind.u64.bits d2^^^BitVec.ofInt IntKind.u64.bits (Int.fdiv d2 (2^(min (Int.toNat (31:Int)) IntKind.u64.bits)))):Nat):Int))*(13787848793156543929:Int)))^^^BitVec.ofInt IntKind.u64.bits (Int.fdiv (IntKind.u64.wrap ((IntKind.u64.wrap ((BitVec.toNat (BitVec.ofInt IntKind.u64.bits d2^^^BitVec.ofInt IntKind.u64.bits (Int.fdiv d2 (2^(min (Int.toNat (31:Int)) IntKind.u64.bits)))):Nat):Int))*(13787848793156543929:Int))) (2^(min (Int.toNat (29:Int)) IntKind.u64.bits)))):Nat):Int)
@[irreducible] def atF(raw:List Int)(k:Int):Int:=IntKind.i64.wrap (Int.fdiv (atY (atX raw k)) (2^(min (Int.toNat (1:Int)) IntKind.u64.bits)))
def OD(P:Pg):Prop:=∀x:List Int×Int,0≤x.2→Fn P zS2 BK x fun d _=>d=atF x.1 x.2
theorem Aax(h:Has P JL):OD P:=by
 intro x h1
 refine Vf h ?_
 unfold QI
 refine Av.mid (fun d=>d=atX x.1 x.2) ⟨fun hc=>?_,fun hc=>?_⟩ fun d hd=>⟨by decide,by decide,by decide,?_⟩
 ·have hc:((List.length x.1:Nat):Int)>0:=of_decide_eq_true hc
  have e1:(Int.tmod x.2 ((List.length x.1:Nat):Int))=x.2%(List.length x.1:Nat):=Int.tmod_eq_emod_of_nonneg h1
  have e2:=Int.emod_nonneg x.2 (show((List.length x.1:Nat):Int)≠0 by omega)
  have e3:=Int.emod_lt_of_pos x.2 hc
  refine⟨by omega,by omega,by omega,?_⟩
  unfold atX
  rw[if_pos hc]
 ·have hc:¬((List.length x.1:Nat):Int)>0:=of_decide_eq_false hc
  unfold atX
  rw[if_neg hc]
 ·subst hd;unfold atF atY;rfl
theorem OD.at(h:OD P){raw:List Int}{k:Int}(h1:0≤k){K:Int→Unit→Prop}(hk:K (atF raw k) ()):Fn P zS2 BK (raw,k) K:=(h (raw,k) h1).to fun(d:Int) e hd=>by
 have hd:d=atF raw k:=hd
 subst hd;exact hk
end Go.VS

/- Bars of statistics: the program's, the document's. -/
set_option linter.unusedVariables false
set_option linter.unusedSimpArgs false
namespace Go.VS
variable{P:Pg}
def Fh(n:Int):Prop:=0≤n∧n≤2147483647
instance(n:Int):Decidable (Fh n):=by unfold Fh;infer_instance
theorem Aav{n most width:Int}(h0:0≤n)(h1:n≤most)(hm:0<most)(hM:most≤2147483647)(hw:2≤width)(hw2:width≤1000)(hn:n≠0):
  IntKind.i64.wrap (1+IntKind.i64.wrap (Int.tdiv (IntKind.i64.wrap (n*IntKind.i64.wrap (width -1))) most))=scl n most width:=by
 have hmul:0≤n*(width -1):=Int.mul_nonneg h0 (by omega)
 have hmul2:n*(width -1)≤2147483647*999:=Int.le_trans (Int.mul_le_mul_of_nonneg_right (show n≤2147483647 by omega) (by omega)) (Int.mul_le_mul_of_nonneg_left (by omega) (by decide))
 have hr:=IJ h0 h1 hm hw
 unfold scl at hr⊢
 rw[if_neg hn]at hr⊢
 rw[w64 (n:=width -1) (by omega) (by omega),w64 (n:=n*(width -1)) (by omega) (by omega),Int.tdiv_eq_ediv_of_nonneg hmul,w64 (n:=n*(width -1)/most) (by omega) (by omega),w64 (by omega) (by omega)]
def Fs(P:Pg):Prop:=∀x:Int,Fn P zS0 AH x fun(d:Bool) _=>d=decide (Fh x)
theorem VP(h:Has P EH):Fs P:=by
 intro x
 refine Nb h ?_
 unfold I1
 by_cases h1:x≥0<;>by_cases h2:x≤2147483647<;>simp[Fh,h1,h2]<;>omega
theorem Fs.at(h:Fs P){x:Int}{K:Bool→Unit→Prop}(hk:K (decide (Fh x)) ()):Fn P zS0 AH x K:=
 (h x).to fun(d:Bool) _ hd=>by
  have hd:d=decide (Fh x):=hd
  subst hd
  exact hk
def PL(P:Pg):Prop:=∀x:Int×(Int×Int),0≤x.1→x.1≤x.2.2→0<x.2.2→x.2.2≤2147483647→2≤x.2.1→x.2.1≤1000→Fn P V0 BJ x fun(d:Int) (e:Int×Int)=>d=scl x.1 x.2.2 x.2.1∧e=x.2
theorem YK(h:Has P E7):PL P:=by
 rintro⟨n,w,m⟩ h0 h1 h2 h3 h4 h5
 dsimp only at h0 h1 h2 h3 h4 h5
 refine Og h ?_
 unfold JO
 dsimp only
 refine⟨fun hc=>⟨?_,rfl⟩,fun hc=>⟨by omega,?_,rfl⟩⟩
 ·have hc:n=0:=by simpa using hc
  unfold scl
  rw[if_pos hc]
 ·have hc:¬n=0:=by simpa using hc
  exact Aav h0 h1 h2 h3 h4 h5 hc
def MA(a r most width:Int):Prop:=2≤width∧width≤1000∧0≤a∧0≤r∧most≤2147483647∧a+r≤most
instance(a r most width:Int):Decidable (MA a r most width):=by unfold MA;infer_instance
def Lg(P:Pg):Prop:=∀x:Int×(Int×(Int×Int)),MA x.1 x.2.1 x.2.2.1 x.2.2.2→Fn P XL CI x fun(d:Int×Int) _=>d=D3 x.1 x.2.1 x.2.2.1 x.2.2.2
theorem ZN(h:Has P G4)(hB:PL P):Lg P:=by
 rintro⟨a,r,m,w⟩ ⟨h1,h2,h3,h4,h5,h6⟩
 dsimp only at h1 h2 h3 h4 h5 h6
 refine Rb h ?_
 unfold MO
 dsimp only
 refine⟨fun hc=>?_,fun hc=>?_⟩
 ·unfold D3
  rw[if_pos (of_decide_eq_true hc)]
 have hc:=of_decide_eq_false hc
 rw[w64 (n:=a+r) (by omega) (by omega)]
 refine(hB (a+r,(w,m)) (by dsimp only;omega) (by dsimp only;omega) (by dsimp only;omega) h5 h1 h2).to ?_
 rintro(d:Int) (e:Int×Int) ⟨rfl,rfl⟩
 dsimp only
 have hall:=IJ (n:=a+r) (most:=m) (width:=w) (by omega) h6 (by omega) h1
 refine Av.mid (fun q=>q=PV a r m w) ⟨fun hb=>?_,fun hb=>?_⟩ ?_
 ·unfold PV
  have hb:a>0∧r>0:=by simpa using hb
  split<;>split<;>omega
 ·unfold PV
  have hb:¬(a>0∧r>0):=by simpa using hb
  rw[if_neg (fun x=>hb ⟨x.1,x.2.1⟩)]
 rintro q rfl
 refine(hB ((if r<a then r else a),(w,m)) (by dsimp only;split<;>omega) (by dsimp only;split<;>omega) (by dsimp only;omega) h5 h1 h2).to ?_
 rintro(d:Int) (e:Int×Int) ⟨rfl,rfl⟩
 dsimp only
 have hp:=IJ (n:=if r<a then r else a) (most:=m) (width:=w) (by split<;>omega) (by split<;>omega) (by omega) h1
 have hA:0≤PV a r m w∧PV a r m w≤1000:=by unfold PV;split<;>omega
 unfold D3
 rw[if_neg hc]
 refine⟨fun hb=>?_,fun hb=>?_⟩
 ·have hb:=of_decide_eq_true hb
  rw[if_neg (by omega)]at hp⊢
  rw[if_pos hb,w64 (by omega) (by omega)]
 ·have hb:=of_decide_eq_false hb
  rw[if_pos (by omega)]at hp⊢
  rw[if_neg hb,w64 (by omega) (by omega)]
def V8(a r most width:Int):Int×(Int×Int):=if MA a r most width then((D3 a r most width).1,((D3 a r most width).2,0))else(0,(0,3))
def ME(P:Pg):Prop:=∀x:Int×(Int×(Int×Int)),Fn P V1 CH x fun(d:Int×(Int×Int)) _=>d=V8 x.1 x.2.1 x.2.2.1 x.2.2.2
theorem ZK(h:Has P G3)(hN:Fs P)(hB:Lg P):ME P:=by
 rintro⟨a,r,m,w⟩
 refine Ra h ?_
 unfold MN V8
 dsimp only
 refine Av.mid (fun q=>(2≤w∧w≤1000)→q=decide (Fh a)) ⟨fun _=>hN.at fun _=>rfl,fun hc hw=>?_,trivial⟩ ?_
 ·simp at hc;omega
 intro q1 hq1
 refine Av.mid (fun q=>(2≤w∧w≤1000∧q1=true)→q=decide (Fh r)) ⟨fun _=>hN.at fun _=>rfl,fun hc hw=>?_,trivial⟩ ?_
 ·simp[hw.2.2]at hc;omega
 intro q2 hq2
 refine Av.mid (fun q=>(2≤w∧w≤1000∧q1=true∧q2=true)→q=decide (Fh m)) ⟨fun _=>hN.at fun _=>rfl,fun hc hw=>?_,trivial⟩ ?_
 ·simp[hw.2.2.1,hw.2.2.2]at hc;omega
 intro q3 hq3
 by_cases hw:2≤w∧w≤1000
 ·have e1:=hq1 hw
  have d1:decide (w<2)=false:=decide_eq_false (by omega)
  have d2:decide (w>1000)=false:=decide_eq_false (by omega)
  rw[d1,d2]
  by_cases ha:Fh a
  ·rw[decide_eq_true ha]at e1
   subst e1
   have e2:=hq2 ⟨hw.1,hw.2,rfl⟩
   by_cases hr:Fh r
   ·rw[decide_eq_true hr]at e2
    subst e2
    have e3:=hq3 ⟨hw.1,hw.2,rfl,rfl⟩
    unfold Fh at ha hr
    rw[w64 (n:=a+r) (by omega) (by omega)]
    by_cases hm:Fh m
    ·rw[decide_eq_true hm]at e3
     subst e3
     unfold Fh at hm
     refine⟨fun hc=>?_,fun hc=>?_⟩
     ·have hc:m<a+r:=by simpa using hc
      rw[if_neg (fun x=>by have:=x.2.2.2.2.2;omega)]
     ·have hc:¬m<a+r:=by simpa using hc
      have hok:MA a r m w:=⟨hw.1,hw.2,ha.1,hr.1,hm.2,by omega⟩
      refine(hB (a,(r,(m,w))) hok).to ?_
      rintro(d:Int×Int) _ hd
      have hd:d=D3 a r m w:=hd
      subst hd
      rw[if_pos hok]
    ·rw[decide_eq_false hm]at e3
     subst e3
     refine⟨fun _=>?_,fun hc=>by simp at hc⟩
     rw[if_neg (fun x=>hm ⟨by have:=x.2.2.2.2.2;omega,x.2.2.2.2.1⟩)]
   ·rw[decide_eq_false hr]at e2
    subst e2
    refine⟨fun _=>?_,fun hc=>by simp at hc⟩
    unfold Fh at ha
    rw[if_neg (fun x=>hr ⟨x.2.2.2.1,by have:=x.2.2.2.2;omega⟩)]
  ·rw[decide_eq_false ha]at e1
   subst e1
   refine⟨fun _=>?_,fun hc=>by simp at hc⟩
   rw[if_neg (fun x=>ha ⟨x.2.2.1,by have:=x.2.2.2;omega⟩)]
 ·refine⟨fun _=>?_,fun hc=>?_⟩
  ·rw[if_neg (fun x=>hw ⟨x.1,x.2.1⟩)]
  ·simp at hc
   omega
end Go.VS

/- Numbers in texts; bytes. -/
set_option linter.unusedVariables false
set_option linter.unusedSimpArgs false
namespace Go.VS
variable{P:Pg}
abbrev Bs:=List UInt8
end Go.VS

/- Numbers as the program reads them. -/
set_option linter.unusedVariables false
set_option linter.unusedSimpArgs false
namespace Go.VS
variable{P:Pg}
theorem cor{p q:Prop}[Decidable p][Decidable q]:cond (decide p) true (decide q)=true↔p∨q:=by
 by_cases h:p<;>simp[h]
theorem corf{p q:Prop}[Decidable p][Decidable q]:cond (decide p) true (decide q)=false↔¬p∧¬q:=by
 by_cases h:p<;>simp[h]
end Go.VS

/- Words and numbers in texts: what they are. -/
set_option linter.unusedVariables false
set_option linter.unusedSimpArgs false
namespace Go.VS
variable{P:Pg}
def Ql(c:Int):Bool:=cond (cond (cond (decide (c≥33)) (decide (c≤126)) false) (c !=34) false) (c !=92) false
def LD(b:UInt8):Bool:=Ql ((b.toNat:Nat):Int)
def Fe(b:UInt8):List UInt8:=
 if b=34∨b=92 then[92,b]else if b=10 then[92,110]else if b=9 then[92,116]
 else if b.toNat<32∨126<b.toNat then[92,UInt8.ofNat (48+b.toNat/64),UInt8.ofNat (48+b.toNat/8%8),UInt8.ofNat (48+b.toNat%8)]else[b]
def DV(s:List UInt8):List UInt8:=if(!s.isEmpty&&s.all LD)=true then s else 34::(s.flatMap Fe++[34])
def Dj(P:Pg):Prop:=∀b:UInt8,Fn P "mergelens/scan.escaped" Cw ((b.toNat:Nat):Int) fun(d:List UInt8) _=>d=Fe b
theorem OP:∀n:Nat,n<128→Vc (n:Int)=[UInt8.ofNat n]:=by decide+kernel
theorem Yo:∀n:Nat,n<256→strOf ([(IntKind.u8.wrap ((48:Int)+(Int.fdiv (n:Int) (2^(min (Int.toNat (6:Int)) IntKind.u8.bits))))),(IntKind.u8.wrap ((48:Int)+(IntKind.u8.wrap ((BitVec.toNat (BitVec.ofInt IntKind.u8.bits (Int.fdiv (n:Int) (2^(min (Int.toNat (3:Int)) IntKind.u8.bits)))&&&BitVec.ofInt IntKind.u8.bits (7:Int)):Nat):Int)))),(IntKind.u8.wrap ((48:Int)+(IntKind.u8.wrap ((BitVec.toNat (BitVec.ofInt IntKind.u8.bits (n:Int)&&&BitVec.ofInt IntKind.u8.bits (7:Int)):Nat):Int))))]:List Int)=[UInt8.ofNat (48+n/64),UInt8.ofNat (48+n/8%8),UInt8.ofNat (48+n%8)]:=by decide+kernel
theorem TR(h:Has P D4):Dj P:=by
 intro b
 refine Mi h ?_
 unfold HJ
 have hb:b.toNat<256:=UInt8.toNat_lt b
 have hbo:UInt8.ofNat b.toNat=b:=by simp
 have hv:∀v:UInt8,((b.toNat:Int)==((v.toNat:Nat):Int))=true↔b=v:=fun v=>by
  rw[beq_iff_eq]
  constructor
  ·intro h;apply UInt8.toNat_inj.1;omega
  ·rintro rfl;rfl
 unfold Fe
 refine Av.mid (fun _=>¬(b=34∨b=92)∧b≠10∧b≠9∧¬(b.toNat<32∨126<b.toNat)) ?_ ?_
 rotate_left
 ·rintro _ ⟨h1,h2,h3,h4⟩
  rw[if_neg h1,if_neg h2,if_neg h3,if_neg h4,OP _ (by omega),hbo]
 refine⟨fun hc=>?_,fun hc=>⟨fun h10=>?_,fun h10=>⟨fun h9=>?_,fun h9=>⟨fun ho=>?_,fun ho=>?_⟩⟩⟩⟩
 ·have h1:b=34∨b=92:=by
   cases h1:((b.toNat:Int)==(34:Int))with
   |true=>exact .inl ((hv 34).1 h1)
   |false=>rw[h1]at hc;exact .inr ((hv 92).1 hc)
  have h2:b.toNat<128:=by rcases h1 with rfl|rfl<;>decide
  rw[if_pos h1,OP _ h2,hbo]
  exact⟨by simp,rfl⟩
 all_goals
  have h1:¬(b=34∨b=92):=by
   rintro(rfl|rfl)
   ·exact absurd hc (by decide)
   ·exact absurd hc (by decide)
 all_goals try rw[if_neg h1]
 ·rw[if_pos ((hv 10).1 h10)]
 all_goals have h2:b≠10:=fun e=>by subst e;exact absurd h10 (by decide)
 all_goals try rw[if_neg h2]
 ·rw[if_pos ((hv 9).1 h9)]
 all_goals have h3:b≠9:=fun e=>by subst e;exact absurd h9 (by decide)
 all_goals try rw[if_neg h3]
 ·have h4:b.toNat<32∨126<b.toNat:=by
   cases h4:decide ((b.toNat:Int)<32)with
   |true=>have:=of_decide_eq_true h4;omega
   |false=>rw[h4]at ho;have:=of_decide_eq_true ho;omega
  rw[if_pos h4,Yo _ hb]
  exact⟨by decide,by decide,by simp,rfl⟩
 ·refine⟨h1,h2,h3,?_⟩
  rintro(h4|h4)
  ·have:decide ((b.toNat:Int)<32)=true:=decide_eq_true (by omega)
   rw[this]at ho;cases ho
  ·cases h5:decide ((b.toNat:Int)<32)with
   |true=>rw[h5]at ho;cases ho
   |false=>rw[h5]at ho;have:=of_decide_eq_false ho;omega
end Go.VS

/- Numbers and ranges: as they are written, as they are read. -/
set_option linter.unusedVariables false
set_option linter.unusedSimpArgs false
namespace Go.VS
variable{P:Pg}
def FJ(n:Int):Bs:=if n<0∨n>2147483647 then[]else Lib.decDigits n.toNat
theorem Ug:∀k u:Nat,u<10^(k+1)→(Lib.decDigits u).length≤k+1
 |0,u,h=>by
  rw[Lib.decDigits]
  have h1:u<10:=by simpa using h
  simp[h1]
 |k+1,u,h=>by
  rw[Lib.decDigits]
  split
  ·simp
  ·have h2:u/10<10^(k+1):=by
    rw[Nat.pow_succ]at h
    omega
   have:=Ug k (u/10) h2
   rw[List.length_append]
   simp only[List.length_cons,List.length_nil]
   omega
theorem Kf(n:Int):(FJ n).length≤10:=by
 unfold FJ
 split
 ·simp
 ·exact Ug 9 n.toNat (by omega)
def PI(P:Pg):Prop:=∀n:Int,0≤n→n≤2147483647→Fn P "strconv.Itoa" Fx n fun(d:Bs) _=>d=Lib.decDigits n.toNat
def GD(P:Pg):Prop:=∀x:Int,Fn P "mergelens/scan.Format" Cm x fun(d:Bs) _=>d=FJ x
theorem VK(h:Has P EF)(hI:PI P):GD P:=by
 intro x
 refine M9 h ?_
 unfold IY FJ
 dsimp only
 refine⟨fun hc=>?_,fun hc=>?_⟩
 ·rw[if_pos (by have:=cor.1 hc;omega)]
 ·have:=corf.1 hc
  rw[if_neg (by omega)]
  exact hI x (by omega) (by omega)
end Go.VS

/- Quoting in the document; what a plain byte is. -/
set_option linter.unusedVariables false
set_option linter.unusedSimpArgs false
namespace Go.VS
variable{P:Pg}
def V9(P:Pg):Prop:=∀s:Bs,s.length≤17592186044416→Fn P "mergelens/scan.Quote" PG s fun(d:Bs) _=>d=DV s
end Go.VS

/- Statistics as a text. -/
set_option linter.unusedVariables false
set_option linter.unusedSimpArgs false
namespace Go.VS
variable{P:Pg}
def Xe(s:Stat)(a r:Int):Prop:=Fh s.2.1∧Fh s.2.2∧Fh (a+s.2.1+(r+s.2.2))
instance(s:Stat)(a r:Int):Decidable (Xe s a r):=by unfold Xe;infer_instance
def Hs:List Stat→Int→Int→Int→Int×(Int×(Int×Bool))
 |[],a,r,m=>(a,(r,(m,true)))
 |s::l,a,r,m=>if Xe s a r then Hs l (a+s.2.1) (r+s.2.2) (if s.2.1+s.2.2>m then s.2.1+s.2.2 else m)else(0,(0,(0,false)))
def Hr(l:List Stat):Int×(Int×(Int×Bool)):=Hs l 0 0 0
theorem UR:∀{l:List Stat} {a r m:Int},(Hs l a r m).2.2.2=true→0≤a→0≤r→a+r≤2147483647→0≤m→m≤2147483647→
  0≤(Hs l a r m).1∧0≤(Hs l a r m).2.1∧(Hs l a r m).1+(Hs l a r m).2.1≤2147483647∧m≤(Hs l a r m).2.2.1∧(Hs l a r m).2.2.1≤2147483647∧∀s∈l,0≤s.2.1∧0≤s.2.2∧s.2.1+s.2.2≤(Hs l a r m).2.2.1
 |[],a,r,m,h,h1,h2,h3,h4,h5=>⟨h1,h2,h3,Int.le_refl _,h5,fun s hs=>nomatch hs⟩
 |s::l,a,r,m,h,h1,h2,h3,h4,h5=>by
  rw[Hs]at h⊢
  by_cases hc:Xe s a r
  ·rw[if_pos hc]at h⊢
   obtain⟨⟨c1,c2⟩,⟨c3,c4⟩,⟨c5,c6⟩⟩:=hc
   have hm:0≤(if s.2.1+s.2.2>m then s.2.1+s.2.2 else m)∧(if s.2.1+s.2.2>m then s.2.1+s.2.2 else m)≤2147483647∧m≤(if s.2.1+s.2.2>m then s.2.1+s.2.2 else m)∧s.2.1+s.2.2≤(if s.2.1+s.2.2>m then s.2.1+s.2.2 else m):=by split<;>omega
   obtain⟨k1,k2,k3,k4,k5,k6⟩:=UR h (by omega) (by omega) (by omega) hm.1 hm.2.1
   refine⟨k1,k2,k3,by omega,k5,fun t ht=>?_⟩
   rcases List.mem_cons.1 ht with rfl|ht
   ·exact⟨c1,c3,by omega⟩
   ·exact k6 t ht
  ·rw[if_neg hc]at h
   cases h
def Lh(P:Pg):Prop:=∀x:List Stat,x.length≤1000000→Fn P "mergelens/stat.totals" Cn x fun(d:Int×(Int×(Int×Bool))) _=>d=Hr x
theorem VQ(h:Has P EI)(hN:Fs P):Lh P:=by
 intro x hx
 refine Nc h ?_
 unfold I2
 refine Av.mid (fun q=>(q.1,(q.2.1,(q.2.2.1,true)))=Hr x) ?_ fun q hq=>hq
 refine DD.of (fun q=>0≤q.1∧0≤q.2.1∧q.1+q.2.1≤2147483647∧0≤q.2.2.1∧q.2.2.1≤2147483647∧0≤q.2.2.2.2∧q.2.2.2.2≤x.length∧Hr x=Hs (x.drop q.2.2.2.2.toNat) q.1 q.2.1 q.2.2.1) (fun q=>(x.length -q.2.2.2.2).toNat) ⟨by decide,by decide,by decide,by decide,by decide,by decide,by dsimp only;omega,rfl⟩ ?_
 rintro⟨a,r,m,b,i⟩ ⟨a0,r0,ar,m0,m1,i0,i1,e⟩
 dsimp only at a0 r0 ar m0 m1 i0 i1 e⊢
 refine⟨fun hc=>?_,fun hc=>?_⟩
 ·have hc:=of_decide_eq_true hc
  have hi:i.toNat<x.length:=by omega
  have hd:x.drop i.toNat=x.getD i.toNat HD::x.drop (i.toNat+1):=by
   rw[List.drop_eq_getElem_cons hi,List.getD_eq_getElem?_getD,List.getElem?_eq_getElem hi,Option.getD_some]
  rw[hd]at e
  generalize x.getD i.toNat HD=s at e⊢
  obtain⟨p,sa,sr⟩:=s
  dsimp only
  refine Av.mid (fun q=>Hr x=Hs (x.drop (i.toNat+1)) q.1 q.2.1 q.2.2.1∧0≤q.1∧0≤q.2.1∧q.1+q.2.1≤2147483647∧0≤q.2.2.1∧q.2.2.1≤2147483647) ⟨⟨i0,hc⟩,hi,hN.at ?_⟩ ?_
  ·by_cases c1:Fh sa
   ·rw[decide_eq_true c1]
    refine Av.mid (fun q=>q=decide (Fh sr)) ⟨fun _=>hN.at rfl,fun hh=>by simp at hh,trivial⟩ ?_
    rintro q rfl
    by_cases c2:Fh sr
    ·rw[decide_eq_true c2]
     unfold Fh at c1 c2
     refine⟨fun hh=>by simp at hh,fun _=>?_⟩
     rw[w64 (n:=a+sa) (by omega) (by omega),w64 (n:=r+sr) (by omega) (by omega),w64 (n:=sa+sr) (by omega) (by omega),w64 (n:=a+sa+(r+sr)) (by omega) (by omega)]
     refine hN.at ?_
     by_cases c3:Fh (a+sa+(r+sr))
     ·rw[decide_eq_true c3]
      refine⟨fun hh=>by simp at hh,fun _=>?_⟩
      have hok:Xe (p,(sa,sr)) a r:=⟨c1,c2,c3⟩
      rw[Hs,if_pos hok]at e
      unfold Fh at c3
      refine⟨e,by dsimp only;omega,by dsimp only;omega,by dsimp only;omega,?_,?_⟩
      ·dsimp only;split<;>omega
      ·dsimp only;split<;>omega
     ·rw[decide_eq_false c3]
      refine⟨fun _=>?_,fun hh=>by simp at hh⟩
      rw[Hs,if_neg (fun x=>c3 x.2.2)]at e
      exact e.symm
    ·rw[decide_eq_false c2]
     refine⟨fun _=>?_,fun hh=>by simp at hh⟩
     rw[Hs,if_neg (fun x=>c2 x.2.1)]at e
     exact e.symm
   ·rw[decide_eq_false c1]
    refine Av.mid (fun q=>True) ⟨fun hh=>by simp at hh,fun _=>trivial,trivial⟩ ?_
    intro q _
    refine⟨fun _=>?_,fun hh=>by simp at hh⟩
    rw[Hs,if_neg (fun x=>c1 x.1)]at e
    exact e.symm
  ·rintro⟨a',r',m',b'⟩ ⟨e',k1,k2,k3,k4,k5⟩
   dsimp only at e' k1 k2 k3 k4 k5⊢
   rw[w64 (by omega) (by omega)]
   refine⟨⟨k1,k2,k3,k4,k5,by omega,by omega,?_⟩,by omega⟩
   rw[show(i+1).toNat=i.toNat+1 by omega]
   exact e'
 ·have hc:=of_decide_eq_false hc
  rw[show i.toNat=x.length by omega,List.drop_length]at e
  exact e.symm
def FW(most width:Int)(s:Stat):Bs:=
 (((((((([32]:Bs)++DV s.1)++[32,124,32])++FJ (s.2.1+s.2.2))++[32])++List.replicate (D3 s.2.1 s.2.2 most width).1.toNat 43)++List.replicate (D3 s.2.1 s.2.2 most width).2.toNat 45)++[10])
def PX(n a r:Int):Bs:=(((((([32]:Bs)++FJ n)++[32,102,105,108,101,115,44,32])++FJ a)++[32,97,100,100,101,100,44,32])++FJ r)++[32,114,101,109,111,118,101,100,10]
def sfF(l:List Stat)(width:Int):Bs×Int:=
 if(Hr l).2.2.2=false∨width<2∨width>1000 then([],3)else(l.flatMap (FW (Hr l).2.2.1 width)++PX l.length (Hr l).1 (Hr l).2.1,0)
def Few(l:List Stat):Prop:=l.length≤8∧∀s∈l,s.1.length≤60
def Ja(P:Pg):Prop:=∀x:List Stat×Int,Few x.1→Fn P "mergelens/stat.Format" EJ x fun(d:Bs×Int) _=>d=sfF x.1 x.2
theorem QP{a r most width:Int}(ha:0≤a)(hr:0≤r)(h:a+r≤most)(hw:2≤width)(hw2:width≤1000):0≤(D3 a r most width).1∧(D3 a r most width).1≤1000∧0≤(D3 a r most width).2∧(D3 a r most width).2≤1000:=by
 by_cases hm:most≤width
 ·unfold D3
  rw[if_pos hm]
  dsimp only
  omega
 ·have:=X3 ha hr h hw (by omega)
  omega
theorem Ps(s:Bs):(DV s).length≤4*s.length+2:=by
 have esc:∀l:Bs,(l.flatMap Fe).length≤4*l.length:=by
  intro l
  induction l with
  |nil=>simp
  |cons b l ih=>
   have hb:(Fe b).length≤4:=by
    unfold Fe
    repeat' split
    all_goals simp
   rw[List.flatMap_cons,List.length_append,List.length_cons]
   omega
 unfold DV
 split
 ·omega
 ·have:=esc s
  simp only[List.length_cons,List.length_append,List.length_nil]
  omega
theorem XF{most width:Int}{s:Stat}(h1:0≤s.2.1)(h2:0≤s.2.2)(h:s.2.1+s.2.2≤most)(hw:2≤width)(hw2:width≤1000)(hp:s.1.length≤60):(FW most width s).length≤3000:=by
 have hb:=QP h1 h2 h hw hw2
 have hq:=Ps s.1
 have hf:=Kf (s.2.1+s.2.2)
 unfold FW
 simp only[List.length_append,List.length_replicate,List.length_cons,List.length_nil]
 omega
end Go.VS

/- The lines of a text. -/
set_option linter.unusedVariables false
set_option linter.unusedSimpArgs false
namespace Go.VS
variable{P:Pg}
def lnN(acc:Bs):Bs→List Bs
 |[]=>[]
 |b::r=>if b=10∨r=[]then(acc++[b])::lnN [] r else lnN (acc++[b]) r
def lnF(s:Bs):List Bs:=lnN [] s
def G7(P:Pg):Prop:=∀s:Bs,s.length≤100000000→Fn P zS1 AJ s fun(d:List Bs) _=>d=lnF s
theorem Aay{s:Bs}{i:Nat}(h:i<s.length):List.take (i+1) s=List.take i s++[s.getD i 0]:=by
 rw[List.take_add_one,List.getElem?_eq_getElem h,List.getD_eq_getElem?_getD,List.getElem?_eq_getElem h]
 rfl
theorem TP(h:Has P EE):G7 P:=by
 intro s hs
 refine M8 h ?_
 unfold IX
 refine Av.mid (fun q=>q=lnF s) ?_ fun q hq=>hq
 refine DD.of (fun q=>0≤q.2.1∧q.2.1≤q.2.2∧q.2.2≤s.length∧(q.1.length:Int)≤q.2.2∧q.1++lnN (List.drop q.2.1.toNat (List.take q.2.2.toNat s)) (s.drop q.2.2.toNat)=lnF s) (fun q=>(s.length -q.2.2).toNat) ⟨by decide,by decide,by dsimp only;omega,by simp,by simp[lnF]⟩ ?_
 rintro⟨o,f,i⟩ ⟨f0,f1,i1,ho,e⟩
 dsimp only at f0 f1 i1 ho e⊢
 refine⟨fun hc=>?_,fun hc=>?_⟩
 ·have hc:=of_decide_eq_true hc
  rw[w64 (n:=i+1) (by omega) (by omega)]
  have hi:i.toNat<s.length:=by omega
  have hd:s.drop i.toNat=s.getD i.toNat 0::s.drop (i.toNat+1):=by
   rw[List.drop_eq_getElem_cons hi,List.getD_eq_getElem?_getD,List.getElem?_eq_getElem hi,Option.getD_some]
  have e1:(i+1).toNat=i.toNat+1:=by omega
  have hdr:List.drop f.toNat (List.take (i.toNat+1) s)=List.drop f.toNat (List.take i.toNat s)++[s.getD i.toNat 0]:=by
   rw[Aay hi,List.drop_append_of_le_length (by rw[List.length_take];omega)]
  rw[hd,lnN]at e
  have hnil:s.drop (i.toNat+1)=[]↔i+1=s.length:=by
   rw[List.drop_eq_nil_iff];omega
  refine Av.mid (fun q=>0≤q.2∧q.2≤i+1∧(q.1.length:Int)≤i+1∧q.1++lnN (List.drop q.2.toNat (List.take (i.toNat+1) s)) (s.drop (i.toNat+1))=lnF s) ⟨⟨by omega,hc⟩,Av.of ⟨fun hb=>?_,fun hb=>?_⟩⟩ ?_
  ·rw[if_pos (by
    simp at hb
    rcases hb with hb|hb
    ·refine Or.inl ?_
     rw[List.getD_eq_getElem?_getD]
     exact UInt8.toNat_inj.1 (by rw[show(10:UInt8).toNat=10 from rfl];omega)
    ·exact Or.inr (hnil.2 hb))]at e
   refine⟨⟨f0,by omega,by omega⟩,by simp only[List.length_cons,List.length_nil];omega,by dsimp only;omega,by dsimp only;omega,?_,?_⟩
   ·simp only[List.length_append,List.length_cons,List.length_nil];omega
   ·dsimp only
    rw[e1,hdr,show List.drop (i.toNat+1) (List.take (i.toNat+1) s)=[]by rw[List.drop_eq_nil_iff,List.length_take];omega,←e]
    simp only[List.append_assoc,List.singleton_append]
  ·rw[if_neg (by
    simp at hb
    rintro(hh|hh)
    ·rw[List.getD_eq_getElem?_getD]at hh
     exact hb.1 (by rw[hh];rfl)
    ·exact hb.2 (hnil.1 hh))]at e
   refine⟨f0,by dsimp only;omega,by dsimp only;omega,?_⟩
   dsimp only
   rw[hdr]
   exact e
  ·rintro⟨o',f'⟩ ⟨k1,k2,k3,k4⟩
   dsimp only at k1 k2 k3 k4⊢
   exact⟨⟨k1,k2,by omega,k3,by rw[e1];exact k4⟩,by omega⟩
 ·have hc:=of_decide_eq_false hc
  rw[show i.toNat=s.length by omega,List.drop_length,lnN,List.append_nil]at e
  exact e
def Mo(P:Pg):Prop:=∀k:Int,Fn P zS9 Ck k fun(d:Bs) _=>d.length≤3
theorem YH(h:Has P G1)(hM:Lb P):Mo P:=by
 intro k
 refine Q8 h ?_
 unfold ML
 refine hM.at (by decide) (by decide) ?_
 have hr:=Nv (a:=k) (n:=10) (by decide) (by decide)
 generalize Qg k 10=m at*
 refine⟨⟨by omega,by simp;omega⟩,by simp;omega,?_⟩
 have:m=0∨m=1∨m=2∨m=3∨m=4∨m=5∨m=6∨m=7∨m=8∨m=9:=by omega
 rcases this with rfl|rfl|rfl|rfl|rfl|rfl|rfl|rfl|rfl|rfl<;>decide
end Go.VS
