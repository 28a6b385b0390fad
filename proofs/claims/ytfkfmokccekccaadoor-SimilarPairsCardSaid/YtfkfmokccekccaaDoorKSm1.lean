import Derived.Test.YtfkfmokccekccaaDoorKSm0
/- How alike two blobs are. -/
set_option linter.unusedVariables false
set_option linter.unusedSimpArgs false
namespace Go.VS
variable{P:Pg}
def AcX(l:List Bs)(s:Bs):Option Int:=if s∈l then some ((l.count s:Nat):Int)else none
theorem AfI(l:List Bs)(x:Bs)(s:Bs):AcX (l++[x]) s=if s=x then some ((((l.count x:Nat):Int))+1)else AcX l s:=by
 unfold AcX
 by_cases h:s=x
 ·subst h
  rw[if_pos (by simp),if_pos rfl,List.count_append,List.count_singleton_self]
  rfl
 ·rw[if_neg h,List.count_append,List.count_eq_zero_of_not_mem (by simpa using h:s∉[x])]
  simp[h]
theorem Adf(l:List Bs)(s:Bs):(AcX l s).getD 0=((l.count s:Nat):Int):=by
 unfold AcX
 by_cases h:s∈l
 ·rw[if_pos h];rfl
 ·rw[if_neg h,List.count_eq_zero_of_not_mem h];rfl
def ddF:List Bs→List Bs
 |[]=>[]
 |a::l=>if a∈l then ddF l else a::ddF l
theorem Ac4:∀(l:List Bs) (s:Bs),s∈ddF l↔s∈l
 |[],s=>Iff.rfl
 |a::l,s=>by
  rw[ddF]
  split
  ·rename_i h
   rw[Ac4 l s,List.mem_cons]
   exact⟨.inr,fun h2=>h2.elim (fun e=>e▸h) id⟩
  ·rw[List.mem_cons,List.mem_cons,Ac4 l s]
theorem AdJ:∀l:List Bs,(ddF l).Nodup
 |[]=>List.nodup_nil
 |a::l=>by
  rw[ddF]
  split
  ·exact AdJ l
  ·rename_i h
   exact List.nodup_cons.2 ⟨fun h2=>h ((Ac4 l a).1 h2),AdJ l⟩
theorem Afg:∀l:List Bs,(ddF l).length≤l.length
 |[]=>Nat.le_refl _
 |a::l=>by
  rw[ddF]
  have:=Afg l
  split
  ·rw[List.length_cons];omega
  ·rw[List.length_cons,List.length_cons];omega
def AdR(x y:List Bs)(s:Bs):Int:=(if((y.count s:Nat):Int)<((x.count s:Nat):Int)then((y.count s:Nat):Int)else((x.count s:Nat):Int))*((s.length:Nat):Int)
def Ad3(x y:List Bs):List Bs→Int
 |[]=>0
 |s::l=>AdR x y s+Ad3 x y l
theorem Aej(x y:List Bs):∀{l:List Bs} {s:Bs},s∈l→Ad3 x y l=AdR x y s+Ad3 x y (l.erase s)
 |a::l,s,h=>by
  by_cases e:a=s
  ·subst e;rw[List.erase_cons_head];rfl
  ·rw[List.erase_cons_tail (by simpa using e)]
   rcases List.mem_cons.1 h with h|h
   ·exact absurd h.symm e
   ·rw[Ad3,Ad3,Aej x y h];omega
theorem AdS{x y:List Bs}{s:Bs}(hx:x.length≤4096)(hs:s.length≤1048576):0≤AdR x y s∧AdR x y s≤4294967296:=by
 unfold AdR
 have h1:x.count s≤x.length:=List.count_le_length
 have h2:(if((y.count s:Nat):Int)<((x.count s:Nat):Int)then((y.count s:Nat):Int)else((x.count s:Nat):Int))≤4096:=by split<;>omega
 have h3:0≤(if((y.count s:Nat):Int)<((x.count s:Nat):Int)then((y.count s:Nat):Int)else((x.count s:Nat):Int)):=by split<;>omega
 refine⟨Int.mul_nonneg h3 (Int.natCast_nonneg _),?_⟩
 exact Int.le_trans (Int.mul_le_mul h2 (show((s.length:Nat):Int)≤1048576 by omega) (Int.natCast_nonneg _) (by decide)) (by decide)
theorem AcW{x y:List Bs}(hx:x.length≤4096):∀{l:List Bs},(∀s∈l,s.length≤1048576)→0≤Ad3 x y l∧Ad3 x y l≤4294967296*(l.length:Int)
 |[],_=>⟨Int.le_refl _,Int.le_refl _⟩
 |s::l,h=>by
  have h1:=AdS (y:=y) hx (h s (List.mem_cons_self ..))
  have h2:=AcW (y:=y) hx (l:=l) fun t ht=>h t (List.mem_cons_of_mem _ ht)
  rw[Ad3,List.length_cons]
  omega
def AdD(x y:List Bs):Int:=Ad3 x y (ddF x)
theorem Ad7{x y:List Bs}(hx:x.length≤4096)(h:∀s∈x,s.length≤1048576):0≤AdD x y∧AdD x y≤17592186044416:=by
 have h1:=AcW (y:=y) hx (l:=ddF x) fun s hs=>h s ((Ac4 x s).1 hs)
 have h2:=Afg x
 unfold AdD
 omega
def Age(a b:Bs):Int:=if((b.length:Nat):Int)>((a.length:Nat):Int)then((b.length:Nat):Int)else((a.length:Nat):Int)
def Ad2(a b:Bs):Int:=Int.tdiv (100*AdD (lnF a) (lnF b)) (Age a b)
def Abn(a b:Bs):Int×Int:=
 if Df a≠0 then(0,1)else if Df b≠0 then(0,1)else if a=b then(100,0)else(if 99<Ad2 a b then 99 else Ad2 a b,0)
theorem Qe:∀(s acc t:Bs),t∈lnN acc s→t.length≤acc.length+s.length
 |[],acc,t,h=>by rw[lnN]at h;cases h
 |b::r,acc,t,h=>by
  rw[lnN]at h
  split at h
  ·rcases List.mem_cons.1 h with rfl|h
   ·simp only[List.length_append,List.length_cons,List.length_nil];omega
   ·have:=Qe r [] t h
    simp only[List.length_cons,List.length_nil]at this⊢;omega
  ·have:=Qe r (acc++[b]) t h
   simp only[List.length_append,List.length_cons,List.length_nil]at this⊢;omega
theorem Ym{s t:Bs}(h:t∈lnF s):t.length≤s.length:=by
 have:=Qe s [] t h
 simp only[List.length_nil]at this
 omega
def Acd(P:Pg):Prop:=∀x:Bs×Bs,x.1.length≤140737488351232→x.2.length≤140737488351232→Fn P zS4 Abg x fun(d:Int×Int) _=>d=Abn x.1 x.2
end Go.VS

/- Scores: the statements. -/
set_option linter.unusedVariables false
set_option linter.unusedSimpArgs false
namespace Go.VS
variable{P:Pg}
theorem IC:∀(s acc:Bs),(lnN acc s).length≤s.length
 |[],acc=>by rw[lnN];exact Nat.le_refl _
 |b::r,acc=>by
  rw[lnN]
  split
  ·have:=IC r [];simp only[List.length_cons];omega
  ·have:=IC r (acc++[b]);simp only[List.length_cons];omega
def PH(P:Pg):Prop:=∀x:List Int×(Int×(Int×Int)),(0≤x.2.1∧x.2.1≤1000000)→(0≤x.2.2.1∧x.2.2.1≤100)→(1≤x.2.2.2∧x.2.2.2≤100000)→Fn P zS0 Dh x fun(d:Bs) _=>d.length≤400
theorem YG(h:Has P G0)(hA:OD P)(hM:Lb P)(hL:Mo P):PH P:=by
 rintro⟨raw,fr,mx,kinds⟩ ⟨f0,f1⟩ ⟨m0,m1⟩ ⟨k0,k1⟩
 dsimp only at f0 f1 m0 m1 k0 k1
 refine Q7 h ?_
 unfold MK
 dsimp only
 rw[w64 (n:=mx+1) (by omega) (by omega),w64 (n:=fr+1) (by omega) (by omega),w64 (n:=fr+90) (by omega) (by omega)]
 refine hA.at f0 (hM.at (by omega) (by omega) ?_)
 have hr:=Nv (a:=atF raw fr) (n:=mx+1) (by omega) (by omega)
 generalize Qg (atF raw fr) (mx+1)=m at hr⊢
 refine Av.mid (fun d=>d.length≤400) ?_ fun d hd=>?_
 ·refine DD.of (fun q=>(0≤q.2∧q.2≤m)∧(q.1.length:Int)≤4*q.2) (fun q=>(m -q.2).toNat) ⟨⟨Int.le_refl _,hr.1⟩,by decide⟩ ?_
  rintro⟨s,i⟩ ⟨⟨i0,i1⟩,hs⟩
  dsimp only at i0 i1 hs⊢
  refine⟨fun hi=>?_,fun hi=>by omega⟩
  have hi:=of_decide_eq_true hi
  refine Av.mid (fun d=>(d.length:Int)≤4*(i+1)) ?_ fun d hd=>?_
  ·rw[w64 (by omega) (by omega)]
   refine hA.at (by omega) (hM.at k0 (by omega) ((hL _).to ?_))
   rintro(ln:Bs) _ hln
   have hln:ln.length≤3:=hln
   refine⟨by omega,by rw[List.length_append];simp only[List.length_cons,List.length_nil];omega,?_⟩
   try dsimp only
   rw[List.length_append,List.length_append]
   simp only[List.length_cons,List.length_nil]
   omega
  ·rw[w64 (by omega) (by omega)]
   exact⟨⟨⟨by omega,by omega⟩,hd⟩,by omega⟩
 ·refine hA.at (by omega) ⟨by decide,fun hc=>?_,?_⟩
  ·rw[Bool.cond_eq_ite]at hc
   split at hc
   ·have h1:=of_decide_eq_true hc
    rw[w64 (by omega) (by omega)]
    omega
   ·cases hc
  ·refine Av.mid (fun e=>e.length≤400) ⟨fun hc=>?_,fun _=>hd⟩ fun _ h=>h
   have h1:1<d.length:=by
    rw[Bool.cond_eq_ite]at hc
    split at hc
    ·rename_i h2
     rw[Bool.cond_eq_ite]at h2
     split at h2
     ·have:=of_decide_eq_true h2;omega
     ·cases h2
    ·cases hc
   rw[w64 (by omega) (by omega)]
   exact⟨⟨by omega,by omega⟩,(by first|(rw[List.length_take];omega)|(dsimp only;rw[List.length_take];omega))⟩
theorem Acd.at(h:Acd P){a b:Bs}(ha:a.length≤140737488351232)(hb:b.length≤140737488351232){K:Int×Int→Unit→Prop}(hk:K (Abn a b) ()):Fn P zS4 Abg (a,b) K:=
 (h (a,b) ha hb).to fun(d:Int×Int) _ hd=>by
  have hd:d=Abn a b:=hd
  subst hd
  exact hk
def Ace(P:Pg):Prop:=Fn P XL AbE () fun(d:Bool) _=>d=true
theorem Afr(h:Has P Ab3)(hS:Acd P):Ace P:=by
 refine AdE h ?_
 unfold AcY
 refine hS.at (by decide) (by decide) (hS.at (by decide) (by decide) ?_)
 decide
theorem Ace.at(h:Ace P){K:Bool→Unit→Prop}(hk:K true ()):Fn P XL AbE () K:=
 Fn.to h fun(d:Bool) _ hd=>by
  have hd:d=true:=hd
  subst hd
  exact hk
end Go.VS

/- Scores are symmetric. -/
set_option linter.unusedVariables false
set_option linter.unusedSimpArgs false
namespace Go.VS
variable{P:Pg}
theorem Agm{a b:Bs}(ha:Df a=0)(hb:Df b=0):Abn a b=if a=b then(100,0)else(if 99<Ad2 a b then 99 else Ad2 a b,0):=by
 unfold Abn
 rw[ha,hb]
 rfl
theorem OM{a:Bs}(h:a.length≤4096):Df a=0:=by
 unfold Df
 have:=IC a []
 rw[if_neg]
 unfold lnF
 omega
theorem Aef{a b:Bs}(ha:a.length≤4096)(hb:b.length≤4096):(Abn a b).2=0∧0≤(Abn a b).1∧(Abn a b).1≤100∧((Abn a b).1=100↔a=b):=by
 have h1:=OM ha
 have h2:=OM hb
 have hcm:=Ad7 (x:=lnF a) (y:=lnF b) (Nat.le_trans (IC a []) ha) fun s hs=>by have:=Ym hs;omega
 have hm:0≤Age a b:=by unfold Age;split<;>omega
 have hr:0≤Ad2 a b:=by
  unfold Ad2
  rw[Int.tdiv_eq_ediv_of_nonneg (by omega)]
  exact Int.ediv_nonneg (by omega) hm
 rw[Agm h1 h2]
 by_cases h:a=b
 ·rw[if_pos h]
  exact⟨rfl,by decide,by decide,fun _=>h,fun _=>rfl⟩
 ·rw[if_neg h]
  refine⟨rfl,?_,?_,fun e=>?_,fun e=>absurd e h⟩
  ·dsimp only;split<;>omega
  ·dsimp only;split<;>omega
  ·dsimp only at e;split at e<;>omega
theorem Np:∀(s acc:Bs),(lnN acc s).flatten.length≤acc.length+s.length
 |[],acc=>by rw[lnN];exact Nat.zero_le _
 |b::r,acc=>by
  rw[lnN]
  split
  ·have:=Np r []
   simp only[List.flatten_cons,List.length_append,List.length_cons,List.length_nil]at this⊢
   omega
  ·have:=Np r (acc++[b])
   simp only[List.length_append,List.length_cons,List.length_nil]at this⊢
   omega
def MF(P:Pg):Prop:=∀x:Bs×(List Int×Int),x.1.length≤1000→(0≤x.2.2∧x.2.2≤1000000)→Fn P XN Di x fun(d:Bs) _=>d.length≤5*x.1.length
theorem XC(h:Has P G2)(hA:OD P)(hL:Mo P)(hN:G7 P):MF P:=by
 rintro⟨s,raw,fr⟩ hs ⟨f0,f1⟩
 dsimp only at hs f0 f1
 refine Q9 h ?_
 unfold MM
 dsimp only
 refine(hN s (by omega)).to ?_
 rintro(l:List Bs) _ hl
 have hl:l=lnF s:=hl
 have hlen:l.length≤s.length:=by rw[hl];exact IC s []
 have hfl:l.flatten.length≤s.length:=by rw[hl];have:=Np s [];simp only[List.length_nil]at this;unfold lnF;omega
 clear hl
 have hpre:∀k,k<l.length→(l.take (k+1)).flatten.length=(l.take k).flatten.length+(l.getD k []).length:=fun k hk=>by
  rw[List.take_add_one,List.getElem?_eq_getElem hk,List.flatten_append,List.length_append,List.getD_eq_getElem?_getD,List.getElem?_eq_getElem hk]
  simp
 have hle:∀k,(l.take k).flatten.length≤l.flatten.length:=fun k=>by
  have:l.flatten.length=(l.take k).flatten.length+(l.drop k).flatten.length:=by rw[←List.length_append,←List.flatten_append,List.take_append_drop]
  omega
 rw[w64 (n:=fr+40) (by omega) (by omega)]
 refine Av.mid (fun d=>d.length≤5*s.length) ?_ fun _ h=>h
 refine DD.of (fun q=>(0≤q.2∧q.2≤l.length)∧(q.1.length:Int)≤4*q.2+((l.take q.2.toNat).flatten.length:Nat)) (fun q=>(l.length -q.2).toNat) ⟨⟨Int.le_refl _,Int.natCast_nonneg _⟩,by simp⟩ ?_
 rintro⟨d,i⟩ ⟨⟨i0,i1⟩,hd⟩
 dsimp only at i0 i1 hd⊢
 have hti:=hle i.toNat
 refine⟨fun hi=>?_,fun hi=>by omega⟩
 have hi:=of_decide_eq_true hi
 have hi2:i.toNat<l.length:=by omega
 have hp:=hpre i.toNat hi2
 have htj:=hle (i.toNat+1)
 refine Av.mid (fun d=>(d.length:Int)≤4*(i+1)+((l.take (i.toNat+1)).flatten.length:Nat)) ?_ fun d hd=>?_
 ·rw[w64 (n:=fr+i) (by omega) (by omega),w64 (n:=fr+40+i) (by omega) (by omega)]
  refine hA.at (by omega) ⟨by decide,?_⟩
  refine Av.mid (fun e=>(e.length:Int)≤4*i+((l.take i.toNat).flatten.length:Nat)+4) ⟨fun _=>by omega,fun _=>?_⟩ fun e he=>?_
  ·refine Av.mid (fun e=>(e.length:Int)≤4*i+((l.take i.toNat).flatten.length:Nat)+4) ⟨fun _=>?_,fun _=>by omega⟩ fun _ h=>h
   refine hA.at (by omega) ((hL _).to ?_)
   rintro(ln:Bs) _ hln
   have hln:ln.length≤3:=hln
   refine⟨by omega,by rw[List.length_append];simp only[List.length_cons,List.length_nil];omega,?_⟩
   try dsimp only
   rw[List.length_append,List.length_append]
   simp only[List.length_cons,List.length_nil]
   omega
  ·refine⟨⟨i0,hi⟩,hi2,by omega,?_⟩
   try dsimp only
   rw[List.length_append]
   omega
 ·rw[w64 (by omega) (by omega),show(i+1).toNat=i.toNat+1 by omega]
  exact⟨⟨⟨by omega,by omega⟩,hd⟩,by omega⟩
end Go.VS

/- Pairs that are chosen one after the other, the best one first. -/
set_option linter.unusedVariables false
set_option linter.unusedSimpArgs false
namespace Go.VS
abbrev Aba:=Bs×(Bs×Int)
def Ac3(x y:Aba):Bool:=Op.bytesLess x.1 y.1||(decide (x.1=y.1)&&Op.bytesLess x.2.1 y.2.1)
def Acj(x y:Aba):Bool:=decide (y.2.2<x.2.2)||(decide (x.2.2=y.2.2)&&Ac3 x y)
def AbB(out:List Aba)(r:Aba):Bool:=out.any fun o=>decide (o.1=r.1)||decide (o.2.1=r.2.1)
def Abx(out:List Aba)(r:Aba):List Aba:=if AbB out r=true then out else out++[r]
def Ab2(out S:List Aba):List Aba:=S.foldl Abx out
theorem Afk{x y:Aba}(h:Ac3 x y=true)(k:Ac3 y x=true):False:=by
 unfold Ac3 at h k
 simp only[Bool.or_eq_true,Bool.and_eq_true,decide_eq_true_eq]at h k
 rcases h with h|⟨e,h⟩
 ·rcases k with k|⟨e2,k⟩
  ·have:=AbN h k
   rw[Abo]at this
   cases this
  ·rw[e2,Abo]at h
   cases h
 ·rcases k with k|⟨e2,k⟩
  ·rw[e,Abo]at k
   cases k
  ·have:=AbN h k
   rw[Abo]at this
   cases this
theorem Afa{x y:Aba}(h:Acj x y=true)(k:Acj y x=true):False:=by
 unfold Acj at h k
 simp only[Bool.or_eq_true,Bool.and_eq_true,decide_eq_true_eq]at h k
 rcases h with h|⟨e,h⟩
 ·rcases k with k|⟨e2,k⟩<;>omega
 ·rcases k with k|⟨e2,k⟩
  ·omega
  ·exact Afk h k
theorem Afb{x y:Aba}(h:Acj x y=true):y.2.2≤x.2.2:=by
 unfold Acj at h
 simp only[Bool.or_eq_true,Bool.and_eq_true,decide_eq_true_eq]at h
 rcases h with h|h<;>omega
theorem Afl{x y:Aba}(h:¬(x.1=y.1∧x.2.1=y.2.1)):Ac3 x y=true∨Ac3 y x=true:=by
 unfold Ac3
 simp only[Bool.or_eq_true,Bool.and_eq_true,decide_eq_true_eq]
 by_cases e:x.1=y.1
 ·rcases Acr (fun e2=>h ⟨e,e2⟩)with k|k
  ·exact .inl (.inr ⟨e,k⟩)
  ·exact .inr (.inr ⟨e.symm,k⟩)
 ·rcases Acr e with k|k
  ·exact .inl (.inl k)
  ·exact .inr (.inl k)
theorem Af0(out:List Aba)(r:Aba):AbB (out++[r]) r=true:=by
 unfold AbB
 rw[List.any_append]
 simp
theorem Acx{out:List Aba}{r:Aba}:AbB out r=true↔∃o∈out,o.1=r.1∨o.2.1=r.2.1:=by
 unfold AbB
 simp
theorem Aft{out out':List Aba}(h:∀t,t∈out↔t∈out')(r:Aba):AbB out r=AbB out' r:=by
 have:AbB out r=true↔AbB out' r=true:=by
  rw[Acx,Acx]
  exact⟨fun⟨o,ho,k⟩=>⟨o,(h o).1 ho,k⟩,fun⟨o,ho,k⟩=>⟨o,(h o).2 ho,k⟩⟩
 cases h1:AbB out r<;>cases h2:AbB out' r<;>simp_all
theorem AgD(out A B:List Aba):Ab2 out (A++B)=Ab2 (Ab2 out A) B:=by
 unfold Ab2
 rw[List.foldl_append]
def zR:Aba:=([],([],0))
def Adc(d:List Aba):Prop:=d.Pairwise fun x y=>x.1≠y.1∧x.2.1≠y.2.1
theorem Ae9{out:List Aba}{r:Aba}(h:Adc out):Adc (Abx out r):=by
 unfold Abx
 split
 ·exact h
 ·rename_i hr
  refine List.pairwise_append.2 ⟨h,List.pairwise_singleton _ _,fun x hx y hy=>?_⟩
  rw[List.mem_singleton.1 hy]
  exact⟨fun e=>hr (Acx.2 ⟨x,hx,.inl e⟩),fun e=>hr (Acx.2 ⟨x,hx,.inr e⟩)⟩
theorem Ade:∀{S out:List Aba},Adc out→Adc (Ab2 out S)
 |[],_,h=>h
 |r::S,out,h=>Ade (S:=S) (Ae9 h)
theorem Afy:∀{S out:List Aba} {t:Aba},t∈Ab2 out S→t∈out∨t∈S
 |[],_,_,h=>.inl h
 |r::S,out,t,h=>by
  rcases Afy (S:=S) (out:=Abx out r) h with h|h
  ·unfold Abx at h
   split at h
   ·exact .inl h
   ·rcases List.mem_append.1 h with h|h
    ·exact .inl h
    ·exact .inr (by rw[List.mem_singleton.1 h];exact List.mem_cons_self ..)
  ·exact .inr (List.mem_cons_of_mem _ h)
theorem AeE:∀{S out:List Aba} {t:Aba},t∈out→t∈Ab2 out S
 |[],_,_,h=>h
 |r::S,out,t,h=>AeE (S:=S) (by
  unfold Abx
  split
  ·exact h
  ·exact List.mem_append_left _ h)
theorem Afx:∀{S out:List Aba} {t:Aba},t∈S→AbB (Ab2 out S) t=true
 |r::S,out,t,h=>by
  rcases List.mem_cons.1 h with rfl|h
  ·have:AbB (Abx out t) t=true:=by
    unfold Abx
    split
    ·assumption
    ·exact Af0 out t
   obtain⟨o,ho,k⟩:=Acx.1 this
   exact Acx.2 ⟨o,AeE (S:=S) (out:=Abx out t) ho,k⟩
  ·exact Afx (S:=S) (out:=Abx out r) h
def Af1(S d:List Aba):Prop:=(d.Pairwise fun x y=>Op.bytesLess x.2.1 y.2.1=true)∧∀t,t∈d↔t∈Ab2 [] S
theorem Afj{S d:List Aba}(hp:d.Perm (Ab2 [] S))(hs:d.Pairwise fun x y=>Op.bytesLess y.2.1 x.2.1=false):Af1 S d:=by
 refine⟨?_,fun t=>hp.mem_iff⟩
 have ha:Adc d:=hp.symm.pairwise (Ade .nil) fun h=>⟨fun e=>h.1 e.symm,fun e=>h.2 e.symm⟩
 refine(hs.and ha).imp ?_
 rintro x y ⟨h1,_,h2⟩
 rcases Acr h2 with h3|h3
 ·exact h3
 ·rw[h3]at h1;cases h1
end Go.VS

/- The document's Deltas. -/
set_option linter.unusedVariables false
set_option linter.unusedSimpArgs false
namespace Go.VS
variable{P:Pg}
end Go.VS
namespace Go.VS
variable{P:Pg}
theorem AcU{l:List Aa0}(h:AcN l=0):Acn l:=by
 unfold AcN at h
 split at h
 ·cases h
 ·split at h
  ·cases h
  ·split at h
   ·cases h
   ·rename_i h3
    exact(AeO l).1 (by simpa using h3)
end Go.VS

/- Blobs and trees made of raw numbers: which they are. -/
set_option linter.unusedVariables false
set_option linter.unusedSimpArgs false
namespace Go.VS
variable{P:Pg}
theorem Aev:∀(s acc:Bs),(lnN acc s).length≤s.length
 |[],acc=>by rw[lnN];exact Nat.le_refl _
 |b::r,acc=>by
  rw[lnN]
  split
  ·have:=Aev r [];simp only[List.length_cons];omega
  ·have:=Aev r (acc++[b]);simp only[List.length_cons];omega
theorem Afd{s:Bs}(h:s.length≤4000):Df s=0:=by
 have h1:(lnF s).length≤s.length:=Aev s []
 unfold Df
 rw[if_neg (by omega)]
end Go.VS

/- Renamed files: what both sides answer. -/
set_option linter.unusedVariables false
set_option linter.unusedSimpArgs false
namespace Go.VS
variable{P:Pg}
def scR(a b:List Aa0)(x y:Abd):Int:=(Abn (findF a x.1).1 (findF b y.1).1).1
def Ab1(a b:List Aa0)(least:Int)(x:Abd)(l:List Abd):List Aba:=l.filterMap fun y=>if y.2=1∧least≤scR a b x y then some (x.1,(y.1,scR a b x y))else none
def Ab0(a b:List Aa0)(least:Int)(l D:List Abd):List Aba:=l.flatMap fun x=>if x.2=2 then Ab1 a b least x D else[]
theorem Ae1{α:Type}{l:List α}{k:Nat}{d:α}(h:k<l.length):l.take (k+1)=l.take k++[l.getD k d]:=by
 rw[List.take_add_one,List.getElem?_eq_getElem h,getD_eq h]
 rfl
theorem Ads{a b:List Aa0}{least:Int}{x:Abd}{l:List Abd}{k:Nat}(h:k<l.length):Ab1 a b least x (l.take (k+1))=Ab1 a b least x (l.take k)++(if(l.getD k ([],0)).2=1∧least≤scR a b x (l.getD k ([],0))then[(x.1,((l.getD k ([],0)).1,scR a b x (l.getD k ([],0))))]else[]):=by
 unfold Ab1
 rw[Ae1 (d:=(([],0):Abd)) h,List.filterMap_append]
 congr 1
 rw[List.filterMap_cons,List.filterMap_nil]
 split<;>rename_i h2<;>split at h2<;>simp_all
theorem Aee{a b:List Aa0}{least:Int}{l D:List Abd}{k:Nat}(h:k<l.length):Ab0 a b least (l.take (k+1)) D=Ab0 a b least (l.take k) D++(if(l.getD k ([],0)).2=2 then Ab1 a b least (l.getD k ([],0)) D else[]):=by
 unfold Ab0
 rw[Ae1 (d:=(([],0):Abd)) h,List.flatMap_append]
 simp
theorem AdL{a b:List Aa0}{least:Int}{x:Abd}{l:List Abd}:(Ab1 a b least x l).length≤l.length:=List.length_filterMap_le ..
theorem Ada{a b:List Aa0}{least:Int}:∀{l D:List Abd},(Ab0 a b least l D).length≤l.length*D.length
 |[],D=>by simp[Ab0]
 |x::l,D=>by
  have h1:=Ada (a:=a) (b:=b) (least:=least) (l:=l) (D:=D)
  have h2:(if x.2=2 then Ab1 a b least x D else[]).length≤D.length:=by
   split
   ·exact AdL
   ·exact Nat.zero_le _
  unfold Ab0 at h1⊢
  rw[List.flatMap_cons,List.length_append,List.length_cons,Nat.add_mul]
  omega
theorem Aew{a b:List Aa0}{least:Int}{l D:List Abd}{r:Aba}:r∈Ab0 a b least l D↔∃x∈l,∃y∈D,x.2=2∧y.2=1∧least≤scR a b x y∧r=(x.1,(y.1,scR a b x y)):=by
 unfold Ab0 Ab1
 rw[List.mem_flatMap]
 constructor
 ·rintro⟨x,hx,h⟩
  split at h
  ·rename_i h2
   obtain⟨y,hy,h3⟩:=List.mem_filterMap.1 h
   split at h3
   ·rename_i h4
    exact⟨x,hx,y,hy,h2,h4.1,h4.2,(Option.some.inj h3).symm⟩
   ·cases h3
  ·cases h
 ·rintro⟨x,hx,y,hy,h1,h2,h3,rfl⟩
  refine⟨x,hx,?_⟩
  rw[if_pos h1]
  exact List.mem_filterMap.2 ⟨y,hy,by rw[if_pos ⟨h2,h3⟩]⟩
theorem AgN{a b:List Aa0}{least:Int}{D:List Abd}(h:D.Pairwise fun x y=>Op.bytesLess x.1 y.1=true):(Ab0 a b least D D).Pairwise fun x y=>Ac3 x y=true:=by
 unfold Ab0
 rw[List.pairwise_flatMap]
 refine⟨fun x hx=>?_,h.imp fun{x y} hxy u hu v hv=>?_⟩
 ·split
  ·unfold Ab1
   rw[List.pairwise_filterMap]
   refine h.imp fun{y z} hyz u hu v hv=>?_
   split at hu
   ·split at hv
    ·rw[←Option.some.inj hu,←Option.some.inj hv]
     unfold Ac3
     simp[hyz]
    ·cases hv
   ·cases hu
  ·exact .nil
 ·have e1:u.1=x.1:=by
   split at hu
   ·obtain⟨y',_,h3⟩:=List.mem_filterMap.1 hu
    split at h3
    ·rw[←Option.some.inj h3]
    ·cases h3
   ·cases hu
  have e2:v.1=y.1:=by
   split at hv
   ·obtain⟨y',_,h3⟩:=List.mem_filterMap.1 hv
    split at h3
    ·rw[←Option.some.inj h3]
    ·cases h3
   ·cases hv
  unfold Ac3
  rw[e1,e2,hxy]
  rfl
theorem AdB{x y:Aba}(h:¬(x.1=y.1∧x.2.1=y.2.1)):Acj x y=true∨Acj y x=true:=by
 unfold Acj
 simp only[Bool.or_eq_true,Bool.and_eq_true,decide_eq_true_eq]
 rcases Afl h with k|k
 ·by_cases e:x.2.2=y.2.2
  ·exact .inl (.inr ⟨e,k⟩)
  ·by_cases e2:y.2.2<x.2.2
   ·exact .inl (.inl e2)
   ·exact .inr (.inl (by omega))
 ·by_cases e:x.2.2=y.2.2
  ·exact .inr (.inr ⟨e.symm,k⟩)
  ·by_cases e2:y.2.2<x.2.2
   ·exact .inl (.inl e2)
   ·exact .inr (.inl (by omega))
theorem AgJ{x y:Aba}(h:Ac3 x y=true):¬(x.1=y.1∧x.2.1=y.2.1):=by
 rintro⟨h1,h2⟩
 unfold Ac3 at h
 rw[h1,h2,Abo,Abo]at h
 simp at h
theorem AfX{S L:List Aba}(hp:S.Perm L)(hL:L.Pairwise fun x y=>Ac3 x y=true)(hs:S.Pairwise fun x y=>Acj y x=false):S.Pairwise fun x y=>Acj x y=true:=by
 have hne:S.Pairwise fun x y=>¬(x.1=y.1∧x.2.1=y.2.1):=hp.symm.pairwise (hL.imp fun h=>AgJ h) fun h=>fun k=>h ⟨k.1.symm,k.2.symm⟩
 refine(hs.and hne).imp fun{x y} h=>?_
 rcases AdB h.2 with k|k
 ·exact k
 ·rw[h.1]at k;cases k
def Afu(a b:List Aa0)(least:Int)(d:List Aba×Int):Prop:=(¬(1≤least∧least≤100)→d=([],3))∧(1≤least∧least≤100→d.2=0∧∃D S,Acy a b D∧S.Perm (Ab0 a b least D D)∧(S.Pairwise fun x y=>Acj x y=true)∧Af1 S d.1)
def Adb(P:Pg):Prop:=∀x:List Aa0×(List Aa0×(List Abd×Int)),AbD x.1→AbD x.2.1→x.2.2.1.length≤2000→Fn P ZS AbR x fun(d:List Aba) _=>d=Ab0 x.1 x.2.1 x.2.2.2 x.2.2.1 x.2.2.1
theorem Adg:∀{l:List Aa0},AbD l→∀p,(findF l p).1.length≤140737488351232
 |[],_,p=>by unfold findF;exact Nat.zero_le _
 |f::l,h,p=>by
  unfold findF
  split
  ·exact(h.2 f (List.mem_cons_self ..)).2
  ·exact Adg (l:=l) ⟨by have:=h.1;simp only[List.length_cons]at this;omega,fun x hx=>h.2 x (List.mem_cons_of_mem _ hx)⟩ p
theorem AfY(h:Has P AbQ)(hF:AcH P)(hS:Acd P):Adb P:=by
 rintro⟨a,b,d,least⟩ ha hb hd
 dsimp only at ha hb hd
 have ha1:=ha.1
 have hb1:=hb.1
 refine Adh h ?_
 unfold AcE
 dsimp only
 refine Av.mid (fun o=>o=Ab0 a b least d d) ?_ fun _ h=>h
 refine DD.of (fun q=>(0≤q.2∧q.2≤d.length)∧q.1=Ab0 a b least (d.take q.2.toNat) d) (fun q=>(d.length -q.2).toNat) ⟨⟨Int.le_refl _,Int.natCast_nonneg _⟩,rfl⟩ ?_
 rintro⟨o,i⟩ ⟨⟨i0,i1⟩,ho⟩
 dsimp only at i0 i1 ho⊢
 refine⟨fun hi=>?_,fun hi=>?_⟩
 ·have hi:=of_decide_eq_true hi
  have hi2:i.toNat<d.length:=by omega
  have hol:o.length≤2000*2000:=by
   have:=Ada (a:=a) (b:=b) (least:=least) (l:=d.take i.toNat) (D:=d)
   rw[←ho]at this
   exact Nat.le_trans this (Nat.mul_le_mul (by rw[List.length_take];omega) hd)
  refine Av.mid (fun o2=>o2=Ab0 a b least (d.take (i.toNat+1)) d) ⟨⟨i0,hi⟩,hi2,fun hk=>?_,fun hk=>?_⟩ fun o2 ho2=>by
   rw[w64 (by omega) (by omega)]
   exact⟨⟨⟨by omega,by omega⟩,by rw[show(i+1).toNat=i.toNat+1 by omega];exact ho2⟩,by omega⟩
  ·rw[Aee hi2,if_neg (by simpa using hk),List.append_nil]
   exact ho
  ·have hk:(d.getD i.toNat ([],0)).2=2:=by simpa using hk
   rw[Aee hi2,if_pos hk]
   refine hF.at ha1 ?_
   refine Av.mid (fun o2=>o2=Ab0 a b least (d.take i.toNat) d++Ab1 a b least (d.getD i.toNat ([],0)) d) ?_ fun _ h=>h
   refine DD.of (fun q=>(0≤q.2∧q.2≤d.length)∧q.1=Ab0 a b least (d.take i.toNat) d++Ab1 a b least (d.getD i.toNat ([],0)) (d.take q.2.toNat)) (fun q=>(d.length -q.2).toNat) ⟨⟨Int.le_refl _,Int.natCast_nonneg _⟩,by dsimp only;rw[ho];simp[Ab1]⟩ ?_
   rintro⟨r,j⟩ ⟨⟨j0,j1⟩,hr⟩
   dsimp only at j0 j1 hr⊢
   refine⟨fun hj=>?_,fun hj=>?_⟩
   ·have hj:=of_decide_eq_true hj
    have hj2:j.toNat<d.length:=by omega
    have hrl:r.length≤2000*2000+2000:=by
     have h3:=AdL (a:=a) (b:=b) (least:=least) (x:=d.getD i.toNat ([],0)) (l:=d.take j.toNat)
     rw[List.length_take]at h3
     rw[hr,List.length_append,←ho]
     omega
    refine Av.mid (fun r2=>r2=Ab0 a b least (d.take i.toNat) d++Ab1 a b least (d.getD i.toNat ([],0)) (d.take (j.toNat+1))) ⟨⟨j0,hj⟩,hj2,fun hk2=>?_,fun hk2=>?_⟩ fun r2 hr2=>by
     rw[w64 (by omega) (by omega)]
     exact⟨⟨⟨by omega,by omega⟩,by rw[show(j+1).toNat=j.toNat+1 by omega];exact hr2⟩,by omega⟩
    ·rw[Ads hj2,if_neg (fun h=>by rw[h.1]at hk2;cases hk2),List.append_nil]
     exact hr
    ·have hk2:(d.getD j.toNat ([],0)).2=1:=by simpa using hk2
     refine hF.at hb1 (hS.at (Adg ha _) (Adg hb _) ?_)
     rw[Ads hj2]
     refine Av.mid (fun r2=>r2=Ab0 a b least (d.take i.toNat) d++(Ab1 a b least (d.getD i.toNat ([],0)) (d.take j.toNat)++(if(d.getD j.toNat ([],0)).2=1∧least≤scR a b (d.getD i.toNat ([],0)) (d.getD j.toNat ([],0))then[((d.getD i.toNat ([],0)).1,((d.getD j.toNat ([],0)).1,scR a b (d.getD i.toNat ([],0)) (d.getD j.toNat ([],0))))]else[]))) ⟨fun hb=>⟨by simp only[List.length_cons,List.length_nil];omega,?_⟩,fun hb=>?_⟩ fun _ h=>h
     ·rw[if_pos ⟨hk2,of_decide_eq_true hb⟩,hr,List.append_assoc]
      rfl
     ·rw[if_neg (fun h=>of_decide_eq_false hb h.2),List.append_nil]
      exact hr
   ·have hj:=of_decide_eq_false hj
    rw[List.take_of_length_le (l:=d) (i:=j.toNat) (by omega)]at hr
    exact hr
 ·have hi:=of_decide_eq_false hi
  rw[List.take_of_length_le (l:=d) (i:=i.toNat) (by omega)]at ho
  exact ho
def Ae2(P:Pg):Prop:=∀x:List Aa0×(List Aa0×Int),AbD x.1→AbD x.2.1→x.1.length≤1000→x.2.1.length≤1000→Acs x.1 x.2.1=0→Fn P XT AbW x fun(d:List Aba×Int) _=>Afu x.1 x.2.1 x.2.2 d
theorem Ado{a b:List Aa0}{D:List Abd}(h:Acy a b D){t:Abd}(ht:t∈D):(∃f∈a,f.1=t.1)∨∃f∈b,f.1=t.1:=by
 have:=(h.2 t.1 t.2).1 ht
 unfold Adq at this
 cases h1:Aa9 a t.1 with
 |some v=>exact .inl ((AbS a t.1).1 (by rw[h1];rfl))
 |none=>
  cases h2:Aa9 b t.1 with
  |some v=>exact .inr ((AbS b t.1).1 (by rw[h2];rfl))
  |none=>rw[h1,h2]at this;cases this
theorem AgM{a b:List Aa0}{least:Int}{D:List Abd}(ha:AbD a)(hb:AbD b)(h:Acy a b D):∀r∈Ab0 a b least D D,r.1.length≤140737488351232∧r.2.1.length≤140737488351232:=fun r hr=>by
 have hp:∀t∈D,t.1.length≤140737488351232:=fun t ht=>by
  rcases Ado h ht with⟨f,hf,e⟩|⟨f,hf,e⟩
  ·rw[←e];exact(ha.2 f hf).1
  ·rw[←e];exact(hb.2 f hf).1
 obtain⟨x,hx,y,hy,_,_,_,rfl⟩:=Aew.1 hr
 exact⟨hp x hx,hp y hy⟩
theorem Ady(out:List Aba):∀S:List Aba,(Ab2 out S).length≤out.length+S.length
 |[]=>by simp[Ab2]
 |r::S=>by
  have h:=Ady (Abx out r) S
  have h2:(Abx out r).length≤out.length+1:=by unfold Abx;split<;>simp
  show(Ab2 (Abx out r) S).length≤_
  rw[List.length_cons]
  omega
theorem Aga{S:List Aba}{k:Nat}{x:Aba}(h:S[k]?=some x):Ab2 [] (S.take (k+1))=Abx (Ab2 [] (S.take k)) x:=by
 rw[List.take_add_one,h,AgD]
 rfl
end Go.VS

/- The trees that the statements on renames are about. -/
set_option linter.unusedVariables false
set_option linter.unusedSimpArgs false
namespace Go.VS
variable{P:Pg}
abbrev AbL:List Bs:=[([97]:List UInt8),([98]:List UInt8),([99]:List UInt8),([100]:List UInt8),([101]:List UInt8),([102]:List UInt8)]
def T22(i:Nat)(d:List Aa0×List Aa0):Prop:=(d.1.map (·.1)).Sublist (AbL.take i)∧(d.2.map (·.1)).Sublist (AbL.take i)∧(∀f∈d.1,f.2.length≤2000)∧(∀f∈d.2,f.2.length≤2000)∧∀f∈d.1,∀g∈d.2,f.1≠g.1
theorem AdI{i:Nat}(h:i<6):∀p∈AbL.take i,p≠AbL.getD i []:=by
 have:i=0∨i=1∨i=2∨i=3∨i=4∨i=5:=by omega
 rcases this with rfl|rfl|rfl|rfl|rfl|rfl<;>decide
theorem Adr{i:Nat}(h:i<6):AbL.take (i+1)=AbL.take i++[AbL.getD i []]:=by
 have:i=0∨i=1∨i=2∨i=3∨i=4∨i=5:=by omega
 rcases this with rfl|rfl|rfl|rfl|rfl|rfl<;>rfl
theorem AfN{i:Int}(h0:0≤i)(h:i<6):strOf [IntKind.u8.wrap (97+IntKind.u8.wrap i)]=AbL.getD i.toNat []:=by
 have:i=0∨i=1∨i=2∨i=3∨i=4∨i=5:=by omega
 rcases this with rfl|rfl|rfl|rfl|rfl|rfl<;>decide
theorem Agx{i:Nat}(hi:i<6){a b:List Aa0}(h:T22 i (a,b)){s:Bs}(hs:s.length≤2000):T22 (i+1) (a++[(AbL.getD i [],s)],b):=by
 obtain⟨h1,h2,h3,h4,h5⟩:=h
 dsimp only at h1 h2 h3 h4 h5
 unfold T22
 dsimp only
 rw[Adr hi,List.map_append]
 refine⟨h1.append (List.Sublist.refl _),h2.trans (List.sublist_append_left ..),fun f hf=>?_,h4,fun f hf g hg=>?_⟩
 ·rcases List.mem_append.1 hf with k|k
  ·exact h3 f k
  ·rw[List.mem_singleton.1 k];exact hs
 ·rcases List.mem_append.1 hf with k|k
  ·exact h5 f k g hg
  ·rw[List.mem_singleton.1 k]
   exact fun e=>AdI hi g.1 (h2.subset (List.mem_map.2 ⟨g,hg,rfl⟩)) e.symm
theorem Aek{i:Nat}(hi:i<6){a b:List Aa0}(h:T22 i (a,b)){s:Bs}(hs:s.length≤2000):T22 (i+1) (a,b++[(AbL.getD i [],s)]):=by
 obtain⟨h1,h2,h3,h4,h5⟩:=h
 dsimp only at h1 h2 h3 h4 h5
 unfold T22
 dsimp only
 rw[Adr hi,List.map_append]
 refine⟨h1.trans (List.sublist_append_left ..),h2.append (List.Sublist.refl _),h3,fun f hf=>?_,fun f hf g hg=>?_⟩
 ·rcases List.mem_append.1 hf with k|k
  ·exact h4 f k
  ·rw[List.mem_singleton.1 k];exact hs
 ·rcases List.mem_append.1 hg with k|k
  ·exact h5 f hf g k
  ·rw[List.mem_singleton.1 k]
   exact AdI hi f.1 (h1.subset (List.mem_map.2 ⟨f,hf,rfl⟩))
theorem AeN:∀p∈AbL,AbK p=0:=by decide
theorem Afm:AbL.Pairwise fun p q=>Op.bytesLess p q=true∧Ael p q=false:=by decide
theorem AfD{l:List Aa0}(hl:(l.map (·.1)).Sublist AbL)(hs:∀f∈l,f.2.length≤2000):AcN l=0∧AbD l∧l.length≤6:=by
 have hn:l.length≤6:=by
  have:=hl.length_le
  rw[List.length_map]at this
  exact this
 have hp:l.all (fun f=>AbK f.1==0)=true:=by
  rw[List.all_eq_true]
  intro f hf
  rw[AeN f.1 (hl.subset (List.mem_map.2 ⟨f,hf,rfl⟩))]
  rfl
 have ho:AdK l=true:=by
  rw[AeO]
  have hpw:=Afm.sublist hl
  rw[List.pairwise_map,List.pairwise_iff_getElem]at hpw
  intro i hi k hk
  have:=hpw k i (by omega) hi hk
  unfold pth
  rw[List.getD_eq_getElem?_getD,List.getD_eq_getElem?_getD,List.getElem?_eq_getElem hi,List.getElem?_eq_getElem (Nat.lt_trans hk hi)]
  exact this
 have hc:l.all (fun f=>Df f.2==0)=true:=by
  rw[List.all_eq_true]
  intro f hf
  have:=hs f hf
  rw[Afd (by omega)]
  rfl
 refine⟨?_,⟨by omega,fun f hf=>?_⟩,hn⟩
 ·unfold AcN
  rw[if_neg (by omega),if_neg (by rw[hp];simp),if_neg (by rw[ho];simp),if_neg (by rw[hc];simp)]
 ·have h1:∀p∈AbL,p.length≤1:=by decide
  have h2:=h1 f.1 (hl.subset (List.mem_map.2 ⟨f,hf,rfl⟩))
  have h3:=hs f hf
  omega
theorem AfC{i:Nat}{a b:List Aa0}(h:T22 i (a,b)):a.length≤6∧b.length≤6:=by
 have h1:=h.1.length_le
 have h2:=h.2.1.length_le
 rw[List.length_map,List.length_take]at h1 h2
 have:AbL.length=6:=rfl
 dsimp only at h1 h2
 omega
theorem AgV:T22 0 ([],[]):=⟨List.nil_sublist _,List.nil_sublist _,(fun _ h=>nomatch h),(fun _ h=>nomatch h),(fun _ h=>nomatch h)⟩
def Ac0(P:Pg):Prop:=∀x:List Int,Fn P XO AbM x fun(d:List Aa0×List Aa0) _=>T22 6 d
theorem Afq(h:Has P Ab4)(hA:OD P)(hM:Lb P)(hB:PH P)(hN:MF P):Ac0 P:=by
 intro x
 refine AdF h ?_
 unfold AcZ
 refine Av.mid (fun d=>T22 6 d) ?_ fun _ hd=>hd
 refine DD.of (fun s=>(0≤s.2.2∧s.2.2≤6)∧T22 s.2.2.toNat (s.1,s.2.1)) (fun s=>(6 -s.2.2).toNat) ⟨⟨Int.le_refl _,by decide⟩,AgV⟩ ?_
 rintro⟨a,b,i⟩ ⟨⟨i0,i1⟩,hs⟩
 dsimp only at i0 i1 hs
 refine⟨fun hi=>?_,fun hi=>?_⟩
 ·have hi:=of_decide_eq_true hi
  dsimp only at hi
  have hA':∀K:Int→Unit→Prop,(∀d,K d ())→Fn P zS2 BK (x,IntKind.i64.wrap (200+i)) K:=fun K hk=>by
   rw[w64 (by omega) (by omega)]
   exact hA.at (by omega) (hk _)
  have hM':∀(d:Int) (K:Int→Unit→Prop),(∀m,0≤m∧m<3→K m ())→Fn P zS1 B2 (d,(3:Int)) K:=fun d K hk=>hM.at (by decide) (by decide) (hk _ (Nv (by decide) (by decide)))
  have hB':∀(m:Int) (K:Bs→Unit→Prop),0≤m∧m<3→(∀s:Bs,s.length≤400→K s ())→Fn P zS0 Dh (x,(IntKind.i64.wrap (10+IntKind.i64.wrap (20*m)),((3:Int),(4:Int)))) K:=fun m K hm hk=>by
   obtain⟨m0,m1⟩:=hm
   rw[w64 (n:=20*m) (by omega) (by omega),w64 (n:=10+20*m) (by omega) (by omega)]
   refine(hB (x,(10+20*m,(3,4))) ⟨by dsimp only;omega,by dsimp only;omega⟩ ⟨(by decide:(0:Int)≤3),(by decide:(3:Int)≤100)⟩ ⟨(by decide:(1:Int)≤4),(by decide:(4:Int)≤100000)⟩).to ?_
   intro s e hs
   exact hk s hs
  have hp:=AfN i0 hi
  have hlt:i.toNat<6:=by omega
  refine Av.mid (fun d=>T22 (i.toNat+1) d) ?_ fun d hd=>?_
  ·refine Av.mid (fun d:Aa0=>d.1=AbL.getD i.toNat []∧d.2.length≤400) ?_ ?_
   ·dsimp only
    repeat' first|exact trivial|exact⟨hp,by assumption⟩|refine⟨?_,?_⟩|refine hA' _ fun _=>?_|refine hM' _ _ fun _ _=>?_|refine hB' _ _ (by assumption) fun _ _=>?_
   ·rintro⟨p,s⟩ ⟨hp1,hs1⟩
    dsimp only at hp1 hs1
    subst hp1
    have hln:a.length≤6:=(AfC hs).1
    have hln2:b.length≤6:=(AfC hs).2
    refine hA.at i0 ?_
    dsimp only
    refine⟨by decide,Av.mid (fun d=>T22 (i.toNat+1) d) ?_ fun _ hd=>hd⟩
    refine Av.mid (fun _=>True) ⟨fun _=>trivial,fun _=>trivial⟩ fun c _=>?_
    refine Av.mid (fun d=>T22 (i.toNat+1) d) ⟨fun _=>⟨?_,Agx hlt hs (by omega)⟩,fun _=>?_⟩ fun _ hd=>hd
    ·rw[List.length_singleton];omega
    ·refine Av.mid (fun d=>T22 (i.toNat+1) (a,d)) ⟨fun _=>?_,fun _=>⟨?_,Aek hlt hs (by omega)⟩⟩ fun _ hd=>hd
     ·refine(hN (s,(x,300)) (by dsimp only;omega) ⟨(by decide:(0:Int)≤300),(by decide:(300:Int)≤1000000)⟩).to ?_
      intro(u:Bs) e hu
      have hu:u.length≤5*s.length:=hu
      refine⟨?_,Aek hlt hs (by omega)⟩
      rw[List.length_singleton];omega
     ·rw[List.length_singleton];omega
  ·dsimp only
   rw[w64 (by omega) (by omega)]
   exact⟨⟨⟨by omega,by omega⟩,by rw[show(i+1).toNat=i.toNat+1 by omega];exact hd⟩,by omega⟩
 ·have hi:=of_decide_eq_false hi
  dsimp only at hi
  have:i=6:=by omega
  subst this
  exact hs
end Go.VS

/- Renamed files: the document's answer. -/
set_option linter.unusedVariables false
set_option linter.unusedSimpArgs false
namespace Go.VS
variable{P:Pg}
theorem AfZ{l:List Aba}{k:Nat}(h:k<l.length)(r:Aba):AbB (l.drop k) r=((decide ((l.getD k zR).1=r.1)||decide ((l.getD k zR).2.1=r.2.1))||AbB (l.drop (k+1)) r):=by
 rw[List.drop_eq_getElem_cons h,getD_eq h]
 rfl
def Ahu(l:List Aba):Prop:=l.Pairwise fun x y=>Op.bytesLess x.2.1 y.2.1=true
theorem AdQ{l:List Aba}(h:Ahu l):l.Nodup:=by
 rw[List.nodup_iff_pairwise_ne]
 refine h.imp fun{x y} hxy e=>?_
 rw[e,Abo]at hxy
 cases hxy
end Go.VS

/- The document's performing of differences. -/
set_option linter.unusedVariables false
set_option linter.unusedSimpArgs false
namespace Go.VS
variable{P:Pg}
theorem AeC{l:List Aa0}(h:Acn l)(p:Bs):findF l p=((Aa9 l p).getD [],(Aa9 l p).isSome):=by
 rw[Ad8 h.ne]
 cases Aa9 l p<;>rfl
theorem AcL:∀{l:List Aa0} {p v:Bs},Aa9 l p=some v→(p,v)∈l
 |[],_,_,h=>nomatch h
 |f::r,p,v,h=>by
  rw[Aa9]at h
  cases hb:Aa9 r p with
  |some u=>
   rw[hb]at h
   cases h
   exact List.mem_cons_of_mem _ (AcL hb)
  |none=>
   rw[hb]at h
   dsimp only at h
   split at h
   ·rename_i e
    cases h
    rw[e]
    exact List.mem_cons_self ..
   ·cases h
end Go.VS

/- SimilarRenames. -/
set_option linter.unusedVariables false
set_option linter.unusedSimpArgs false
namespace Go.VS
variable{P:Pg}
theorem AfM{S d:List Aba}(h:Af1 S d):d.length≤S.length:=by
 have h1:d.Nodup:=AdQ h.1
 have h2:=Adi h1 (fun t ht=>(h.2 t).1 ht)
 have h3:=Ady [] S
 rw[List.length_nil]at h3
 omega
theorem Aeu{a b:List Aa0}{D:List Abd}(h:Acy a b D):D.length≤a.length+b.length:=by
 have hn:(D.map (·.1)).Nodup:=by
  rw[List.nodup_iff_pairwise_ne,List.pairwise_map]
  refine h.1.imp fun{x y} hxy e=>?_
  rw[e,Abo]at hxy
  cases hxy
 have:=Adi (m:=a.map (·.1)++b.map (·.1)) hn fun p hp=>by
  obtain⟨t,ht,rfl⟩:=List.mem_map.1 hp
  rcases Ado h ht with⟨f,hf,e⟩|⟨f,hf,e⟩
  ·exact List.mem_append_left _ (List.mem_map.2 ⟨f,hf,e⟩)
  ·exact List.mem_append_right _ (List.mem_map.2 ⟨f,hf,e⟩)
 simpa using this
theorem AfT{a b:List Aa0}{least:Int}{d:List Aba×Int}(h:Afu a b least d)(ha:a.length≤6)(hb:b.length≤6):d.1.length≤144:=by
 by_cases hl:1≤least∧least≤100
 ·obtain⟨_,D,S,h1,h2,_,h4⟩:=h.2 hl
  have k1:=AfM h4
  have k2:=h2.length_eq
  have k3:=Ada (a:=a) (b:=b) (least:=least) (l:=D) (D:=D)
  have k4:=Aeu h1
  have k5:D.length*D.length≤12*12:=Nat.mul_le_mul (by omega) (by omega)
  omega
 ·rw[h.1 hl]
  exact Nat.zero_le _
theorem Ag7{a b:List Aa0}(ha:AcN a=0)(hb:AcN b=0):Acs a b=0:=by
 unfold Acs
 rw[ha,hb]
 rfl
end Go.VS
