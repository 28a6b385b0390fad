import Derived.Test.YtfkfmokccekccaaDoorKSm0
import Derived.KernelRfl
/- Texts as the library cuts them into lines. -/
set_option linter.unusedVariables false
set_option linter.unusedSimpArgs false
namespace Go.VS
variable{P:Pg}
def saN(acc:Bs):Bs→List Bs
 |[]=>[acc]
 |b::r=>if b=10 then(acc++[b])::saN [] r else saN (acc++[b]) r
def saF(s:Bs):List Bs:=saN [] s
def Kb(s:Bs):Bool:=([10]:Bs).isSuffixOf s
def Fy(P:Pg):Prop:=∀s:Bs,Fn P "strings.Count" CU (s,[10]) fun(d:Int) _=>d=((s.count 10:Nat):Int)
def ET(P:Pg):Prop:=∀s:Bs,s.length≤140737488351232→Fn P "strings.HasSuffix" BP (s,[10]) fun(d:Bool) _=>d=Kb s
def CV(P:Pg):Prop:=∀s:Bs,s.length≤4000000000→Fn P "strings.SplitAfter" Cd (s,[10]) fun(d:List Bs) _=>d=saF s
theorem Fy.at(h:Fy P){s:Bs}{K:Int→Unit→Prop}(hk:K ((s.count 10:Nat):Int) ()):Fn P "strings.Count" CU (s,[10]) K:=
 (h s).to fun(d:Int) _ hd=>by
  have hd:d=((s.count 10:Nat):Int):=hd
  subst hd
  exact hk
theorem ET.at(h:ET P){s:Bs}(hs:s.length≤140737488351232){K:Bool→Unit→Prop}(hk:K (Kb s) ()):Fn P "strings.HasSuffix" BP (s,[10]) K:=
 (h s hs).to fun(d:Bool) _ hd=>by
  have hd:d=Kb s:=hd
  subst hd
  exact hk
theorem CV.at(h:CV P){s:Bs}(hs:s.length≤4000000000){K:List Bs→Unit→Prop}(hk:K (saF s) ()):Fn P "strings.SplitAfter" Cd (s,[10]) K:=
 (h s hs).to fun(d:List Bs) _ hd=>by
  have hd:d=saF s:=hd
  subst hd
  exact hk
theorem Qr:∀(s acc:Bs),saN acc s≠[]
 |[],_=>by simp[saN]
 |b::r,acc=>by
  rw[saN]
  split
  ·simp
  ·exact Qr r _
theorem Vl{α:Type}(a:α)(l:List α)(d:α)(h:l≠[]):(a::l).getD ((a::l).length -1) d=l.getD (l.length -1) d:=by
 cases l with
 |nil=>exact absurd rfl h
 |cons b l=>rfl
theorem MY{α:Type}(a:α)(l:List α)(h:l≠[]):(a::l).dropLast=a::l.dropLast:=by
 cases l with
 |nil=>exact absurd rfl h
 |cons b l=>rfl
theorem Tj:∀(s acc:Bs),(s=[]→acc=[])→lnN acc s=if(saN acc s).getD ((saN acc s).length -1) []=[]then(saN acc s).dropLast else saN acc s
 |[],acc,h=>by
  rw[h rfl]
  rfl
 |b::r,acc,h=>by
  rw[lnN,saN]
  by_cases hb:b=10
  ·have ih:=Tj r [] fun _=>rfl
   rw[if_pos (.inl hb),if_pos hb,Vl _ _ _ (Qr r []),MY _ _ (Qr r []),ih]
   split<;>rfl
  ·rw[if_neg hb]
   by_cases hr:r=[]
   ·subst hr
    rw[if_pos (.inr rfl)]
    simp[saN,lnN]
   ·rw[if_neg (by rintro(h1|h1);exact hb h1;exact hr h1)]
    exact Tj r (acc++[b]) fun h1=>absurd h1 hr
theorem Xc(s:Bs):lnF s=if(saF s).getD ((saF s).length -1) []=[]then(saF s).dropLast else saF s:=Tj s [] fun _=>rfl
theorem Lr(l:Bs)(b:UInt8):Kb (l++[b])=(b==10):=by
 unfold Kb
 by_cases h:b=10
 ·subst h
  rw[show((10:UInt8)==10)=true from rfl,List.isSuffixOf_iff_suffix]
  exact List.suffix_append ..
 ·rw[show(b==10)=false by simpa using h,Bool.eq_false_iff]
  intro hs
  rw[List.isSuffixOf_iff_suffix]at hs
  obtain⟨t,ht⟩:=hs
  have:=congrArg List.getLast? ht
  simp at this
  exact h this.symm
theorem Qd:∀(s acc:Bs),(lnN acc s).length=s.count 10+(if s≠[]∧Kb s=false then 1 else 0)
 |[],acc=>by rw[if_neg (by simp)];rfl
 |b::r,acc=>by
  rw[lnN]
  rcases List.eq_nil_or_concat r with rfl|⟨l,c,rfl⟩
  ·rw[if_pos (.inr rfl),show[b]=([]:Bs)++[b]from rfl,Lr]
   by_cases hb:b=10
   ·subst hb;rfl
   ·rw[show(b==10)=false by simpa using hb]
    simp[lnN,hb]
  ·have e1:Kb (b::l.concat c)=Kb (l.concat c):=by
    rw[List.concat_eq_append,←List.cons_append,Lr,Lr]
   have hne:l.concat c≠[]:=by simp
   by_cases hb:b=10
   ·subst hb
    rw[if_pos (.inl rfl),List.length_cons,Qd (l.concat c) [],e1,List.count_cons_self]
    simp only[ne_eq,hne,not_false_eq_true,true_and,List.cons_ne_nil]
    omega
   ·rw[if_neg (by rintro(h1|h1);exact hb h1;exact hne h1),Qd (l.concat c) _,e1,List.count_cons_of_ne (by simpa using hb)]
    simp only[ne_eq,hne,not_false_eq_true,true_and,List.cons_ne_nil]
theorem Yl(s:Bs):(lnF s).length=s.count 10+(if s≠[]∧Kb s=false then 1 else 0):=Qd s []
def Lf(P:Pg):Prop:=∀s:Bs,s.length≤140737488351232→Fn P XO Cf s fun(d:Bool) _=>d=Kb s
theorem VN(h:Has P E9)(hS:ET P):Lf P:=by
 intro s hs
 refine Oi h ?_
 unfold JQ
 exact hS.at hs rfl
def Df(s:Bs):Int:=if s.length>1048576∨(lnF s).length>4096 then 1 else 0
def Ld(P:Pg):Prop:=∀s:Bs,s.length≤140737488351232→Fn P XP Ce s fun(d:Int) _=>d=Df s
theorem VM(h:Has P E8)(hC:Fy P)(hE:Lf P):Ld P:=by
 intro s hs
 refine Oh h ?_
 unfold JP
 refine hC.at ?_
 have hcl:=List.count_le_length (a:=(10:UInt8)) (l:=s)
 have hl:=Yl s
 refine Av.mid (fun d=>(!(s==([]:Bs)))=true→d=Kb s) ⟨fun _=>(hE s hs).to fun(d:Bool) _ hd _=>hd,(by intro hc hc2;rw[hc]at hc2;cases hc2),trivial⟩ ?_
 intro d hd
 have hfin:∀n:Int,n=((lnF s).length:Nat)→((cond (decide (((List.length s:Nat):Int)>(1048576:Int))) true (decide (n>(4096:Int))))=true→(1:Int)=Df s)∧((cond (decide (((List.length s:Nat):Int)>(1048576:Int))) true (decide (n>(4096:Int))))=false→(0:Int)=Df s):=by
  rintro n rfl
  unfold Df
  by_cases h1:s.length>1048576
  ·have e1:decide (((List.length s:Nat):Int)>(1048576:Int))=true:=decide_eq_true (by omega)
   rw[e1,if_pos (.inl h1)]
   exact⟨fun _=>rfl,fun h=>nomatch h⟩
  ·have e1:decide (((List.length s:Nat):Int)>(1048576:Int))=false:=decide_eq_false (by omega)
   rw[e1,cond_false]
   by_cases h2:(lnF s).length>4096
   ·rw[if_pos (.inr h2),show decide ((((lnF s).length:Nat):Int)>4096)=true from decide_eq_true (by omega)]
    exact⟨fun _=>rfl,fun h=>nomatch h⟩
   ·rw[if_neg (by omega),show decide ((((lnF s).length:Nat):Int)>4096)=false from decide_eq_false (by omega)]
    exact⟨(fun h=>nomatch h),fun _=>rfl⟩
 refine Av.mid (fun n=>n=((lnF s).length:Nat)) ⟨fun hc=>?_,fun hc=>?_⟩ hfin
 ·by_cases hn:s=[]
  ·subst hn;cases hc
  ·have hb:(!(s==([]:Bs)))=true:=by simpa using hn
   rw[hb,cond_true]at hc
   have he:Kb s=false:=by rw[←hd hb];simpa using hc
   rw[w64 (by omega) (by omega),hl,if_pos ⟨hn,he⟩]
   omega
 ·by_cases hn:s=[]
  ·subst hn;rfl
  ·have hb:(!(s==([]:Bs)))=true:=by simpa using hn
   rw[hb,cond_true]at hc
   have he:Kb s=true:=by rw[←hd hb];simpa using hc
   rw[hl,if_neg (by rw[he];simp)]
   omega
def GF(P:Pg):Prop:=∀s:Bs,s.length≤140737488351232→Fn P zS6 Bu s fun(d:List Bs×Int) _=>d=if Df s=0 then(lnF s,0)else([],1)
theorem VO(h:Has P Fa)(hC:Ld P)(hS:CV P):GF P:=by
 intro s hs
 refine Oj h ?_
 unfold JR
 refine(hC s hs).to ?_
 rintro(d:Int) _ hd
 have hd:d=Df s:=hd
 subst hd
 refine⟨fun hc=>?_,fun hc=>?_⟩
 ·have hc:Df s≠0:=by simpa using hc
  rw[if_neg hc]
  unfold Df at hc⊢
  split
  ·rfl
  ·rename_i h1;rw[if_neg h1]at hc;exact absurd rfl hc
 ·have hc:Df s=0:=by simpa using hc
  rw[if_pos hc]
  have hl:s.length≤1048576:=by
   unfold Df at hc
   split at hc
   ·cases hc
   ·omega
  refine hS.at (by omega) ?_
  have hne:=Qr s []
  have hpos:0<(saF s).length:=List.length_pos_iff.2 hne
  have hlen:(saF s).length≤s.length+1:=by
   have:∀(s acc:Bs),(saN acc s).length≤s.length+1:=by
    intro s
    induction s with
    |nil=>intro acc;simp[saN]
    |cons b r ih=>
     intro acc
     rw[saN]
     split
     ·have:=ih [];simp only[List.length_cons];omega
     ·have:=ih (acc++[b]);simp only[List.length_cons];omega
   exact this s []
  rw[w64 (n:=((saF s).length:Int) -1) (by omega) (by omega)]
  have e1:(((saF s).length:Int) -1).toNat=(saF s).length -1:=by omega
  rw[e1]
  refine⟨⟨by omega,by omega⟩,by omega,Av.of ⟨fun hb=>⟨⟨by omega,by omega⟩,by omega,?_⟩,fun hb=>?_⟩⟩
  ·have hb:(saF s).getD ((saF s).length -1) []=[]:=by simpa using hb
   rw[Xc,if_pos hb,List.drop_zero,List.dropLast_eq_take]
  ·have hb:¬(saF s).getD ((saF s).length -1) []=[]:=by simpa using hb
   rw[Xc,if_neg hb]
theorem GF.at(h:GF P){s:Bs}(hs:s.length≤140737488351232){K:List Bs×Int→Unit→Prop}(hk:K (if Df s=0 then(lnF s,0)else([],1)) ()):Fn P zS6 Bu s K:=
 (h s hs).to fun(d:List Bs×Int) _ hd=>by
  have hd:d=if Df s=0 then(lnF s,0)else([],1):=hd
  subst hd
  exact hk
end Go.VS

/- How alike two blobs are. -/
set_option linter.unusedVariables false
set_option linter.unusedSimpArgs false
namespace Go.VS
variable{P:Pg}
theorem Qe:∀(s acc t:Bs),t∈lnN acc s→t.length≤acc.length+s.length
 |[],acc,t,h=>by rw[lnN]at h;cases h
 |b::r,acc,t,h=>by
  rw[lnN]at h
  split at h
  ·rcases List.mem_cons.1 h with rfl|h
   ·simp only[List.length_append,List.length_cons,List.length_nil];omega
   ·have:=Qe r [] t h
    simp only[List.length_cons,List.length_nil]at this⊢;omega
  ·have:=Qe r (acc++[b]) t h
   simp only[List.length_append,List.length_cons,List.length_nil]at this⊢;omega
theorem Ym{s t:Bs}(h:t∈lnF s):t.length≤s.length:=by
 have:=Qe s [] t h
 simp only[List.length_nil]at this
 omega
end Go.VS

/- Scores: the statements. -/
set_option linter.unusedVariables false
set_option linter.unusedSimpArgs false
namespace Go.VS
variable{P:Pg}
theorem IC:∀(s acc:Bs),(lnN acc s).length≤s.length
 |[],acc=>by rw[lnN];exact Nat.le_refl _
 |b::r,acc=>by
  rw[lnN]
  split
  ·have:=IC r [];simp only[List.length_cons];omega
  ·have:=IC r (acc++[b]);simp only[List.length_cons];omega
def PH(P:Pg):Prop:=∀x:List Int×(Int×(Int×Int)),(0≤x.2.1∧x.2.1≤1000000)→(0≤x.2.2.1∧x.2.2.1≤100)→(1≤x.2.2.2∧x.2.2.2≤100000)→Fn P XM Dh x fun(d:Bs) _=>d.length≤400
theorem YG(h:Has P G0)(hA:OD P)(hM:Lb P)(hL:Mo P):PH P:=by
 rintro⟨raw,fr,mx,kinds⟩ ⟨f0,f1⟩ ⟨m0,m1⟩ ⟨k0,k1⟩
 dsimp only at f0 f1 m0 m1 k0 k1
 refine Q7 h ?_
 unfold MK
 dsimp only
 rw[w64 (n:=mx+1) (by omega) (by omega),w64 (n:=fr+1) (by omega) (by omega),w64 (n:=fr+90) (by omega) (by omega)]
 refine hA.at f0 (hM.at (by omega) (by omega) ?_)
 have hr:=Nv (a:=atF raw fr) (n:=mx+1) (by omega) (by omega)
 generalize Qg (atF raw fr) (mx+1)=m at hr⊢
 refine Av.mid (fun d=>d.length≤400) ?_ fun d hd=>?_
 ·refine DD.of (fun q=>(0≤q.2∧q.2≤m)∧(q.1.length:Int)≤4*q.2) (fun q=>(m -q.2).toNat) ⟨⟨Int.le_refl _,hr.1⟩,by decide⟩ ?_
  rintro⟨s,i⟩ ⟨⟨i0,i1⟩,hs⟩
  dsimp only at i0 i1 hs⊢
  refine⟨fun hi=>?_,fun hi=>by omega⟩
  have hi:=of_decide_eq_true hi
  refine Av.mid (fun d=>(d.length:Int)≤4*(i+1)) ?_ fun d hd=>?_
  ·rw[w64 (by omega) (by omega)]
   refine hA.at (by omega) (hM.at k0 (by omega) ((hL _).to ?_))
   rintro(ln:Bs) _ hln
   have hln:ln.length≤3:=hln
   refine⟨by omega,by rw[List.length_append];simp only[List.length_cons,List.length_nil];omega,?_⟩
   try dsimp only
   rw[List.length_append,List.length_append]
   simp only[List.length_cons,List.length_nil]
   omega
  ·rw[w64 (by omega) (by omega)]
   exact⟨⟨⟨by omega,by omega⟩,hd⟩,by omega⟩
 ·refine hA.at (by omega) ⟨by decide,fun hc=>?_,?_⟩
  ·rw[Bool.cond_eq_ite]at hc
   split at hc
   ·have h1:=of_decide_eq_true hc
    rw[w64 (by omega) (by omega)]
    omega
   ·cases hc
  ·refine Av.mid (fun e=>e.length≤400) ⟨fun hc=>?_,fun _=>hd⟩ fun _ h=>h
   have h1:1<d.length:=by
    rw[Bool.cond_eq_ite]at hc
    split at hc
    ·rename_i h2
     rw[Bool.cond_eq_ite]at h2
     split at h2
     ·have:=of_decide_eq_true h2;omega
     ·cases h2
    ·cases hc
   rw[w64 (by omega) (by omega)]
   exact⟨⟨by omega,by omega⟩,(by first|(rw[List.length_take];omega)|(dsimp only;rw[List.length_take];omega))⟩
end Go.VS

/- Scores are symmetric. -/
set_option linter.unusedVariables false
set_option linter.unusedSimpArgs false
namespace Go.VS
variable{P:Pg}
theorem OM{a:Bs}(h:a.length≤4096):Df a=0:=by
 unfold Df
 have:=IC a []
 rw[if_neg]
 unfold lnF
 omega
theorem Np:∀(s acc:Bs),(lnN acc s).flatten.length≤acc.length+s.length
 |[],acc=>by rw[lnN];exact Nat.zero_le _
 |b::r,acc=>by
  rw[lnN]
  split
  ·have:=Np r []
   simp only[List.flatten_cons,List.length_append,List.length_cons,List.length_nil]at this⊢
   omega
  ·have:=Np r (acc++[b])
   simp only[List.length_append,List.length_cons,List.length_nil]at this⊢
   omega
def MF(P:Pg):Prop:=∀x:Bs×(List Int×Int),x.1.length≤1000→(0≤x.2.2∧x.2.2≤1000000)→Fn P XN Di x fun(d:Bs) _=>d.length≤5*x.1.length
theorem XC(h:Has P G2)(hA:OD P)(hL:Mo P)(hN:G7 P):MF P:=by
 rintro⟨s,raw,fr⟩ hs ⟨f0,f1⟩
 dsimp only at hs f0 f1
 refine Q9 h ?_
 unfold MM
 dsimp only
 refine(hN s (by omega)).to ?_
 rintro(l:List Bs) _ hl
 have hl:l=lnF s:=hl
 have hlen:l.length≤s.length:=by rw[hl];exact IC s []
 have hfl:l.flatten.length≤s.length:=by rw[hl];have:=Np s [];simp only[List.length_nil]at this;unfold lnF;omega
 clear hl
 have hpre:∀k,k<l.length→(l.take (k+1)).flatten.length=(l.take k).flatten.length+(l.getD k []).length:=fun k hk=>by
  rw[List.take_add_one,List.getElem?_eq_getElem hk,List.flatten_append,List.length_append,List.getD_eq_getElem?_getD,List.getElem?_eq_getElem hk]
  simp
 have hle:∀k,(l.take k).flatten.length≤l.flatten.length:=fun k=>by
  have:l.flatten.length=(l.take k).flatten.length+(l.drop k).flatten.length:=by rw[←List.length_append,←List.flatten_append,List.take_append_drop]
  omega
 rw[w64 (n:=fr+40) (by omega) (by omega)]
 refine Av.mid (fun d=>d.length≤5*s.length) ?_ fun _ h=>h
 refine DD.of (fun q=>(0≤q.2∧q.2≤l.length)∧(q.1.length:Int)≤4*q.2+((l.take q.2.toNat).flatten.length:Nat)) (fun q=>(l.length -q.2).toNat) ⟨⟨Int.le_refl _,Int.natCast_nonneg _⟩,by simp⟩ ?_
 rintro⟨d,i⟩ ⟨⟨i0,i1⟩,hd⟩
 dsimp only at i0 i1 hd⊢
 have hti:=hle i.toNat
 refine⟨fun hi=>?_,fun hi=>by omega⟩
 have hi:=of_decide_eq_true hi
 have hi2:i.toNat<l.length:=by omega
 have hp:=hpre i.toNat hi2
 have htj:=hle (i.toNat+1)
 refine Av.mid (fun d=>(d.length:Int)≤4*(i+1)+((l.take (i.toNat+1)).flatten.length:Nat)) ?_ fun d hd=>?_
 ·rw[w64 (n:=fr+i) (by omega) (by omega),w64 (n:=fr+40+i) (by omega) (by omega)]
  refine hA.at (by omega) ⟨by decide,?_⟩
  refine Av.mid (fun e=>(e.length:Int)≤4*i+((l.take i.toNat).flatten.length:Nat)+4) ⟨fun _=>by omega,fun _=>?_⟩ fun e he=>?_
  ·refine Av.mid (fun e=>(e.length:Int)≤4*i+((l.take i.toNat).flatten.length:Nat)+4) ⟨fun _=>?_,fun _=>by omega⟩ fun _ h=>h
   refine hA.at (by omega) ((hL _).to ?_)
   rintro(ln:Bs) _ hln
   have hln:ln.length≤3:=hln
   refine⟨by omega,by rw[List.length_append];simp only[List.length_cons,List.length_nil];omega,?_⟩
   try dsimp only
   rw[List.length_append,List.length_append]
   simp only[List.length_cons,List.length_nil]
   omega
  ·refine⟨⟨i0,hi⟩,hi2,by omega,?_⟩
   try dsimp only
   rw[List.length_append]
   omega
 ·rw[w64 (by omega) (by omega),show(i+1).toNat=i.toNat+1 by omega]
  exact⟨⟨⟨by omega,by omega⟩,hd⟩,by omega⟩
end Go.VS

/- Bars: the statements. -/
set_option linter.unusedVariables false
set_option linter.unusedSimpArgs false
namespace Go.VS
variable{P:Pg}
theorem ME.at(h:ME P){a r m w:Int}{K:Int×(Int×Int)→Unit→Prop}(hk:K (V8 a r m w) ()):Fn P V1 CH (a,(r,(m,w))) K:=
 (h (a,(r,(m,w)))).to fun(d:Int×(Int×Int)) _ hd=>by
  have hd:d=V8 a r m w:=hd
  subst hd
  exact hk
theorem Z7:V8 60 40 100 10=(6,(4,0)):=by kernel_rfl
theorem AaO:FJ 1=[49]:=by unfold FJ;rw[if_neg (by decide),show(1:Int).toNat=1 from rfl,Lib.decDigits];rfl
theorem AaP:FJ 2=[50]:=by unfold FJ;rw[if_neg (by decide),show(2:Int).toNat=2 from rfl,Lib.decDigits];rfl
theorem AaQ:FJ 3=[51]:=by unfold FJ;rw[if_neg (by decide),show(3:Int).toNat=3 from rfl,Lib.decDigits];rfl
theorem Z8:sfF [(([120]:List UInt8),((1:Int),(2:Int)))] 10=([32,120,32,124,32,51,32,43,45,45,10,32,49,32,102,105,108,101,115,44,32,49,32,97,100,100,101,100,44,32,50,32,114,101,109,111,118,101,100,10],0):=by
 have h1:Hr [(([120]:List UInt8),((1:Int),(2:Int)))]=(1,(2,(3,true))):=by kernel_rfl
 have h2:D3 1 2 3 10=(1,2):=by kernel_rfl
 unfold sfF
 rw[h1]
 dsimp only
 rw[if_neg (by decide)]
 have h3:DV [120]=[120]:=by decide
 simp only[List.flatMap_cons,List.flatMap_nil,List.append_nil,FW,PX,h2,h3,List.length_cons,List.length_nil,show((1:Int)+2)=3 from rfl,show(((0+1:Nat):Int))=1 from rfl,AaO,AaP,AaQ]
 rfl
def Fz(P:Pg):Prop:=Fn P zS5 Be () fun(d:Bool) _=>d=true
theorem TQ(h:Has P ED)(hB:ME P)(hS:Ja P):Fz P:=by
 refine M7 h ?_
 unfold IW
 refine hB.at ?_
 refine(hS ([(([120]:List UInt8),((1:Int),(2:Int)))],10) ⟨by decide,fun s hs=>?_⟩).to ?_
 ·have:s=(([120]:List UInt8),((1:Int),(2:Int))):=by simpa using hs
  subst this
  decide
 ·rintro(d:Bs×Int) _ hd
  have hd:d=sfF [(([120]:List UInt8),((1:Int),(2:Int)))] 10:=hd
  rw[Z8]at hd
  subst hd
  rw[Z7]
  rfl
theorem Fz.at(h:Fz P){K:Bool→Unit→Prop}(hk:K true ()):Fn P zS5 Be () K:=
 Fn.to h fun(d:Bool) _ hd=>by
  have hd:d=true:=hd
  subst hd
  exact hk
end Go.VS

/- Shortest scripts: the program's, from what the walked functions answer. -/
set_option linter.unusedVariables false
set_option linter.unusedSimpArgs false
namespace Go.VS
variable{P:Pg}
def MH(P:Pg):Prop:=∀x:List Int×List Int,x.1.length≤4096→x.2.length≤4096→Fn P ZU DO x fun(d:List (Int×Int)) _=>d=B8 x.1 x.2 0 0
def PJ(P:Pg):Prop:=∀x:List (Int×Int)×(Int×Int),x.1.length≤4096→(0≤x.2.1∧x.2.1≤4096)→(0≤x.2.2∧x.2.2≤4096)→MR (0,0) x.2.1 x.2.2 x.1→Fn P ZT CG x fun(d:List BU) _=>d=Cs x.2.1 x.2.2 x.1 0 0
def Zk(x:List (List Bs))(f:Bs→Int):Prop:=∀u,u∈x.flatten→∀v,v∈x.flatten→f u=f v→u=v
def I9(P:Pg):Prop:=∀x:List (List Bs),x.length≤4096→(∀l∈x,l.length≤4096∧∀s∈l,s.length≤1048576)→Fn P ZS DN x fun(d:List (List Int)×List Bs) _=>∃f,Zk x f∧d.1=x.map fun l=>l.map f
def SE(P:Pg):Prop:=∀x:List (List Bs),x.length≤4096→(∀l∈x,l.length≤4096∧∀s∈l,s.length≤1048576)→Fn P XQ Cc x fun(d:List (List Int)) _=>∃f,Zk x f∧d=x.map fun l=>l.map f
theorem ZL(h:Has P E5)(hN:I9 P):SE P:=by
 intro x h1 h2
 refine Od h ?_
 unfold JM
 refine(hN x h1 h2).to ?_
 rintro(d:List (List Int)×List Bs) _ hd
 exact hd
def Mp(P:Pg):Prop:=∀n:Int,Fn P zS4 AP n fun(d:Bool) _=>d=true↔(0≤n∧n≤4096)
theorem YI(h:Has P DM):Mp P:=by
 intro n
 refine Lv h ?_
 unfold Hv
 dsimp only
 by_cases h1:n≥0
 ·rw[decide_eq_true h1,cond_true,decide_eq_true_eq]
  exact⟨fun h=>⟨h1,h⟩,fun h=>h.2⟩
 ·rw[decide_eq_false h1,cond_false]
  exact⟨fun h=>(nomatch h),fun h=>absurd h.1 h1⟩
def I8(P:Pg):Prop:=∀n:Int,(0≤n∧n≤4096)→Fn P Ua AZ n fun(d:Int) _=>d=n
theorem TO(h:Has P Ds)(hL:Mp P):I8 P:=by
 intro n hn
 refine Kg h ?_
 unfold GG
 refine(hL n).to ?_
 rintro(d:Bool) _ hd
 have hd:d=true:=hd.2 hn
 subst hd
 exact⟨fun hb=>absurd hb (by decide),fun _=>rfl⟩
theorem XI{α:Type}{l:List α}{k:Nat}{d:α}(h:k<l.length):l.take (k+1)=l.take k++[l.getD k d]:=by
 rw[List.take_add_one,List.getElem?_eq_getElem h,getD_eq h]
 rfl
theorem K3{f:BU→Int}{l:List BU}{k:Nat}{d:BU}(h:k<l.length):((l.take (k+1)).map f).sum=((l.take k).map f).sum+f (l.getD k d):=by
 rw[XI (d:=d) h,List.map_append,List.sum_append]
 simp
theorem NZ{f:BU→Int}{B:Int}:∀{l:List BU},(∀c∈l,0≤f c∧f c≤B)→0≤(l.map f).sum∧(l.map f).sum≤B*(l.length:Int)
 |[],_=>by simp
 |c::l,h=>by
  have h1:=h c (List.mem_cons_self ..)
  have h2:=NZ (l:=l) fun x hx=>h x (List.mem_cons_of_mem _ hx)
  rw[List.map_cons,List.sum_cons,List.length_cons]
  have:B*((l.length+1:Nat):Int)=B*(l.length:Int)+B:=by rw[Int.natCast_add,Int.mul_add];simp
  rw[this]
  omega
def PK(P:Pg):Prop:=∀l:List BU,l.length≤1000000→(∀c∈l,(0≤c.2.1∧c.2.1≤4096)∧(0≤c.2.2.2∧c.2.2.2≤4096))→Fn P XT BX l fun(d:Int×Int) _=>d=(Gt l,GR l)
theorem YJ(h:Has P EG)(hC:I8 P):PK P:=by
 intro l hl hb
 refine Na h ?_
 unfold IZ
 refine Av.mid (fun d=>d=(Gt l,GR l)) ?_ fun d hd=>hd
 refine DD.of (fun q=>(0≤q.2.2∧q.2.2≤l.length)∧q.1=Gt (l.take q.2.2.toNat)∧q.2.1=GR (l.take q.2.2.toNat)) (fun q=>(l.length -q.2.2).toNat) ⟨⟨Int.le_refl _,Int.natCast_nonneg _⟩,rfl,rfl⟩ ?_
 rintro⟨u,v,i⟩ ⟨⟨i0,i1⟩,hu,hv⟩
 dsimp only at i0 i1 hu hv⊢
 refine⟨fun hi=>?_,fun hi=>?_⟩
 ·have hi:=of_decide_eq_true hi
  have hi2:i.toNat<l.length:=by omega
  have hc:=hb _ (Rk (d:=((0:Int),((0:Int),((0:Int),(0:Int))))) hi2)
  have ho:=K3 (f:=fun c:BU=>c.2.1) (d:=((0:Int),((0:Int),((0:Int),(0:Int))))) hi2
  have hn:=K3 (f:=fun c:BU=>c.2.2.2) (d:=((0:Int),((0:Int),((0:Int),(0:Int))))) hi2
  have bo:=NZ (f:=fun c:BU=>c.2.1) (B:=4096) (l:=l.take i.toNat) fun c hc=>(hb c (List.mem_of_mem_take hc)).1
  have bn:=NZ (f:=fun c:BU=>c.2.2.2) (B:=4096) (l:=l.take i.toNat) fun c hc=>(hb c (List.mem_of_mem_take hc)).2
  have ltk:(l.take i.toNat).length=i.toNat:=by rw[List.length_take];omega
  rw[ltk]at bo bn
  have hu2:u=((l.take i.toNat).map fun c:BU=>c.2.1).sum:=hu
  have hv2:v=((l.take i.toNat).map fun c:BU=>c.2.2.2).sum:=hv
  rw[←hu2]at ho bo
  rw[←hv2]at hn bn
  refine Av.mid (fun d=>d=(Gt (l.take (i.toNat+1)),GR (l.take (i.toNat+1)))) ⟨⟨i0,hi⟩,hi2,(hC _ hc.1).to ?_⟩ fun d hd=>by
   rw[w64 (by omega) (by omega),hd]
   exact⟨⟨⟨by omega,by omega⟩,by rw[show(i+1).toNat=i.toNat+1 by omega],by rw[show(i+1).toNat=i.toNat+1 by omega]⟩,by omega⟩
  rintro(d:Int) _ hd
  refine(hC _ hc.2).to ?_
  rintro(e:Int) _ he
  rw[hd,he,w64 (by omega) (by omega),w64 (by omega) (by omega)]
  exact Prod.ext ho.symm hn.symm
 ·have hi:=of_decide_eq_false hi
  rw[List.take_of_length_le (by omega)]at hu hv
  exact Prod.ext hu hv
theorem PQ:∀{p:List (Int×Int)} {lo:Int×Int} {m n:Int},MR lo m n p→lo.1≤m→lo.2≤n→(p.length:Int)≤m -lo.1∧(p.length:Int)≤n -lo.2
 |[],_,_,_,_,h1,h2=>by simp;omega
 |s::r,lo,m,n,h,h1,h2=>by
  obtain⟨⟨k1,k2,k3,k4⟩,hr⟩:=h
  obtain⟨q1,q2⟩:=PQ (p:=r) (lo:=(s.1+1,s.2+1)) hr (by dsimp only;omega) (by dsimp only;omega)
  dsimp only at q1 q2
  rw[List.length_cons]
  omega
def G6(P:Pg):Prop:=∀x:List (Int×Int)×(Int×Int),x.1.length≤4096→(0≤x.2.1∧x.2.1≤4096)→(0≤x.2.2∧x.2.2≤4096)→MR (0,0) x.2.1 x.2.2 x.1→Fn P XR A3 x fun(d:List BU×Int) _=>d=(Cs x.2.1 x.2.2 x.1 0 0,0)
theorem Qy(h:Has P CE)(hL:Mp P)(hM:PJ P):G6 P:=by
 rintro⟨p,m,n⟩ hp hm hn ha
 dsimp only at hp hm hn ha
 refine IP h ?_
 unfold FA
 dsimp only
 refine(hL m).to ?_
 rintro(d:Bool) _ hd
 have hd:d=true:=hd.2 hm
 subst hd
 refine Av.mid (fun d=>d=true) ⟨fun _=>(hL n).to fun(d:Bool) _ hd=>hd.2 hn,fun hb=>absurd hb (by decide),trivial⟩ ?_
 rintro d rfl
 refine⟨fun hb=>absurd hb (by decide),fun _=>?_⟩
 refine Av.mid (fun _=>True) ?_ fun _ _=>(hM (p,(m,n)) hp hm hn ha).to fun(d:List BU) _ hd=>(by
  have hd:d=Cs m n p 0 0:=hd
  rw[hd])
 refine DD.of (fun q=>(0≤q.2.2.1∧q.2.2.1≤p.length)∧MR (q.2.2.2.1+1,q.2.2.2.2+1) m n (p.drop q.2.2.1.toNat)) (fun q=>(p.length -q.2.2.1).toNat) ⟨⟨Int.le_refl _,Int.natCast_nonneg _⟩,by dsimp only;exact ha⟩ ?_
 rintro⟨o,u,i,s1,s2⟩ ⟨⟨i0,i1⟩,hs⟩
 dsimp only at i0 i1 hs⊢
 refine⟨fun hi=>?_,fun hi=>trivial⟩
 have hi:=of_decide_eq_true hi
 have hi2:i.toNat<p.length:=by omega
 have hdr:p.drop i.toNat=p.getD i.toNat (0,0)::p.drop (i.toNat+1):=by rw[List.drop_eq_getElem_cons hi2,getD_eq hi2]
 rw[hdr]at hs
 obtain⟨⟨k1,k2,k3,k4⟩,hr⟩:=hs
 dsimp only at k1 k2
 generalize p.getD i.toNat (0,0)=t at k1 k2 k3 k4 hr⊢
 have e:cond (cond (cond (decide (t.1≤s1)) true (decide (t.1≥m))) true (decide (t.2≤s2))) true (decide (t.2≥n))=false:=by
  rw[decide_eq_false (by omega),decide_eq_false (by omega),decide_eq_false (by omega),decide_eq_false (by omega)]
  rfl
 rw[e]
 refine Av.mid (fun q=>q.2.2=t) ⟨⟨i0,hi⟩,hi2,fun hb=>absurd hb (by decide),fun _=>rfl⟩ ?_
 rintro⟨q1,q2,q3⟩ hq
 have hq:q3=t:=hq
 subst hq
 rw[w64 (by omega) (by omega)]
 exact⟨⟨⟨by omega,by omega⟩,by rw[show(i+1).toNat=i.toNat+1 by omega];exact hr⟩,by omega⟩
def Lc(P:Pg):Prop:=∀x:List Int×List Int,x.1.length≤4096→x.2.length≤4096→Fn P XS Ba x fun(d:List BU×Int) _=>d=(Cs x.1.length x.2.length (B8 x.1 x.2 0 0) 0 0,0)
theorem VL(h:Has P Db)(hL:Has P CF)(hW:MH P)(hF:G6 P):Lc P:=by
 rintro⟨a,b⟩ ha hb
 dsimp only at ha hb
 refine Jj h ?_
 unfold Gb
 refine IQ hL ?_
 unfold FB
 dsimp only
 rw[decide_eq_true (show((a.length:Nat):Int)≤4096 by omega),decide_eq_true (show((b.length:Nat):Int)≤4096 by omega)]
 refine⟨fun hb=>absurd hb (by decide),fun _=>?_⟩
 refine(hW (a,b) ha hb).to ?_
 rintro(d:List (Int×Int)) _ hd
 have hd:d=B8 a b 0 0:=hd
 subst hd
 have hasc:=US _ a b 0 0 (Nat.le_refl _)
 rw[Int.zero_add,Int.zero_add]at hasc
 have hle:=PQ hasc (Int.natCast_nonneg _) (Int.natCast_nonneg _)
 refine(hF (B8 a b 0 0,(((a.length:Nat):Int),((b.length:Nat):Int))) (by have:=hle.1;dsimp only at this⊢;omega) ⟨Int.natCast_nonneg _,by dsimp only;omega⟩ ⟨Int.natCast_nonneg _,by dsimp only;omega⟩ hasc).to ?_
 rintro(d:List BU×Int) _ hd
 exact hd
def CT(a b:Bs):List BU:=Cs ((lnF a).length:Nat) ((lnF b).length:Nat) (B8 (lnF a) (lnF b) 0 0) 0 0
theorem Je{a:Bs}(h:Df a=0):(lnF a).length≤4096∧∀s∈lnF a,s.length≤1048576:=by
 unfold Df at h
 split at h
 ·cases h
 ·rename_i k
  refine⟨by omega,fun s hs=>?_⟩
  have:=Ym hs
  omega
def GC(P:Pg):Prop:=∀x:Bs×Bs,x.1.length≤140737488351232→x.2.length≤140737488351232→Fn P zS7 AQ x fun(d:List BU×Int) _=>d=if Df x.1=0∧Df x.2=0 then(CT x.1 x.2,0)else([],1)
theorem XA(h:Has P Dt)(hT:GF P)(hI:SE P)(hS:Lc P):GC P:=by
 rintro⟨a,b⟩ ha hb
 dsimp only at ha hb
 refine Kh h ?_
 unfold GH
 dsimp only
 refine(hT a ha).to ?_
 rintro(d:List Bs×Int) _ hd
 have hd:d=if Df a=0 then(lnF a,0)else([],1):=hd
 by_cases h1:Df a=0
 ·rw[if_pos h1]at hd
  subst hd
  refine⟨fun hb=>absurd hb (by simp),fun _=>?_⟩
  refine(hT b hb).to ?_
  rintro(d:List Bs×Int) _ hd
  have hd:d=if Df b=0 then(lnF b,0)else([],1):=hd
  by_cases h2:Df b=0
  ·rw[if_pos h2]at hd
   subst hd
   rw[if_pos ⟨h1,h2⟩]
   refine⟨fun hb=>absurd hb (by simp),fun _=>?_⟩
   obtain⟨la,sa⟩:=Je h1
   obtain⟨lb,sb⟩:=Je h2
   refine(hI [lnF a,lnF b] (by simp) fun l hl=>?_).to ?_
   ·simp only[List.mem_cons,List.not_mem_nil,or_false]at hl
    rcases hl with rfl|rfl
    ·exact⟨la,sa⟩
    ·exact⟨lb,sb⟩
   rintro(d:List (List Int)) _ ⟨f,hf,hd⟩
   have hd:d=[(lnF a).map f,(lnF b).map f]:=hd
   subst hd
   have hmap:B8 ((lnF a).map f) ((lnF b).map f) 0 0=B8 (lnF a) (lnF b) 0 0:=YQ f _ _ _ 0 0 (Nat.le_refl _) fun u hu v hv e=>hf u (by simp[hu]) v (by simp[hv]) e
   refine Av.mid (fun d=>d=(CT a b,0)) ⟨by simp,by simp,by simp,by simp,⟨by simp,by simp,(hS ((lnF a).map f,(lnF b).map f) (by dsimp only;rw[List.length_map];exact la) (by dsimp only;rw[List.length_map];exact lb)).to ?_⟩,trivial⟩ fun d hd=>hd
   rintro(d:List BU×Int) _ hd
   have hd:d=(CT a b,0):=by
    rw[show d=_ from hd]
    dsimp only
    rw[hmap,List.length_map,List.length_map]
    rfl
   (repeat' apply And.intro)<;>first|exact True.intro|exact hd
  ·rw[if_neg h2]at hd
   subst hd
   rw[if_neg fun k=>h2 k.2]
   exact⟨fun _=>rfl,fun hb=>absurd hb (by simp)⟩
 ·rw[if_neg h1]at hd
  subst hd
  rw[if_neg fun k=>h1 k.1]
  exact⟨fun _=>rfl,fun hb=>absurd hb (by simp)⟩
def Ef(a b:Bs):Nat:=(B8 (lnF a) (lnF b) 0 0).length
def Oc(a b:Bs):Int×(Int×Int):=if Df a=0∧Df b=0 then(((lnF b).length:Int) -(Ef a b:Int),(((lnF a).length:Int) -(Ef a b:Int),0))else(0,(0,1))
theorem Qt{a b:Bs}(ha:Df a=0)(hb:Df b=0):Gt (CT a b)=((lnF a).length:Int) -(Ef a b:Int)∧GR (CT a b)=((lnF b).length:Int) -(Ef a b:Int)∧(∀c∈CT a b,(0≤c.2.1∧c.2.1≤4096)∧(0≤c.2.2.2∧c.2.2.2≤4096))∧((Ef a b:Int)≤(lnF a).length∧(Ef a b:Int)≤(lnF b).length):=by
 have hasc:=US _ (lnF a) (lnF b) 0 0 (Nat.le_refl _)
 rw[Int.zero_add,Int.zero_add]at hasc
 have hle:=PQ hasc (Int.natCast_nonneg _) (Int.natCast_nonneg _)
 obtain⟨h1,h2,h3⟩:=Rz hasc (Int.natCast_nonneg _) (Int.natCast_nonneg _)
 obtain⟨la,_⟩:=Je ha
 obtain⟨lb,_⟩:=Je hb
 refine⟨?_,?_,fun c hc=>?_,?_⟩
 ·show Gt _=_
  unfold CT Ef
  rw[h1]
  omega
 ·unfold CT Ef
  rw[h2]
  omega
 ·have:=h3 c hc
  omega
 ·have h4:=hle.1
  have h5:=hle.2
  unfold Ef
  dsimp only at h4 h5
  omega
theorem Ry:∀{m n:Int} (p:List (Int×Int)) (o w:Int),(Cs m n p o w).length≤p.length+1
 |m,n,[],o,w=>by unfold Cs HS;split<;>simp
 |m,n,s::r,o,w=>by
  unfold Cs
  have:=Ry (m:=m) (n:=n) r (s.1+1) (s.2+1)
  have h2:(HS o w s).length≤1:=by unfold HS;split<;>simp
  rw[List.length_append,List.length_cons]
  omega
theorem UL{a b:Bs}(ha:Df a=0)(hb:Df b=0):(CT a b).length≤1000000:=by
 have h1:=Ry (m:=((lnF a).length:Nat)) (n:=((lnF b).length:Nat)) (B8 (lnF a) (lnF b) 0 0) 0 0
 have h2:=(Qt ha hb).2.2.2.1
 have h3:=(Je ha).1
 unfold Ef at h2
 unfold CT
 omega
def HI(P:Pg):Prop:=∀x:Bs×Bs,x.1.length≤140737488351232→x.2.length≤140737488351232→Fn P zS8 Br x fun(d:Int×(Int×Int)) _=>d=Oc x.1 x.2
theorem XB(h:Has P E6)(hB:GC P)(hS:PK P):HI P:=by
 rintro⟨a,b⟩ ha hb
 dsimp only at ha hb
 refine Oe h ?_
 unfold JN
 dsimp only
 refine(hB (a,b) ha hb).to ?_
 rintro(d:List BU×Int) _ hd
 have hd:d=if Df a=0∧Df b=0 then(CT a b,0)else([],1):=hd
 unfold Oc
 by_cases h1:Df a=0∧Df b=0
 ·rw[if_pos h1]at hd⊢
  subst hd
  obtain⟨s1,s2,s3,_⟩:=Qt h1.1 h1.2
  refine⟨fun hb=>absurd hb (by simp),fun _=>(hS (CT a b) (UL h1.1 h1.2) s3).to ?_⟩
  rintro(d:Int×Int) _ hd
  have hd:d=(Gt (CT a b),GR (CT a b)):=hd
  rw[hd,s1,s2]
 ·rw[if_neg h1]at hd⊢
  subst hd
  exact⟨fun _=>rfl,fun hb=>absurd hb (by simp)⟩
theorem Xl(a b:Bs):Ef a b=Ef b a:=by
 have h1:=UU _ (lnF a) (lnF b) 0 0 (Nat.le_refl _)
 have h2:=UU _ (lnF b) (lnF a) 0 0 (Nat.le_refl _)
 rw[WE (lnF b) (lnF a)]at h2
 unfold Ef
 omega
end Go.VS

/- StatShortest, from what the walked functions answer. -/
set_option linter.unusedVariables false
set_option linter.unusedSimpArgs false
namespace Go.VS
variable{P:Pg}
theorem HI.at(h:HI P){a b:Bs}(ha:a.length≤140737488351232)(hb:b.length≤140737488351232){K:Int×(Int×Int)→Unit→Prop}(hk:K (Oc a b) ()):Fn P zS8 Br (a,b) K:=
 (h (a,b) ha hb).to fun(d:Int×(Int×Int)) _ hd=>by
  have hd:d=Oc a b:=hd
  rw[hd]
  exact hk
theorem GC.at(h:GC P){a b:Bs}(ha:Df a=0)(hb:Df b=0)(la:a.length≤140737488351232)(lb:b.length≤140737488351232){K:List BU×Int→Unit→Prop}(hk:K (CT a b,0) ()):Fn P zS7 AQ (a,b) K:=
 (h (a,b) la lb).to fun(d:List BU×Int) _ hd=>by
  have hd:d=if Df a=0∧Df b=0 then(CT a b,0)else([],1):=hd
  rw[hd,if_pos ⟨ha,hb⟩]
  exact hk
theorem T2{l:List BU}{k:Nat}{d:BU}(h:k<l.length):Gt (l.take (k+1))+GR (l.take (k+1))=Gt (l.take k)+GR (l.take k)+(l.getD k d).2.1+(l.getD k d).2.2.2:=by
 have h1:=K3 (f:=fun c:BU=>c.2.1) (d:=d) h
 have h2:=K3 (f:=fun c:BU=>c.2.2.2) (d:=d) h
 unfold Gt GR
 omega
theorem Mn(h:Has P Ca)(hB:PH P)(hN:MF P)(hC:HI P)(hS:GC P)(hL:G7 P)(hAw:Fz P)(x:List Int×Bs):
  Fn P ZV AK x fun(d:Bool) _=>d=true:=by
 obtain⟨raw,s⟩:=x
 refine HF h ?_
 unfold EU
 dsimp only
 refine⟨fun _=>hAw.to fun(d:Bool) _ hd=>hd,fun hc=>?_⟩
 have hs:=of_decide_eq_false hc
 refine(hB (raw,(0,(9,4))) ⟨Int.le_refl 0,(by decide:(0:Int)≤1000000)⟩ ⟨(by decide:(0:Int)≤9),(by decide:(9:Int)≤100)⟩ ⟨(by decide:(1:Int)≤4),(by decide:(4:Int)≤100000)⟩).to ?_
 rintro(a:Bs) _ ha
 have ha:a.length≤400:=ha
 refine(hN (a,(raw,100)) (by dsimp only;omega) ⟨(by decide:(0:Int)≤100),(by decide:(100:Int)≤1000000)⟩).to ?_
 rintro(b:Bs) _ hb
 have hb:b.length≤5*a.length:=hb
 have hLb:∀j,(List.getD ([a,b,s]:List (List UInt8)) j []).length≤4096:=fun j=>by
  rw[List.getD_eq_getElem?_getD]
  cases hj:([a,b,s]:List (List UInt8))[j]?with
  |none=>exact Nat.zero_le _
  |some t=>
   have:=List.mem_of_getElem? hj
   simp only[List.mem_cons,List.not_mem_nil,or_false]at this
   rw[Option.getD_some]
   rcases this with rfl|rfl|rfl<;>omega
 have hlen:([a,b,s]:List (List UInt8)).length=3:=rfl
 generalize([a,b,s]:List (List UInt8))=L at hLb hlen⊢
 refine Av.mid (fun _=>True) ?_ fun _ _=>hAw.to fun(d:Bool) _ hd=>hd
 refine DD.of (fun q=>0≤q.2∧q.2≤3) (fun q=>(3 -q.2).toNat) ⟨Int.le_refl _,(by decide:(0:Int)≤3)⟩ ?_
 rintro⟨q,i⟩ ⟨i0,i1⟩
 dsimp only at i0 i1⊢
 refine⟨fun hi=>?_,fun _=>trivial⟩
 have hi:=of_decide_eq_true hi
 have hi2:i.toNat<L.length:=by omega
 have hi3:i<((L.length:Nat):Int):=by omega
 refine Av.mid (fun _=>True) ?_ fun _ _=>by rw[w64 (by omega) (by omega)];exact⟨⟨by omega,by omega⟩,by omega⟩
 refine Av.mid (fun _=>True) ?_ fun _ _=>trivial
 refine DD.of (fun q=>0≤q.2∧q.2≤3) (fun q=>(3 -q.2).toNat) ⟨Int.le_refl _,(by decide:(0:Int)≤3)⟩ ?_
 rintro⟨q',j⟩ ⟨j0,j1⟩
 dsimp only at j0 j1⊢
 refine⟨fun hj=>?_,fun _=>trivial⟩
 have hj:=of_decide_eq_true hj
 have hj2:j.toNat<L.length:=by omega
 have hj3:j<((L.length:Nat):Int):=by omega
 have hli:=hLb i.toNat
 have hlj:=hLb j.toNat
 have ci:=OM hli
 have cj:=OM hlj
 have e1:Oc (L.getD i.toNat []) (L.getD j.toNat [])=(((lnF (L.getD j.toNat [])).length:Int) -(Ef (L.getD i.toNat []) (L.getD j.toNat []):Int),(((lnF (L.getD i.toNat [])).length:Int) -(Ef (L.getD i.toNat []) (L.getD j.toNat []):Int),0)):=by unfold Oc;rw[if_pos ⟨ci,cj⟩]
 have e2:Oc (L.getD j.toNat []) (L.getD i.toNat [])=(((lnF (L.getD i.toNat [])).length:Int) -(Ef (L.getD i.toNat []) (L.getD j.toNat []):Int),(((lnF (L.getD j.toNat [])).length:Int) -(Ef (L.getD i.toNat []) (L.getD j.toNat []):Int),0)):=by unfold Oc;rw[if_pos ⟨cj,ci⟩,Xl]
 obtain⟨t1,t2,t3,t4,t5⟩:=Qt ci cj
 have t6:=UL ci cj
 have hAt:(L.getD i.toNat []).length≤140737488351232:=Nat.le_trans hli (by decide)
 have hBt:(L.getD j.toNat []).length≤140737488351232:=Nat.le_trans hlj (by decide)
 have lA:=(Je ci).1
 have lB:=(Je cj).1
 have hAl:(L.getD i.toNat []).length≤100000000:=Nat.le_trans hli (by decide)
 have hBl:(L.getD j.toNat []).length≤100000000:=Nat.le_trans hlj (by decide)
 refine Av.mid (fun _=>True) ?_ fun _ _=>by rw[w64 (by omega) (by omega)];exact⟨⟨by omega,by omega⟩,by omega⟩
 refine Av.mid (fun d=>d=Oc (L.getD i.toNat []) (L.getD j.toNat [])) ⟨⟨i0,hi3⟩,hi2,⟨j0,hj3⟩,hj2,hC.at hAt hBt ?_,trivial⟩ ?_
 ·(repeat' apply And.intro)<;>first|exact True.intro|rfl
 rintro d rfl
 refine Av.mid (fun d=>d=Oc (L.getD j.toNat []) (L.getD i.toNat [])) ⟨⟨j0,hj3⟩,hj2,⟨i0,hi3⟩,hi2,hC.at hBt hAt ?_,trivial⟩ ?_
 ·(repeat' apply And.intro)<;>first|exact True.intro|rfl
 rintro d rfl
 refine Av.mid (fun d=>d=(CT (L.getD i.toNat []) (L.getD j.toNat []),0)) ⟨⟨i0,hi3⟩,hi2,⟨j0,hj3⟩,hj2,hS.at ci cj hAt hBt ?_,trivial⟩ ?_
 ·(repeat' apply And.intro)<;>first|exact True.intro|rfl
 rintro d rfl
 rw[e1,e2]
 dsimp only
 refine Av.mid (fun n=>n=Gt (CT (L.getD i.toNat []) (L.getD j.toNat []))+GR (CT (L.getD i.toNat []) (L.getD j.toNat []))) ?_ ?_
 ·refine DD.of (fun q=>(0≤q.2∧q.2≤(CT (L.getD i.toNat []) (L.getD j.toNat [])).length)∧q.1=Gt ((CT (L.getD i.toNat []) (L.getD j.toNat [])).take q.2.toNat)+GR ((CT (L.getD i.toNat []) (L.getD j.toNat [])).take q.2.toNat)) (fun q=>((CT (L.getD i.toNat []) (L.getD j.toNat [])).length -q.2).toNat) ⟨⟨Int.le_refl _,Int.natCast_nonneg _⟩,rfl⟩ ?_
  rintro⟨n,k⟩ ⟨⟨k0,k1⟩,hn⟩
  dsimp only at k0 k1 hn⊢
  refine⟨fun hk=>?_,fun hk=>?_⟩
  ·have hk:=of_decide_eq_true hk
   have hk2:k.toNat<(CT (L.getD i.toNat []) (L.getD j.toNat [])).length:=by omega
   have hc:=t3 _ (Rk (d:=Gk) hk2)
   have hnx:=T2 (d:=Gk) hk2
   have bo:=NZ (f:=fun c:BU=>c.2.1) (B:=4096) (l:=(CT (L.getD i.toNat []) (L.getD j.toNat [])).take k.toNat) fun c hc=>(t3 c (List.mem_of_mem_take hc)).1
   have bn:=NZ (f:=fun c:BU=>c.2.2.2) (B:=4096) (l:=(CT (L.getD i.toNat []) (L.getD j.toNat [])).take k.toNat) fun c hc=>(t3 c (List.mem_of_mem_take hc)).2
   have ltk:((CT (L.getD i.toNat []) (L.getD j.toNat [])).take k.toNat).length=k.toNat:=by rw[List.length_take];omega
   rw[ltk]at bo bn
   have bo:0≤Gt ((CT (L.getD i.toNat []) (L.getD j.toNat [])).take k.toNat)∧Gt ((CT (L.getD i.toNat []) (L.getD j.toNat [])).take k.toNat)≤4096*(k.toNat:Int):=bo
   have bn:0≤GR ((CT (L.getD i.toNat []) (L.getD j.toNat [])).take k.toNat)∧GR ((CT (L.getD i.toNat []) (L.getD j.toNat [])).take k.toNat)≤4096*(k.toNat:Int):=bn
   refine Av.mid (fun n=>n=Gt ((CT (L.getD i.toNat []) (L.getD j.toNat [])).take (k.toNat+1))+GR ((CT (L.getD i.toNat []) (L.getD j.toNat [])).take (k.toNat+1))) ?_ fun n hn=>by
    rw[w64 (by omega) (by omega),hn]
    exact⟨⟨⟨by omega,by omega⟩,by rw[show(k+1).toNat=k.toNat+1 by omega]⟩,by omega⟩
   refine Av.mid (fun n=>n=Gt ((CT (L.getD i.toNat []) (L.getD j.toNat [])).take (k.toNat+1))+GR ((CT (L.getD i.toNat []) (L.getD j.toNat [])).take (k.toNat+1))) ⟨⟨k0,hk⟩,hk2,⟨k0,hk⟩,hk2,?_,trivial⟩ fun _ h=>h
   have e3:IntKind.i64.wrap (n+((CT (L.getD i.toNat []) (L.getD j.toNat [])).getD k.toNat Gk).2.1)=n+((CT (L.getD i.toNat []) (L.getD j.toNat [])).getD k.toNat Gk).2.1:=w64 (by omega) (by omega)
   rw[hnx,←hn,e3,w64 (by omega) (by omega)]
  ·have hk:=of_decide_eq_false hk
   rw[List.take_of_length_le (by omega)]at hn
   exact hn
 rintro n rfl
 have h00:((0:Int) !=0)=false:=by decide
 have q1:∀z:Int,(z !=z)=false:=fun z=>by simp
 have q2:(IntKind.i64.wrap (((lnF (L.getD j.toNat [])).length:Int) -(Ef (L.getD i.toNat []) (L.getD j.toNat []):Int)+(((lnF (L.getD i.toNat [])).length:Int) -(Ef (L.getD i.toNat []) (L.getD j.toNat []):Int))) !=Gt (CT (L.getD i.toNat []) (L.getD j.toNat []))+GR (CT (L.getD i.toNat []) (L.getD j.toNat [])))=false:=by
  rw[w64 (by omega) (by omega),t1,t2]
  have:((lnF (L.getD j.toNat [])).length:Int) -(Ef (L.getD i.toNat []) (L.getD j.toNat []):Int)+(((lnF (L.getD i.toNat [])).length:Int) -(Ef (L.getD i.toNat []) (L.getD j.toNat []):Int))=((lnF (L.getD i.toNat [])).length:Int) -(Ef (L.getD i.toNat []) (L.getD j.toNat []):Int)+(((lnF (L.getD j.toNat [])).length:Int) -(Ef (L.getD i.toNat []) (L.getD j.toNat []):Int)):=by omega
  rw[this]
  exact q1 _
 simp only[h00,q1,q2,cond_false]
 have hfin:cond (cond (cond false true ((IntKind.i64.wrap (((lnF (L.getD j.toNat [])).length:Int) -(Ef (L.getD i.toNat []) (L.getD j.toNat []):Int) -(((lnF (L.getD i.toNat [])).length:Int) -(Ef (L.getD i.toNat []) (L.getD j.toNat []):Int)))) !=(IntKind.i64.wrap (((lnF (L.getD j.toNat [])).length:Int) -((lnF (L.getD i.toNat [])).length:Int))))) true (decide (((lnF (L.getD j.toNat [])).length:Int) -(Ef (L.getD i.toNat []) (L.getD j.toNat []):Int)<0))) true (decide (((lnF (L.getD i.toNat [])).length:Int) -(Ef (L.getD i.toNat []) (L.getD j.toNat []):Int)<0))=false:=by
  have:((lnF (L.getD j.toNat [])).length:Int) -(Ef (L.getD i.toNat []) (L.getD j.toNat []):Int) -(((lnF (L.getD i.toNat [])).length:Int) -(Ef (L.getD i.toNat []) (L.getD j.toNat []):Int))=((lnF (L.getD j.toNat [])).length:Int) -((lnF (L.getD i.toNat [])).length:Int):=by omega
  rw[this,q1,decide_eq_false (by omega),decide_eq_false (by omega)]
  rfl
 refine Av.mid (fun d=>d=false) ⟨fun hb=>absurd hb (by decide),fun _=>⟨⟨j0,hj3⟩,hj2,⟨i0,hi3⟩,?_⟩⟩ fun d hd=>⟨fun hb=>(by rw[hd]at hb;cases hb),fun _=>trivial⟩
 have lnA:∀{K:List Bs→Unit→Prop},K (lnF (L.getD i.toNat [])) ()→Fn P zS1 AJ (L.getD i.toNat []) K:=fun{K} hk=>(hL (L.getD i.toNat []) hAl).to fun(d:List Bs) _ hd=>by
  have hd:d=lnF (L.getD i.toNat []):=hd
  rw[hd];exact hk
 have lnB:∀{K:List Bs→Unit→Prop},K (lnF (L.getD j.toNat [])) ()→Fn P zS1 AJ (L.getD j.toNat []) K:=fun{K} hk=>(hL (L.getD j.toNat []) hBl).to fun(d:List Bs) _ hd=>by
  have hd:d=lnF (L.getD j.toNat []):=hd
  rw[hd];exact hk
 exact⟨lnB ⟨hi2,lnA hfin,trivial⟩,⟨hi2,lnB ⟨lnA hfin,trivial⟩,trivial⟩,trivial⟩
end Go.VS
