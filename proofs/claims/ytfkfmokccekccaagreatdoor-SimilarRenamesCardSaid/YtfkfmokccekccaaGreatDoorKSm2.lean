import Derived.Test.YtfkfmokccekccaaGreatDoorKSm1
import Derived.Test.YtfkfmokccekccaaGreatDoorKSm0
/- The statements about how alike two blobs are. -/
set_option linter.unusedVariables false
set_option linter.unusedSimpArgs false
namespace Go.VS
variable{P:Pg}
def MZ(P:Pg):Prop:=∀s:Bs,s.length≤140737488351232→Fn P AcD DQ s fun(d:List Bs×Int) _=>d=if B6 s=0 then(lnF s,0)else([],1)
theorem Acn(h:Has P He)(hC:HB P)(hL:IV P):MZ P:=by
 intro s hs
 refine UO h ?_
 unfold OI
 refine(hC s hs).to ?_
 rintro(d:Int) _ hd
 have hd:d=B6 s:=hd
 subst hd
 refine⟨fun hb=>?_,fun hb=>?_⟩
 ·rw[if_neg (by simpa using hb)]
 ·have hb:B6 s=0:=by simpa using hb
  rw[if_pos hb]
  have hs2:s.length≤1048576:=by
   unfold B6 at hb
   split at hb
   ·cases hb
   ·omega
  refine(hL s (by omega)).to ?_
  rintro(d:List Bs) _ hd
  have hd:d=lnF s:=hd
  rw[hd]
def Apj(P:Pg):Prop:=∀x:List Bs×Bs,x.1.length≤1000000→Fn P zS3 Aob x fun(d:Int) _=>d=((x.1.count x.2:Nat):Int)
theorem Ast(h:Has P AoI):Apj P:=by
 rintro⟨l,s⟩ hl
 dsimp only at hl
 refine Ap8 h ?_
 unfold Apl
 dsimp only
 refine Ac.mid (fun d=>d=((l.count s:Nat):Int)) ?_ fun _ h=>h
 refine Au.of (fun q=>(0≤q.2∧q.2≤l.length)∧q.1=(((l.take q.2.toNat).count s:Nat):Int)) (fun q=>(l.length -q.2).toNat) ⟨⟨Int.le_refl _,Int.natCast_nonneg _⟩,rfl⟩ ?_
 rintro⟨c,i⟩ ⟨⟨i0,i1⟩,hc⟩
 dsimp only at i0 i1 hc⊢
 have hcl:(l.take i.toNat).count s≤l.length:=Nat.le_trans List.count_le_length (by rw[List.length_take];omega)
 refine⟨fun hi=>?_,fun hi=>?_⟩
 ·have hi:=of_decide_eq_true hi
  have hi2:i.toNat<l.length:=by omega
  have hnx:(l.take (i.toNat+1)).count s=(l.take i.toNat).count s+if l.getD i.toNat []=s then 1 else 0:=by
   rw[List.take_add_one,List.getElem?_eq_getElem hi2,List.count_append,List.getD_eq_getElem?_getD,List.getElem?_eq_getElem hi2]
   simp only[Option.toList_some,Option.getD_some,List.count_singleton,beq_iff_eq]
  refine Ac.mid (fun d=>d=(((l.take (i.toNat+1)).count s:Nat):Int)) ⟨⟨i0,hi⟩,hi2,?_⟩ ?_
  ·refine Ac.mid (fun d=>d=(((l.take (i.toNat+1)).count s:Nat):Int)) ⟨fun hb=>?_,fun hb=>?_⟩ fun _ h=>h
   ·rw[w64 (by omega) (by omega),hnx,if_pos (by simpa using hb),hc]
    rfl
   ·rw[hnx,if_neg (by simpa using hb),hc]
    rfl
  ·rintro d rfl
   rw[w64 (by omega) (by omega)]
   exact⟨⟨⟨by omega,by omega⟩,by rw[show(i+1).toNat=i.toNat+1 by omega]⟩,by omega⟩
 ·have hi:=of_decide_eq_false hi
  rw[hc,List.take_of_length_le (by omega)]
theorem Apj.at(h:Apj P){l:List Bs}{s:Bs}(hl:l.length≤1000000){K:Int→Unit→Prop}(hk:K ((l.count s:Nat):Int) ()):Fn P zS3 Aob (l,s) K:=
 (h (l,s) hl).to fun(d:Int) _ hd=>by
  have hd:d=((l.count s:Nat):Int):=hd
  subst hd
  exact hk
def foF(x:List Bs):Nat→List Bs
 |0=>[]
 |k+1=>if x.getD k []∈x.take k then foF x k else x.getD k []::foF x k
theorem AqH(x:List Bs)(t:Bs):∀k,k≤x.length→(t∈foF x k↔t∈x.take k)
 |0,_=>by simp[foF]
 |k+1,hk=>by
  have ih:=AqH x t k (by omega)
  have hg:x.take (k+1)=x.take k++[x.getD k []]:=by
   rw[List.take_add_one,List.getElem?_eq_getElem (by omega),List.getD_eq_getElem?_getD,List.getElem?_eq_getElem (by omega)]
   rfl
  rw[foF,hg,List.mem_append,List.mem_singleton]
  split
  ·rename_i h
   rw[ih]
   exact⟨.inl,fun h2=>h2.elim id fun e=>e▸h⟩
  ·rw[List.mem_cons,ih]
   exact⟨fun h2=>h2.elim .inr .inl,fun h2=>h2.elim .inr .inl⟩
theorem Ap0(x:List Bs):∀k,k≤x.length→(foF x k).Nodup
 |0,_=>List.nodup_nil
 |k+1,hk=>by
  rw[foF]
  split
  ·exact Ap0 x k (by omega)
  ·rename_i h
   exact List.nodup_cons.2 ⟨fun h2=>h ((AqH x _ k (by omega)).1 h2),Ap0 x k (by omega)⟩
theorem Aq3(x y:List Bs):∀{l m:List Bs},l.Nodup→m.Nodup→(∀t,t∈l↔t∈m)→AoM x y l=AoM x y m
 |[],m,_,_,h=>by
  cases m with
  |nil=>rfl
  |cons a m=>have:=(h a).2 (List.mem_cons_self ..);cases this
 |a::l,m,hl,hm,h=>by
  have hl2:=List.nodup_cons.1 hl
  rw[ApD x y ((h a).1 (List.mem_cons_self ..)),AoM,Aq3 x y hl2.2 (hm.erase a) fun t=>?_]
  rw[hm.mem_erase_iff,←h t,List.mem_cons]
  exact⟨fun ht=>⟨fun e=>hl2.1 (e▸ht),.inr ht⟩,fun⟨h1,h2⟩=>h2.elim (fun e=>absurd e h1) id⟩
def AoQ(P:Pg):Prop:=∀x:Bs×Bs,x.1.length≤140737488351232→x.2.length≤140737488351232→Fn P AcJ Aop x fun(d:Int×Int) _=>d=Aor x.1 x.2
theorem ArN(h:Has P AoE)(hS:MZ P)(hM:Apj P):AoQ P:=by
 rintro⟨a,b⟩ ha hb
 dsimp only at ha hb
 refine ApX h ?_
 unfold Apf
 dsimp only
 refine(hS a ha).to ?_
 rintro(d:List Bs×Int) _ hd
 have hd:d=if B6 a=0 then(lnF a,0)else([],1):=hd
 unfold Aor
 by_cases hca:B6 a=0
 ·rw[if_pos hca]at hd
  subst hd
  refine⟨fun h=>absurd h (by simp),fun _=>?_⟩
  rw[if_neg (by simp[hca])]
  refine(hS b hb).to ?_
  rintro(d:List Bs×Int) _ hd
  have hd:d=if B6 b=0 then(lnF b,0)else([],1):=hd
  by_cases hcb:B6 b=0
  ·rw[if_pos hcb]at hd
   subst hd
   refine⟨fun h=>absurd h (by simp),fun _=>?_⟩
   rw[if_neg (by simp[hcb])]
   dsimp only
   refine⟨fun he=>by rw[if_pos (by simpa using he)],fun he=>?_⟩
   have hab:a≠b:=by simpa using he
   rw[if_neg hab]
   have ha1:a.length≤1048576∧(lnF a).length≤4096:=by unfold B6 at hca;split at hca;cases hca;omega
   have hb1:b.length≤1048576∧(lnF b).length≤4096:=by unfold B6 at hcb;split at hcb;cases hcb;omega
   have hlm:∀s∈lnF a,s.length≤1048576:=fun s hs=>Nat.le_trans (AkF hs) ha1.1
   have hcm:=Aqi (y:=lnF b) ha1.2 hlm
   refine Ac.mid (fun c=>c=AoX (lnF a) (lnF b)) ?_ ?_
   ·obtain⟨_,hx4⟩:=ha1
    obtain⟨_,hy4⟩:=hb1
    clear hcm hca hcb he hab
    generalize lnF a=x at hx4 hlm⊢
    generalize lnF b=y at hy4⊢
    have hpre:∀k,k≤x.length→0≤AoM x y (foF x k)∧AoM x y (foF x k)≤17592186044416:=fun k hk=>by
     have h1:=AoV (y:=y) hx4 (l:=foF x k) fun s hs=>hlm s (List.mem_of_mem_take ((AqH x s k hk).1 hs))
     have h2:(foF x k).length≤k:=by
      clear h1 hk
      induction k with
      |zero=>exact Nat.le_refl _
      |succ k ih=>rw[foF];split;omega;rw[List.length_cons];omega
     omega
    refine Au.of (fun q=>(0≤q.2∧q.2≤x.length)∧q.1=AoM x y (foF x q.2.toNat)) (fun q=>(x.length -q.2).toNat) ⟨⟨Int.le_refl _,Int.natCast_nonneg _⟩,rfl⟩ ?_
    rintro⟨c,i⟩ ⟨⟨i0,i1⟩,hc⟩
    dsimp only at i0 i1 hc⊢
    refine⟨fun hi=>?_,fun hi=>?_⟩
    ·have hi:=of_decide_eq_true hi
     have hi2:i.toNat<x.length:=by omega
     have hp1:=hpre i.toNat (by omega)
     have hp2:=hpre (i.toNat+1) (by omega)
     refine Ac.mid (fun d=>d=AoM x y (foF x (i.toNat+1))) ?_ ?_
     ·refine Ac.mid (fun d=>d=!decide (x.getD i.toNat []∈x.take i.toNat)) ⟨⟨i0,by omega⟩,⟨i0,hi⟩,hi2,⟨by omega,hM.at (by rw[List.length_take];omega) ?_⟩,trivial⟩ ?_
      ·show((((x.take i.toNat).count (x.getD i.toNat []):Nat):Int)==0)=_
       by_cases hm:x.getD i.toNat []∈x.take i.toNat
       ·have:=List.count_pos_iff.2 hm
        rw[decide_eq_true hm,beq_eq_false_iff_ne.2 (by omega)]
        rfl
       ·rw[decide_eq_false hm,List.count_eq_zero_of_not_mem hm]
        rfl
      ·rintro d rfl
       refine Ac.mid (fun d=>d=AoM x y (foF x (i.toNat+1))) ⟨fun hb=>?_,fun hb=>?_⟩ fun _ h=>h
       ·have hm:x.getD i.toNat []∉x.take i.toNat:=by simpa using hb
        have hs2:AoM x y (foF x (i.toNat+1))=Apg x y (x.getD i.toNat [])+AoM x y (foF x i.toNat):=by rw[foF,if_neg hm,AoM]
        have htb:=Api (y:=y) hx4 (hlm (x.getD i.toNat []) (A7 hi2))
        have hfin:IntKind.i64.wrap (c+IntKind.i64.wrap ((if((y.count (x.getD i.toNat []):Nat):Int)<((x.count (x.getD i.toNat []):Nat):Int)then((y.count (x.getD i.toNat []):Nat):Int)else((x.count (x.getD i.toNat []):Nat):Int))*(((x.getD i.toNat []).length:Nat):Int)))=AoM x y (foF x (i.toNat+1)):=by
         show IntKind.i64.wrap (c+IntKind.i64.wrap (Apg x y (x.getD i.toNat [])))=_
         rw[w64 (n:=Apg x y (x.getD i.toNat [])) (by omega) (by omega),w64 (by omega) (by omega),hs2,hc]
         omega
        refine Ac.mid (fun d=>d=AoM x y (foF x (i.toNat+1))) ?_ fun _ h=>h
        repeat' (first|exact trivial|exact hi2|exact i0|exact hi|exact hfin|apply And.intro|(refine hM.at (by omega) ?_))
       ·have hm:x.getD i.toNat []∈x.take i.toNat:=by simpa using hb
        rw[foF,if_pos hm]
        exact hc
     ·rintro d rfl
      rw[w64 (by omega) (by omega)]
      exact⟨⟨⟨by omega,by omega⟩,by rw[show(i+1).toNat=i.toNat+1 by omega]⟩,by omega⟩
    ·have hi:=of_decide_eq_false hi
     rw[hc,show i.toNat=x.length by omega]
     exact Aq3 x y (Ap0 x _ (Nat.le_refl _)) (Apq x) fun t=>by rw[AqH x t _ (Nat.le_refl _),Ao8,List.take_length]
   ·rintro c rfl
    have hmx:ApL a b≠0:=fun h=>hab (by
     unfold ApL at h
     have h2:a.length=0∧b.length=0:=by split at h<;>omega
     rw[List.length_eq_zero_iff.1 h2.1,List.length_eq_zero_iff.1 h2.2])
    have hm0:0<ApL a b:=by unfold ApL at hmx⊢;split at hmx<;>split<;>omega
    refine⟨hmx,?_⟩
    have hr:IntKind.i64.wrap (Int.tdiv (IntKind.i64.wrap (100*AoX (lnF a) (lnF b))) (ApL a b))=AqT a b:=by
     rw[w64 (n:=100*AoX (lnF a) (lnF b)) (by omega) (by omega)]
     unfold AqT
     rw[Int.tdiv_eq_ediv_of_nonneg (by omega)]
     have h1:0≤100*AoX (lnF a) (lnF b)/ApL a b:=Int.ediv_nonneg (by omega) (by omega)
     have h2:100*AoX (lnF a) (lnF b)/ApL a b≤100*AoX (lnF a) (lnF b):=Int.ediv_le_self _ (by omega)
     exact w64 (by omega) (by omega)
    show((if 99<IntKind.i64.wrap (Int.tdiv (IntKind.i64.wrap (100*AoX (lnF a) (lnF b))) (ApL a b))then(99:Int)else IntKind.i64.wrap (Int.tdiv (IntKind.i64.wrap (100*AoX (lnF a) (lnF b))) (ApL a b))),(0:Int))=_
    rw[hr]
  ·rw[if_neg hcb]at hd
   subst hd
   exact⟨fun _=>by rw[if_pos (by simpa using hcb)],fun h=>absurd h (by simp)⟩
 ·rw[if_neg hca]at hd
  subst hd
  exact⟨fun _=>by rw[if_pos (by simpa using hca)],fun h=>absurd h (by simp)⟩
end Go.VS

/- Scores: the statements. -/
set_option linter.unusedVariables false
set_option linter.unusedSimpArgs false
namespace Go.VS
variable{P:Pg}
theorem ApB:∀(s acc:Bs),(lnN acc s).length≤s.length
 |[],acc=>by rw[lnN];exact Nat.le_refl _
 |b::r,acc=>by
  rw[lnN]
  split
  ·have:=ApB r [];simp only[List.length_cons];omega
  ·have:=ApB r (acc++[b]);simp only[List.length_cons];omega
def Aqw(P:Pg):Prop:=∀x:List Int×(Int×(Int×Int)),(0≤x.2.1∧x.2.1≤1000000)→(0≤x.2.2.1∧x.2.2.1≤100)→(1≤x.2.2.2∧x.2.2.2≤100000)→Fn P zS0 EG x fun(d:Bs) _=>d.length≤400
theorem Asr(h:Has P LL)(hA:OB P)(hM:LV P)(hL:ApM P):Aqw P:=by
 rintro⟨raw,fr,mx,kinds⟩ ⟨f0,f1⟩ ⟨m0,m1⟩ ⟨k0,k1⟩
 dsimp only at f0 f1 m0 m1 k0 k1
 refine AaN h ?_
 unfold Uf
 dsimp only
 rw[w64 (n:=mx+1) (by omega) (by omega),w64 (n:=fr+1) (by omega) (by omega),w64 (n:=fr+90) (by omega) (by omega)]
 refine hA.at f0 (hM.at (by omega) (by omega) ?_)
 have hr:=EU (a:=atF raw fr) (n:=mx+1) (by omega) (by omega)
 generalize G1 (atF raw fr) (mx+1)=m at hr⊢
 refine Ac.mid (fun d=>d.length≤400) ?_ fun d hd=>?_
 ·refine Au.of (fun q=>(0≤q.2∧q.2≤m)∧(q.1.length:Int)≤4*q.2) (fun q=>(m -q.2).toNat) ⟨⟨Int.le_refl _,hr.1⟩,by decide⟩ ?_
  rintro⟨s,i⟩ ⟨⟨i0,i1⟩,hs⟩
  dsimp only at i0 i1 hs⊢
  refine⟨fun hi=>?_,fun hi=>by omega⟩
  have hi:=of_decide_eq_true hi
  refine Ac.mid (fun d=>(d.length:Int)≤4*(i+1)) ?_ fun d hd=>?_
  ·rw[w64 (by omega) (by omega)]
   refine hA.at (by omega) (hM.at k0 (by omega) ((hL _).to ?_))
   rintro(ln:Bs) _ hln
   have hln:ln.length≤3:=hln
   refine⟨by omega,by rw[List.length_append];simp only[List.length_cons,List.length_nil];omega,?_⟩
   try dsimp only
   rw[List.length_append,List.length_append]
   simp only[List.length_cons,List.length_nil]
   omega
  ·rw[w64 (by omega) (by omega)]
   exact⟨⟨⟨by omega,by omega⟩,hd⟩,by omega⟩
 ·refine hA.at (by omega) ⟨by decide,fun hc=>?_,?_⟩
  ·rw[Bool.cond_eq_ite]at hc
   split at hc
   ·have h1:=of_decide_eq_true hc
    rw[w64 (by omega) (by omega)]
    omega
   ·cases hc
  ·refine Ac.mid (fun e=>e.length≤400) ⟨fun hc=>?_,fun _=>hd⟩ fun _ h=>h
   have h1:1<d.length:=by
    rw[Bool.cond_eq_ite]at hc
    split at hc
    ·rename_i h2
     rw[Bool.cond_eq_ite]at h2
     split at h2
     ·have:=of_decide_eq_true h2;omega
     ·cases h2
    ·cases hc
   rw[w64 (by omega) (by omega)]
   exact⟨⟨by omega,by omega⟩,(by first|(rw[List.length_take];omega)|(dsimp only;rw[List.length_take];omega))⟩
theorem AoR.at(h:AoR P){a b:Bs}(ha:a.length≤140737488351232)(hb:b.length≤140737488351232){K:Int×Int→Unit→Prop}(hk:K (Aor a b) ()):Fn P zS9 Aof (a,b) K:=
 (h (a,b) ha hb).to fun(d:Int×Int) _ hd=>by
  have hd:d=Aor a b:=hd
  subst hd
  exact hk
theorem AoQ.at(h:AoQ P){a b:Bs}(ha:a.length≤140737488351232)(hb:b.length≤140737488351232){K:Int×Int→Unit→Prop}(hk:K (Aor a b) ()):Fn P AcJ Aop (a,b) K:=
 (h (a,b) ha hb).to fun(d:Int×Int) _ hd=>by
  have hd:d=Aor a b:=hd
  subst hd
  exact hk
def AoK(P:Pg):Prop:=Fn P AcK Aoo () fun(d:Bool) _=>d=true
theorem Arm(h:Has P AoC)(hS:AoR P):AoK P:=by
 refine ApV h ?_
 unfold Apd
 refine hS.at (by decide) (by decide) (hS.at (by decide) (by decide) ?_)
 decide
theorem AoK.at(h:AoK P){K:Bool→Unit→Prop}(hk:K true ()):Fn P AcK Aoo () K:=
 Fn.to h fun(d:Bool) _ hd=>by
  have hd:d=true:=hd
  subst hd
  exact hk
end Go.VS

/- Scores are symmetric. -/
set_option linter.unusedVariables false
set_option linter.unusedSimpArgs false
namespace Go.VS
variable{P:Pg}
theorem ApY:∀(s acc:Bs),(lnN acc s).flatten.length≤acc.length+s.length
 |[],acc=>by rw[lnN];exact Nat.zero_le _
 |b::r,acc=>by
  rw[lnN]
  split
  ·have:=ApY r []
   simp only[List.flatten_cons,List.length_append,List.length_cons,List.length_nil]at this⊢
   omega
  ·have:=ApY r (acc++[b])
   simp only[List.length_append,List.length_cons,List.length_nil]at this⊢
   omega
def ApO(P:Pg):Prop:=∀x:Bs×(List Int×Int),x.1.length≤1000→(0≤x.2.2∧x.2.2≤1000000)→Fn P AcL IL x fun(d:Bs) _=>d.length≤5*x.1.length
theorem Asb(h:Has P LN)(hA:OB P)(hL:ApM P)(hN:IV P):ApO P:=by
 rintro⟨s,raw,fr⟩ hs ⟨f0,f1⟩
 dsimp only at hs f0 f1
 refine AaP h ?_
 unfold Uh
 dsimp only
 refine(hN s (by omega)).to ?_
 rintro(l:List Bs) _ hl
 have hl:l=lnF s:=hl
 have hlen:l.length≤s.length:=by rw[hl];exact ApB s []
 have hfl:l.flatten.length≤s.length:=by rw[hl];have:=ApY s [];simp only[List.length_nil]at this;unfold lnF;omega
 clear hl
 have hpre:∀k,k<l.length→(l.take (k+1)).flatten.length=(l.take k).flatten.length+(l.getD k []).length:=fun k hk=>by
  rw[List.take_add_one,List.getElem?_eq_getElem hk,List.flatten_append,List.length_append,List.getD_eq_getElem?_getD,List.getElem?_eq_getElem hk]
  simp
 have hle:∀k,(l.take k).flatten.length≤l.flatten.length:=fun k=>by
  have:l.flatten.length=(l.take k).flatten.length+(l.drop k).flatten.length:=by rw[←List.length_append,←List.flatten_append,List.take_append_drop]
  omega
 rw[w64 (n:=fr+40) (by omega) (by omega)]
 refine Ac.mid (fun d=>d.length≤5*s.length) ?_ fun _ h=>h
 refine Au.of (fun q=>(0≤q.2∧q.2≤l.length)∧(q.1.length:Int)≤4*q.2+((l.take q.2.toNat).flatten.length:Nat)) (fun q=>(l.length -q.2).toNat) ⟨⟨Int.le_refl _,Int.natCast_nonneg _⟩,by simp⟩ ?_
 rintro⟨d,i⟩ ⟨⟨i0,i1⟩,hd⟩
 dsimp only at i0 i1 hd⊢
 have hti:=hle i.toNat
 refine⟨fun hi=>?_,fun hi=>by omega⟩
 have hi:=of_decide_eq_true hi
 have hi2:i.toNat<l.length:=by omega
 have hp:=hpre i.toNat hi2
 have htj:=hle (i.toNat+1)
 refine Ac.mid (fun d=>(d.length:Int)≤4*(i+1)+((l.take (i.toNat+1)).flatten.length:Nat)) ?_ fun d hd=>?_
 ·rw[w64 (n:=fr+i) (by omega) (by omega),w64 (n:=fr+40+i) (by omega) (by omega)]
  refine hA.at (by omega) ⟨by decide,?_⟩
  refine Ac.mid (fun e=>(e.length:Int)≤4*i+((l.take i.toNat).flatten.length:Nat)+4) ⟨fun _=>by omega,fun _=>?_⟩ fun e he=>?_
  ·refine Ac.mid (fun e=>(e.length:Int)≤4*i+((l.take i.toNat).flatten.length:Nat)+4) ⟨fun _=>?_,fun _=>by omega⟩ fun _ h=>h
   refine hA.at (by omega) ((hL _).to ?_)
   rintro(ln:Bs) _ hln
   have hln:ln.length≤3:=hln
   refine⟨by omega,by rw[List.length_append];simp only[List.length_cons,List.length_nil];omega,?_⟩
   try dsimp only
   rw[List.length_append,List.length_append]
   simp only[List.length_cons,List.length_nil]
   omega
  ·refine⟨⟨i0,hi⟩,hi2,by omega,?_⟩
   try dsimp only
   rw[List.length_append]
   omega
 ·rw[w64 (by omega) (by omega),show(i+1).toNat=i.toNat+1 by omega]
  exact⟨⟨⟨by omega,by omega⟩,hd⟩,by omega⟩
end Go.VS

/- Pairs that are chosen one after the other, the best one first. -/
set_option linter.unusedVariables false
set_option linter.unusedSimpArgs false
namespace Go.VS
abbrev Aoc:=Bs×(Bs×Int)
def AoZ(x y:Aoc):Bool:=Op.bytesLess x.1 y.1||(decide (x.1=y.1)&&Op.bytesLess x.2.1 y.2.1)
def AoA(x y:Aoc):Bool:=decide (y.2.2<x.2.2)||(decide (x.2.2=y.2.2)&&AoZ x y)
def Aod(out:List Aoc)(r:Aoc):Bool:=out.any fun o=>decide (o.1=r.1)||decide (o.2.1=r.2.1)
def Aok(out:List Aoc)(r:Aoc):List Aoc:=if Aod out r=true then out else out++[r]
def Aov(out S:List Aoc):List Aoc:=S.foldl Aok out
theorem Are{x y:Aoc}(h:AoZ x y=true)(k:AoZ y x=true):False:=by
 unfold AoZ at h k
 simp only[Bool.or_eq_true,Bool.and_eq_true,decide_eq_true_eq]at h k
 rcases h with h|⟨e,h⟩
 ·rcases k with k|⟨e2,k⟩
  ·have:=HN h k
   rw[FV]at this
   cases this
  ·rw[e2,FV]at h
   cases h
 ·rcases k with k|⟨e2,k⟩
  ·rw[e,FV]at k
   cases k
  ·have:=HN h k
   rw[FV]at this
   cases this
theorem ApQ{x y:Aoc}(h:AoA x y=true)(k:AoA y x=true):False:=by
 unfold AoA at h k
 simp only[Bool.or_eq_true,Bool.and_eq_true,decide_eq_true_eq]at h k
 rcases h with h|⟨e,h⟩
 ·rcases k with k|⟨e2,k⟩<;>omega
 ·rcases k with k|⟨e2,k⟩
  ·omega
  ·exact Are h k
theorem ApR{x y:Aoc}(h:AoA x y=true):y.2.2≤x.2.2:=by
 unfold AoA at h
 simp only[Bool.or_eq_true,Bool.and_eq_true,decide_eq_true_eq]at h
 rcases h with h|h<;>omega
theorem Arf{x y:Aoc}(h:¬(x.1=y.1∧x.2.1=y.2.1)):AoZ x y=true∨AoZ y x=true:=by
 unfold AoZ
 simp only[Bool.or_eq_true,Bool.and_eq_true,decide_eq_true_eq]
 by_cases e:x.1=y.1
 ·rcases Qo (fun e2=>h ⟨e,e2⟩)with k|k
  ·exact .inl (.inr ⟨e,k⟩)
  ·exact .inr (.inr ⟨e.symm,k⟩)
 ·rcases Qo e with k|k
  ·exact .inl (.inl k)
  ·exact .inr (.inl k)
theorem ArR{out m:List Aoc}{r:Aoc}(h:Aod out r=true):Aod (out++m) r=true:=by
 unfold Aod at*
 rw[List.any_append,h]
 rfl
theorem ArT(out:List Aoc)(r:Aoc):Aod (out++[r]) r=true:=by
 unfold Aod
 rw[List.any_append]
 simp
theorem Apb{out:List Aoc}{r:Aoc}:Aod out r=true↔∃o∈out,o.1=r.1∨o.2.1=r.2.1:=by
 unfold Aod
 simp
theorem Ap5{out out':List Aoc}(h:∀t,t∈out↔t∈out')(r:Aoc):Aod out r=Aod out' r:=by
 have:Aod out r=true↔Aod out' r=true:=by
  rw[Apb,Apb]
  exact⟨fun⟨o,ho,k⟩=>⟨o,(h o).1 ho,k⟩,fun⟨o,ho,k⟩=>⟨o,(h o).2 ho,k⟩⟩
 cases h1:Aod out r<;>cases h2:Aod out' r<;>simp_all
theorem Apo:∀{S out:List Aoc},(∀r∈S,Aod out r=true)→Aov out S=out
 |[],_,_=>rfl
 |r::S,out,h=>by
  show Aov (Aok out r) S=out
  unfold Aok
  rw[if_pos (h r (List.mem_cons_self ..))]
  exact Apo fun x hx=>h x (List.mem_cons_of_mem _ hx)
theorem AqC(out A B:List Aoc):Aov out (A++B)=Aov (Aov out A) B:=by
 unfold Aov
 rw[List.foldl_append]
theorem ArY{A B out:List Aoc}{r:Aoc}(hA:∀x∈A,Aod out x=true)(hr:¬Aod out r=true):Aov out (A++r::B)=Aov (out++[r]) (A++r::B):=by
 rw[AqC,Apo hA,AqC,Apo fun x hx=>ArR (hA x hx)]
 show Aov (Aok out r) B=Aov (Aok (out++[r]) r) B
 unfold Aok
 rw[if_neg hr,if_pos (ArT out r)]
theorem Aps(p:Aoc→Bool):∀{S:List Aoc},(∃x∈S,p x=false)→∃A r B,S=A++r::B∧(∀x∈A,p x=true)∧p r=false
 |[],h=>by obtain⟨x,hx,_⟩:=h;cases hx
 |y::S,h=>by
  cases hy:p y with
  |false=>exact⟨[],y,S,rfl,fun x hx=>(nomatch hx),hy⟩
  |true=>
   obtain⟨x,hx,hp⟩:=h
   rcases List.mem_cons.1 hx with rfl|hx
   ·rw[hy]at hp;cases hp
   ·obtain⟨A,r,B,rfl,hA,hr⟩:=Aps p ⟨x,hx,hp⟩
    refine⟨y::A,r,B,rfl,fun z hz=>?_,hr⟩
    rcases List.mem_cons.1 hz with rfl|hz
    ·exact hy
    ·exact hA z hz
def zR:Aoc:=([],([],0))
def Aol(l:List Aoc):Aoc:=l.foldl (fun b r=>if b.2.2<r.2.2 then r else b) zR
theorem Aqf(l:List Aoc)(x:Aoc):Aol (l++[x])=if(Aol l).2.2<x.2.2 then x else Aol l:=by
 unfold Aol
 rw[List.foldl_append]
 rfl
theorem Aqg(l:List Aoc):(l.Pairwise fun x y=>AoZ x y=true)→(∀x∈l,0<x.2.2)→(l=[]∧Aol l=zR)∨(Aol l∈l∧∀x∈l,x=Aol l∨AoA (Aol l) x=true):=by
 suffices∀(n:Nat) (l:List Aoc),l.length=n→(l.Pairwise fun x y=>AoZ x y=true)→(∀x∈l,0<x.2.2)→(l=[]∧Aol l=zR)∨(Aol l∈l∧∀x∈l,x=Aol l∨AoA (Aol l) x=true)from this _ l rfl
 intro n
 induction n with
 |zero=>intro l hn _ _;exact .inl ⟨List.length_eq_zero_iff.1 hn,by rw[List.length_eq_zero_iff.1 hn];rfl⟩
 |succ n ih=>
  intro l hn hp hs
  have hne:l≠[]:=fun e=>by rw[e]at hn;cases hn
  obtain⟨m,x,rfl⟩:∃m x,l=m++[x]:=⟨l.dropLast,l.getLast hne,(List.dropLast_concat_getLast hne).symm⟩
  have hml:m.length=n:=by simpa using hn
  obtain⟨hp1,_,hp2⟩:=List.pairwise_append.1 hp
  have hx:=hs x (List.mem_append_right _ (List.mem_singleton_self _))
  rw[Aqf]
  right
  rcases ih m hml hp1 (fun y hy=>hs y (List.mem_append_left _ hy))with⟨rfl,hb⟩|⟨hb,hall⟩
  ·rw[hb,if_pos (by exact hx)]
   exact⟨by simp,fun y hy=>.inl (by simpa using hy)⟩
  ·by_cases hlt:(Aol m).2.2<x.2.2
   ·rw[if_pos hlt]
    refine⟨List.mem_append_right _ (List.mem_singleton_self _),fun y hy=>?_⟩
    rcases List.mem_append.1 hy with hy|hy
    ·right
     have:y.2.2≤(Aol m).2.2:=by
      rcases hall y hy with rfl|h
      ·exact Int.le_refl _
      ·exact ApR h
     unfold AoA
     rw[decide_eq_true (by omega),Bool.true_or]
    ·exact .inl (List.mem_singleton.1 hy)
   ·rw[if_neg hlt]
    refine⟨List.mem_append_left _ hb,fun y hy=>?_⟩
    rcases List.mem_append.1 hy with hy|hy
    ·exact hall y hy
    ·right
     rw[List.mem_singleton.1 hy]
     have hlx:=hp2 _ hb x (List.mem_singleton_self _)
     unfold AoA
     by_cases e:x.2.2<(Aol m).2.2
     ·rw[decide_eq_true e,Bool.true_or]
     ·rw[decide_eq_true (show(Aol m).2.2=x.2.2 by omega),hlx]
      simp
theorem Aq8{L S out:List Aoc}(hL:L.Pairwise fun x y=>AoZ x y=true)(hpos:∀x∈L,0<x.2.2)(hp:S.Perm L)(hS:S.Pairwise fun x y=>AoA x y=true):
  ((∀x∈S,Aod out x=true)∧Aol (L.filter fun r=>!Aod out r)=zR)∨∃A r B,S=A++r::B∧(∀x∈A,Aod out x=true)∧Aod out r=false∧Aol (L.filter fun r=>!Aod out r)=r:=by
 have hmem:∀x,x∈L.filter (fun r=>!Aod out r)↔x∈S∧Aod out x=false:=fun x=>by
  rw[List.mem_filter,hp.mem_iff,Bool.not_eq_true']
 rcases Aqg (L.filter fun r=>!Aod out r) (hL.sublist List.filter_sublist) (fun x hx=>hpos x (List.mem_filter.1 hx).1)with⟨h0,hz⟩|⟨hb,hall⟩
 ·refine .inl ⟨fun x hx=>?_,hz⟩
  cases hu:Aod out x with
  |true=>rfl
  |false=>
   have:=(hmem x).2 ⟨hx,hu⟩
   rw[h0]at this
   cases this
 ·right
  have hb2:=(hmem _).1 hb
  obtain⟨A,r,B,rfl,hA,hr⟩:=Aps (Aod out) ⟨_,hb2.1,hb2.2⟩
  refine⟨A,r,B,rfl,hA,hr,?_⟩
  obtain⟨_,hrB,_⟩:=List.pairwise_append.1 hS
  have hrB:=(List.pairwise_cons.1 hrB).1
  rcases hall r ((hmem r).2 ⟨List.mem_append_right _ (List.mem_cons_self ..),hr⟩)with e|hbr
  ·exact e.symm
  ·rcases List.mem_append.1 hb2.1 with h|h
   ·rw[hA _ h]at hb2;cases hb2.2
   ·rcases List.mem_cons.1 h with h|h
    ·exact h
    ·exact(ApQ hbr (hrB _ h)).elim
def ApP(d:List Aoc):Prop:=d.Pairwise fun x y=>x.1≠y.1∧x.2.1≠y.2.1
theorem Aq7{out:List Aoc}{r:Aoc}(h:ApP out):ApP (Aok out r):=by
 unfold Aok
 split
 ·exact h
 ·rename_i hr
  refine List.pairwise_append.2 ⟨h,List.pairwise_singleton _ _,fun x hx y hy=>?_⟩
  rw[List.mem_singleton.1 hy]
  exact⟨fun e=>hr (Apb.2 ⟨x,hx,.inl e⟩),fun e=>hr (Apb.2 ⟨x,hx,.inr e⟩)⟩
theorem Aqd:∀{S out:List Aoc},ApP out→ApP (Aov out S)
 |[],_,h=>h
 |r::S,out,h=>Aqd (S:=S) (Aq7 h)
def ApE(S d:List Aoc):Prop:=(d.Pairwise fun x y=>Op.bytesLess x.2.1 y.2.1=true)∧∀t,t∈d↔t∈Aov [] S
theorem Aq2:∀{l m:List Aoc},(l.Pairwise fun x y=>Op.bytesLess x.2.1 y.2.1=true)→(m.Pairwise fun x y=>Op.bytesLess x.2.1 y.2.1=true)→(∀t,t∈l↔t∈m)→l=m
 |[],[],_,_,_=>rfl
 |[],b::m,_,_,h=>nomatch (h b).2 (List.mem_cons_self ..)
 |a::l,[],_,_,h=>nomatch (h a).1 (List.mem_cons_self ..)
 |a::l,b::m,hl,hm,h=>by
  have hl2:=List.pairwise_cons.1 hl
  have hm2:=List.pairwise_cons.1 hm
  have hab:a=b:=by
   rcases List.mem_cons.1 ((h a).1 (List.mem_cons_self ..))with e|h1
   ·exact e
   ·rcases List.mem_cons.1 ((h b).2 (List.mem_cons_self ..))with e|h2
    ·exact e.symm
    ·have h3:=HN (hm2.1 a h1) (hl2.1 b h2)
     rw[FV]at h3
     cases h3
  subst hab
  rw[Aq2 hl2.2 hm2.2 fun t=>⟨fun ht=>?_,fun ht=>?_⟩]
  ·rcases List.mem_cons.1 ((h t).1 (List.mem_cons_of_mem _ ht))with e|h1
   ·have h3:=hl2.1 t ht
    rw[e,FV]at h3
    cases h3
   ·exact h1
  ·rcases List.mem_cons.1 ((h t).2 (List.mem_cons_of_mem _ ht))with e|h1
   ·have h3:=hm2.1 t ht
    rw[e,FV]at h3
    cases h3
   ·exact h1
theorem Ard{S d e:List Aoc}(hd:ApE S d)(he:ApE S e):d=e:=Aq2 hd.1 he.1 fun t=>(hd.2 t).trans (he.2 t).symm
theorem Arc{S d:List Aoc}(hp:d.Perm (Aov [] S))(hs:d.Pairwise fun x y=>Op.bytesLess y.2.1 x.2.1=false):ApE S d:=by
 refine⟨?_,fun t=>hp.mem_iff⟩
 have ha:ApP d:=hp.symm.pairwise (Aqd .nil) fun h=>⟨fun e=>h.1 e.symm,fun e=>h.2 e.symm⟩
 refine(hs.and ha).imp ?_
 rintro x y ⟨h1,_,h2⟩
 rcases Qo h2 with h3|h3
 ·exact h3
 ·rw[h3]at h1;cases h1
end Go.VS

/- Renamed files: what both sides answer. -/
set_option linter.unusedVariables false
set_option linter.unusedSimpArgs false
namespace Go.VS
variable{P:Pg}
def scR(a b:List Ao)(x y:Bz):Int:=(Aor (findF a x.1).1 (findF b y.1).1).1
def Aoq(a b:List Ao)(least:Int)(x:Bz)(l:List Bz):List Aoc:=l.filterMap fun y=>if y.2=1∧least≤scR a b x y then some (x.1,(y.1,scR a b x y))else none
def Aoi(a b:List Ao)(least:Int)(l D:List Bz):List Aoc:=l.flatMap fun x=>if x.2=2 then Aoq a b least x D else[]
theorem Aq4{α:Type}{l:List α}{k:Nat}{d:α}(h:k<l.length):l.take (k+1)=l.take k++[l.getD k d]:=by
 rw[List.take_add_one,List.getElem?_eq_getElem h,getD_eq h]
 rfl
theorem Apa{a b:List Ao}{least:Int}{x:Bz}{l:List Bz}{k:Nat}(h:k<l.length):Aoq a b least x (l.take (k+1))=Aoq a b least x (l.take k)++(if(l.getD k ([],0)).2=1∧least≤scR a b x (l.getD k ([],0))then[(x.1,((l.getD k ([],0)).1,scR a b x (l.getD k ([],0))))]else[]):=by
 unfold Aoq
 rw[Aq4 (d:=(([],0):Bz)) h,List.filterMap_append]
 congr 1
 rw[List.filterMap_cons,List.filterMap_nil]
 split<;>rename_i h2<;>split at h2<;>simp_all
theorem ApC{a b:List Ao}{least:Int}{l D:List Bz}{k:Nat}(h:k<l.length):Aoi a b least (l.take (k+1)) D=Aoi a b least (l.take k) D++(if(l.getD k ([],0)).2=2 then Aoq a b least (l.getD k ([],0)) D else[]):=by
 unfold Aoi
 rw[Aq4 (d:=(([],0):Bz)) h,List.flatMap_append]
 simp
theorem Ap1{a b:List Ao}{least:Int}{x:Bz}{l:List Bz}:(Aoq a b least x l).length≤l.length:=List.length_filterMap_le ..
theorem Ao9{a b:List Ao}{least:Int}:∀{l D:List Bz},(Aoi a b least l D).length≤l.length*D.length
 |[],D=>by simp[Aoi]
 |x::l,D=>by
  have h1:=Ao9 (a:=a) (b:=b) (least:=least) (l:=l) (D:=D)
  have h2:(if x.2=2 then Aoq a b least x D else[]).length≤D.length:=by
   split
   ·exact Ap1
   ·exact Nat.zero_le _
  unfold Aoi at h1⊢
  rw[List.flatMap_cons,List.length_append,List.length_cons,Nat.add_mul]
  omega
theorem Arq{a b:List Ao}{least:Int}{l D:List Bz}{r:Aoc}:r∈Aoi a b least l D↔∃x∈l,∃y∈D,x.2=2∧y.2=1∧least≤scR a b x y∧r=(x.1,(y.1,scR a b x y)):=by
 unfold Aoi Aoq
 rw[List.mem_flatMap]
 constructor
 ·rintro⟨x,hx,h⟩
  split at h
  ·rename_i h2
   obtain⟨y,hy,h3⟩:=List.mem_filterMap.1 h
   split at h3
   ·rename_i h4
    exact⟨x,hx,y,hy,h2,h4.1,h4.2,(Option.some.inj h3).symm⟩
   ·cases h3
  ·cases h
 ·rintro⟨x,hx,y,hy,h1,h2,h3,rfl⟩
  refine⟨x,hx,?_⟩
  rw[if_pos h1]
  exact List.mem_filterMap.2 ⟨y,hy,by rw[if_pos ⟨h2,h3⟩]⟩
theorem Ars{a b:List Ao}{least:Int}{D:List Bz}(h:D.Pairwise fun x y=>Op.bytesLess x.1 y.1=true):(Aoi a b least D D).Pairwise fun x y=>AoZ x y=true:=by
 unfold Aoi
 rw[List.pairwise_flatMap]
 refine⟨fun x hx=>?_,h.imp fun{x y} hxy u hu v hv=>?_⟩
 ·split
  ·unfold Aoq
   rw[List.pairwise_filterMap]
   refine h.imp fun{y z} hyz u hu v hv=>?_
   split at hu
   ·split at hv
    ·rw[←Option.some.inj hu,←Option.some.inj hv]
     unfold AoZ
     simp[hyz]
    ·cases hv
   ·cases hu
  ·exact .nil
 ·have e1:u.1=x.1:=by
   split at hu
   ·obtain⟨y',_,h3⟩:=List.mem_filterMap.1 hu
    split at h3
    ·rw[←Option.some.inj h3]
    ·cases h3
   ·cases hu
  have e2:v.1=y.1:=by
   split at hv
   ·obtain⟨y',_,h3⟩:=List.mem_filterMap.1 hv
    split at h3
    ·rw[←Option.some.inj h3]
    ·cases h3
   ·cases hv
  unfold AoZ
  rw[e1,e2,hxy]
  rfl
theorem ApS{x y:Aoc}(h:¬(x.1=y.1∧x.2.1=y.2.1)):AoA x y=true∨AoA y x=true:=by
 unfold AoA
 simp only[Bool.or_eq_true,Bool.and_eq_true,decide_eq_true_eq]
 rcases Arf h with k|k
 ·by_cases e:x.2.2=y.2.2
  ·exact .inl (.inr ⟨e,k⟩)
  ·by_cases e2:y.2.2<x.2.2
   ·exact .inl (.inl e2)
   ·exact .inr (.inl (by omega))
 ·by_cases e:x.2.2=y.2.2
  ·exact .inr (.inr ⟨e.symm,k⟩)
  ·by_cases e2:y.2.2<x.2.2
   ·exact .inl (.inl e2)
   ·exact .inr (.inl (by omega))
theorem Asm{x y:Aoc}(h:AoZ x y=true):¬(x.1=y.1∧x.2.1=y.2.1):=by
 rintro⟨h1,h2⟩
 unfold AoZ at h
 rw[h1,h2,FV,FV]at h
 simp at h
theorem ArM{S L:List Aoc}(hp:S.Perm L)(hL:L.Pairwise fun x y=>AoZ x y=true)(hs:S.Pairwise fun x y=>AoA y x=false):S.Pairwise fun x y=>AoA x y=true:=by
 have hne:S.Pairwise fun x y=>¬(x.1=y.1∧x.2.1=y.2.1):=hp.symm.pairwise (hL.imp fun h=>Asm h) fun h=>fun k=>h ⟨k.1.symm,k.2.symm⟩
 refine(hs.and hne).imp fun{x y} h=>?_
 rcases ApS h.2 with k|k
 ·exact k
 ·rw[h.1]at k;cases k
def AqI(a b:List Ao)(least:Int)(d:List Aoc×Int):Prop:=(¬(1≤least∧least≤100)→d=([],3))∧(1≤least∧least≤100→d.2=0∧∃D S,IsDiff a b D∧S.Perm (Aoi a b least D D)∧(S.Pairwise fun x y=>AoA x y=true)∧ApE S d.1)
def Apt(P:Pg):Prop:=∀x:List Ao×(List Ao×(List Bz×Int)),Du x.1→Du x.2.1→x.2.2.1.length≤2000→Fn P Ahh Aoz x fun(d:List Aoc) _=>d=Aoi x.1 x.2.1 x.2.2.2 x.2.2.1 x.2.2.1
theorem AoS:∀{l:List Ao},Du l→∀p,(findF l p).1.length≤140737488351232
 |[],_,p=>by unfold findF;exact Nat.zero_le _
 |f::l,h,p=>by
  unfold findF
  split
  ·exact(h.2 f (List.mem_cons_self ..)).2
  ·exact AoS (l:=l) ⟨by have:=h.1;simp only[List.length_cons]at this;omega,fun x hx=>h.2 x (List.mem_cons_of_mem _ hx)⟩ p
theorem ArO(h:Has P Aoy)(hF:M1 P)(hS:AoR P):Apt P:=by
 rintro⟨a,b,d,least⟩ ha hb hd
 dsimp only at ha hb hd
 have ha1:=ha.1
 have hb1:=hb.1
 refine ApA h ?_
 unfold Ao6
 dsimp only
 refine Ac.mid (fun o=>o=Aoi a b least d d) ?_ fun _ h=>h
 refine Au.of (fun q=>(0≤q.2∧q.2≤d.length)∧q.1=Aoi a b least (d.take q.2.toNat) d) (fun q=>(d.length -q.2).toNat) ⟨⟨Int.le_refl _,Int.natCast_nonneg _⟩,rfl⟩ ?_
 rintro⟨o,i⟩ ⟨⟨i0,i1⟩,ho⟩
 dsimp only at i0 i1 ho⊢
 refine⟨fun hi=>?_,fun hi=>?_⟩
 ·have hi:=of_decide_eq_true hi
  have hi2:i.toNat<d.length:=by omega
  have hol:o.length≤2000*2000:=by
   have:=Ao9 (a:=a) (b:=b) (least:=least) (l:=d.take i.toNat) (D:=d)
   rw[←ho]at this
   exact Nat.le_trans this (Nat.mul_le_mul (by rw[List.length_take];omega) hd)
  refine Ac.mid (fun o2=>o2=Aoi a b least (d.take (i.toNat+1)) d) ⟨⟨i0,hi⟩,hi2,fun hk=>?_,fun hk=>?_⟩ fun o2 ho2=>by
   rw[w64 (by omega) (by omega)]
   exact⟨⟨⟨by omega,by omega⟩,by rw[show(i+1).toNat=i.toNat+1 by omega];exact ho2⟩,by omega⟩
  ·rw[ApC hi2,if_neg (by simpa using hk),List.append_nil]
   exact ho
  ·have hk:(d.getD i.toNat ([],0)).2=2:=by simpa using hk
   rw[ApC hi2,if_pos hk]
   refine hF.at ha1 ?_
   refine Ac.mid (fun o2=>o2=Aoi a b least (d.take i.toNat) d++Aoq a b least (d.getD i.toNat ([],0)) d) ?_ fun _ h=>h
   refine Au.of (fun q=>(0≤q.2∧q.2≤d.length)∧q.1=Aoi a b least (d.take i.toNat) d++Aoq a b least (d.getD i.toNat ([],0)) (d.take q.2.toNat)) (fun q=>(d.length -q.2).toNat) ⟨⟨Int.le_refl _,Int.natCast_nonneg _⟩,by dsimp only;rw[ho];simp[Aoq]⟩ ?_
   rintro⟨r,j⟩ ⟨⟨j0,j1⟩,hr⟩
   dsimp only at j0 j1 hr⊢
   refine⟨fun hj=>?_,fun hj=>?_⟩
   ·have hj:=of_decide_eq_true hj
    have hj2:j.toNat<d.length:=by omega
    have hrl:r.length≤2000*2000+2000:=by
     have h3:=Ap1 (a:=a) (b:=b) (least:=least) (x:=d.getD i.toNat ([],0)) (l:=d.take j.toNat)
     rw[List.length_take]at h3
     rw[hr,List.length_append,←ho]
     omega
    refine Ac.mid (fun r2=>r2=Aoi a b least (d.take i.toNat) d++Aoq a b least (d.getD i.toNat ([],0)) (d.take (j.toNat+1))) ⟨⟨j0,hj⟩,hj2,fun hk2=>?_,fun hk2=>?_⟩ fun r2 hr2=>by
     rw[w64 (by omega) (by omega)]
     exact⟨⟨⟨by omega,by omega⟩,by rw[show(j+1).toNat=j.toNat+1 by omega];exact hr2⟩,by omega⟩
    ·rw[Apa hj2,if_neg (fun h=>by rw[h.1]at hk2;cases hk2),List.append_nil]
     exact hr
    ·have hk2:(d.getD j.toNat ([],0)).2=1:=by simpa using hk2
     refine hF.at hb1 (hS.at (AoS ha _) (AoS hb _) ?_)
     rw[Apa hj2]
     refine Ac.mid (fun r2=>r2=Aoi a b least (d.take i.toNat) d++(Aoq a b least (d.getD i.toNat ([],0)) (d.take j.toNat)++(if(d.getD j.toNat ([],0)).2=1∧least≤scR a b (d.getD i.toNat ([],0)) (d.getD j.toNat ([],0))then[((d.getD i.toNat ([],0)).1,((d.getD j.toNat ([],0)).1,scR a b (d.getD i.toNat ([],0)) (d.getD j.toNat ([],0))))]else[]))) ⟨fun hb=>⟨by simp only[List.length_cons,List.length_nil];omega,?_⟩,fun hb=>?_⟩ fun _ h=>h
     ·rw[if_pos ⟨hk2,of_decide_eq_true hb⟩,hr,List.append_assoc]
      rfl
     ·rw[if_neg (fun h=>of_decide_eq_false hb h.2),List.append_nil]
      exact hr
   ·have hj:=of_decide_eq_false hj
    rw[List.take_of_length_le (l:=d) (i:=j.toNat) (by omega)]at hr
    exact hr
 ·have hi:=of_decide_eq_false hi
  rw[List.take_of_length_le (l:=d) (i:=i.toNat) (by omega)]at ho
  exact ho
def Aq6(P:Pg):Prop:=∀x:List Ao×(List Ao×Int),Du x.1→Du x.2.1→x.1.length≤1000→x.2.1.length≤1000→MH x.1 x.2.1=0→Fn P AeG Aoj x fun(d:List Aoc×Int) _=>AqI x.1 x.2.1 x.2.2 d
theorem ApG{a b:List Ao}{D:List Bz}(h:IsDiff a b D){t:Bz}(ht:t∈D):(∃f∈a,f.1=t.1)∨∃f∈b,f.1=t.1:=by
 have:=(h.2 t.1 t.2).1 ht
 unfold QM at this
 cases h1:Bq a t.1 with
 |some v=>exact .inl ((DV a t.1).1 (by rw[h1];rfl))
 |none=>
  cases h2:Bq b t.1 with
  |some v=>exact .inr ((DV b t.1).1 (by rw[h2];rfl))
  |none=>rw[h1,h2]at this;cases this
theorem Aso{a b:List Ao}{least:Int}{D:List Bz}(ha:Du a)(hb:Du b)(h:IsDiff a b D):∀r∈Aoi a b least D D,r.1.length≤140737488351232∧r.2.1.length≤140737488351232:=fun r hr=>by
 have hp:∀t∈D,t.1.length≤140737488351232:=fun t ht=>by
  rcases ApG h ht with⟨f,hf,e⟩|⟨f,hf,e⟩
  ·rw[←e];exact(ha.2 f hf).1
  ·rw[←e];exact(hb.2 f hf).1
 obtain⟨x,hx,y,hy,_,_,_,rfl⟩:=Arq.1 hr
 exact⟨hp x hx,hp y hy⟩
theorem ApN(out:List Aoc):∀S:List Aoc,(Aov out S).length≤out.length+S.length
 |[]=>by simp[Aov]
 |r::S=>by
  have h:=ApN (Aok out r) S
  have h2:(Aok out r).length≤out.length+1:=by unfold Aok;split<;>simp
  show(Aov (Aok out r) S).length≤_
  rw[List.length_cons]
  omega
theorem ArX{S:List Aoc}{k:Nat}{x:Aoc}(h:S[k]?=some x):Aov [] (S.take (k+1))=Aok (Aov [] (S.take k)) x:=by
 rw[List.take_add_one,h,AqC]
 rfl
end Go.VS

/- The trees that the statements on renames are about. -/
set_option linter.unusedVariables false
set_option linter.unusedSimpArgs false
namespace Go.VS
variable{P:Pg}
abbrev Aot:List Bs:=[([97]:List UInt8),([98]:List UInt8),([99]:List UInt8),([100]:List UInt8),([101]:List UInt8),([102]:List UInt8)]
def T22(i:Nat)(d:List Ao×List Ao):Prop:=(d.1.map (·.1)).Sublist (Aot.take i)∧(d.2.map (·.1)).Sublist (Aot.take i)∧(∀f∈d.1,f.2.length≤2000)∧(∀f∈d.2,f.2.length≤2000)∧∀f∈d.1,∀g∈d.2,f.1≠g.1
theorem ApZ{i:Nat}(h:i<6):∀p∈Aot.take i,p≠Aot.getD i []:=by
 have:i=0∨i=1∨i=2∨i=3∨i=4∨i=5:=by omega
 rcases this with rfl|rfl|rfl|rfl|rfl|rfl<;>decide
theorem ApH{i:Nat}(h:i<6):Aot.take (i+1)=Aot.take i++[Aot.getD i []]:=by
 have:i=0∨i=1∨i=2∨i=3∨i=4∨i=5:=by omega
 rcases this with rfl|rfl|rfl|rfl|rfl|rfl<;>rfl
theorem ArD{i:Int}(h0:0≤i)(h:i<6):strOf [IntKind.u8.wrap (97+IntKind.u8.wrap i)]=Aot.getD i.toNat []:=by
 have:i=0∨i=1∨i=2∨i=3∨i=4∨i=5:=by omega
 rcases this with rfl|rfl|rfl|rfl|rfl|rfl<;>decide
theorem Asg{i:Nat}(hi:i<6){a b:List Ao}(h:T22 i (a,b)){s:Bs}(hs:s.length≤2000):T22 (i+1) (a++[(Aot.getD i [],s)],b):=by
 obtain⟨h1,h2,h3,h4,h5⟩:=h
 dsimp only at h1 h2 h3 h4 h5
 unfold T22
 dsimp only
 rw[ApH hi,List.map_append]
 refine⟨h1.append (List.Sublist.refl _),h2.trans (List.sublist_append_left ..),fun f hf=>?_,h4,fun f hf g hg=>?_⟩
 ·rcases List.mem_append.1 hf with k|k
  ·exact h3 f k
  ·rw[List.mem_singleton.1 k];exact hs
 ·rcases List.mem_append.1 hf with k|k
  ·exact h5 f k g hg
  ·rw[List.mem_singleton.1 k]
   exact fun e=>ApZ hi g.1 (h2.subset (List.mem_map.2 ⟨g,hg,rfl⟩)) e.symm
theorem Aqu{i:Nat}(hi:i<6){a b:List Ao}(h:T22 i (a,b)){s:Bs}(hs:s.length≤2000):T22 (i+1) (a,b++[(Aot.getD i [],s)]):=by
 obtain⟨h1,h2,h3,h4,h5⟩:=h
 dsimp only at h1 h2 h3 h4 h5
 unfold T22
 dsimp only
 rw[ApH hi,List.map_append]
 refine⟨h1.trans (List.sublist_append_left ..),h2.append (List.Sublist.refl _),h3,fun f hf=>?_,fun f hf g hg=>?_⟩
 ·rcases List.mem_append.1 hf with k|k
  ·exact h4 f k
  ·rw[List.mem_singleton.1 k];exact hs
 ·rcases List.mem_append.1 hg with k|k
  ·exact h5 f hf g k
  ·rw[List.mem_singleton.1 k]
   exact ApZ hi f.1 (h1.subset (List.mem_map.2 ⟨f,hf,rfl⟩))
theorem AqO:∀p∈Aot,CO p=0:=by decide
theorem Arh:Aot.Pairwise fun p q=>Op.bytesLess p q=true∧GV p q=false:=by decide
theorem Arv{l:List Ao}(hl:(l.map (·.1)).Sublist Aot)(hs:∀f∈l,f.2.length≤2000):Dq l=0∧Du l∧l.length≤6:=by
 have hn:l.length≤6:=by
  have:=hl.length_le
  rw[List.length_map]at this
  exact this
 have hp:l.all (fun f=>CO f.1==0)=true:=by
  rw[List.all_eq_true]
  intro f hf
  rw[AqO f.1 (hl.subset (List.mem_map.2 ⟨f,hf,rfl⟩))]
  rfl
 have ho:VB l=true:=by
  rw[QX]
  have hpw:=Arh.sublist hl
  rw[List.pairwise_map,List.pairwise_iff_getElem]at hpw
  intro i hi k hk
  have:=hpw k i (by omega) hi hk
  unfold pth
  rw[List.getD_eq_getElem?_getD,List.getD_eq_getElem?_getD,List.getElem?_eq_getElem hi,List.getElem?_eq_getElem (Nat.lt_trans hk hi)]
  exact this
 have hc:l.all (fun f=>B6 f.2==0)=true:=by
  rw[List.all_eq_true]
  intro f hf
  have:=hs f hf
  rw[Adh (by omega)]
  rfl
 refine⟨?_,⟨by omega,fun f hf=>?_⟩,hn⟩
 ·unfold Dq
  rw[if_neg (by omega),if_neg (by rw[hp];simp),if_neg (by rw[ho];simp),if_neg (by rw[hc];simp)]
 ·have h1:∀p∈Aot,p.length≤1:=by decide
  have h2:=h1 f.1 (hl.subset (List.mem_map.2 ⟨f,hf,rfl⟩))
  have h3:=hs f hf
  omega
theorem Aru{i:Nat}{a b:List Ao}(h:T22 i (a,b)):a.length≤6∧b.length≤6:=by
 have h1:=h.1.length_le
 have h2:=h.2.1.length_le
 rw[List.length_map,List.length_take]at h1 h2
 have:Aot.length=6:=rfl
 dsimp only at h1 h2
 omega
theorem Asv:T22 0 ([],[]):=⟨List.nil_sublist _,List.nil_sublist _,(fun _ h=>nomatch h),(fun _ h=>nomatch h),(fun _ h=>nomatch h)⟩
def Aph(P:Pg):Prop:=∀x:List Int,Fn P AcM Aou x fun(d:List Ao×List Ao) _=>T22 6 d
theorem Arl(h:Has P AoD)(hA:OB P)(hM:LV P)(hB:Aqw P)(hN:ApO P):Aph P:=by
 intro x
 refine ApW h ?_
 unfold Ape
 refine Ac.mid (fun d=>T22 6 d) ?_ fun _ hd=>hd
 refine Au.of (fun s=>(0≤s.2.2∧s.2.2≤6)∧T22 s.2.2.toNat (s.1,s.2.1)) (fun s=>(6 -s.2.2).toNat) ⟨⟨Int.le_refl _,by decide⟩,Asv⟩ ?_
 rintro⟨a,b,i⟩ ⟨⟨i0,i1⟩,hs⟩
 dsimp only at i0 i1 hs
 refine⟨fun hi=>?_,fun hi=>?_⟩
 ·have hi:=of_decide_eq_true hi
  dsimp only at hi
  have hA':∀K:Int→Unit→Prop,(∀d,K d ())→Fn P zS2 Bn (x,IntKind.i64.wrap (200+i)) K:=fun K hk=>by
   rw[w64 (by omega) (by omega)]
   exact hA.at (by omega) (hk _)
  have hM':∀(d:Int) (K:Int→Unit→Prop),(∀m,0≤m∧m<3→K m ())→Fn P zS1 Cb (d,(3:Int)) K:=fun d K hk=>hM.at (by decide) (by decide) (hk _ (EU (by decide) (by decide)))
  have hB':∀(m:Int) (K:Bs→Unit→Prop),0≤m∧m<3→(∀s:Bs,s.length≤400→K s ())→Fn P zS0 EG (x,(IntKind.i64.wrap (10+IntKind.i64.wrap (20*m)),((3:Int),(4:Int)))) K:=fun m K hm hk=>by
   obtain⟨m0,m1⟩:=hm
   rw[w64 (n:=20*m) (by omega) (by omega),w64 (n:=10+20*m) (by omega) (by omega)]
   refine(hB (x,(10+20*m,(3,4))) ⟨by dsimp only;omega,by dsimp only;omega⟩ ⟨(by decide:(0:Int)≤3),(by decide:(3:Int)≤100)⟩ ⟨(by decide:(1:Int)≤4),(by decide:(4:Int)≤100000)⟩).to ?_
   intro s e hs
   exact hk s hs
  have hp:=ArD i0 hi
  have hlt:i.toNat<6:=by omega
  refine Ac.mid (fun d=>T22 (i.toNat+1) d) ?_ fun d hd=>?_
  ·refine Ac.mid (fun d:Ao=>d.1=Aot.getD i.toNat []∧d.2.length≤400) ?_ ?_
   ·dsimp only
    repeat' first|exact trivial|exact⟨hp,by assumption⟩|refine⟨?_,?_⟩|refine hA' _ fun _=>?_|refine hM' _ _ fun _ _=>?_|refine hB' _ _ (by assumption) fun _ _=>?_
   ·rintro⟨p,s⟩ ⟨hp1,hs1⟩
    dsimp only at hp1 hs1
    subst hp1
    have hln:a.length≤6:=(Aru hs).1
    have hln2:b.length≤6:=(Aru hs).2
    refine hA.at i0 ?_
    dsimp only
    refine⟨by decide,Ac.mid (fun d=>T22 (i.toNat+1) d) ?_ fun _ hd=>hd⟩
    refine Ac.mid (fun _=>True) ⟨fun _=>trivial,fun _=>trivial⟩ fun c _=>?_
    refine Ac.mid (fun d=>T22 (i.toNat+1) d) ⟨fun _=>⟨?_,Asg hlt hs (by omega)⟩,fun _=>?_⟩ fun _ hd=>hd
    ·rw[List.length_singleton];omega
    ·refine Ac.mid (fun d=>T22 (i.toNat+1) (a,d)) ⟨fun _=>?_,fun _=>⟨?_,Aqu hlt hs (by omega)⟩⟩ fun _ hd=>hd
     ·refine(hN (s,(x,300)) (by dsimp only;omega) ⟨(by decide:(0:Int)≤300),(by decide:(300:Int)≤1000000)⟩).to ?_
      intro(u:Bs) e hu
      have hu:u.length≤5*s.length:=hu
      refine⟨?_,Aqu hlt hs (by omega)⟩
      rw[List.length_singleton];omega
     ·rw[List.length_singleton];omega
  ·dsimp only
   rw[w64 (by omega) (by omega)]
   exact⟨⟨⟨by omega,by omega⟩,by rw[show(i+1).toNat=i.toNat+1 by omega];exact hd⟩,by omega⟩
 ·have hi:=of_decide_eq_false hi
  dsimp only at hi
  have:i=6:=by omega
  subst this
  exact hs
end Go.VS
