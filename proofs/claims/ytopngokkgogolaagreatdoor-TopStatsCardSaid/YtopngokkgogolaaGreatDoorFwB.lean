/- A semantics of values for the model, shown sound for it, and the lifting of functions to plain propositions: part 2. -/
import Derived.Test.YtopngokkgogolaaGreatDoorFwA
import Derived.Below
import Derived.Laws.BytesString
import Derived.Orders
set_option linter.unusedVariables false
set_option linter.unusedSimpArgs false
set_option linter.unusedSectionVars false
open Option renaming map_eq_some_iff → Qa0, bind_eq_some_iff → Qa3, bind_some → Qa5, map_some → Qb2
open Option.some renaming injEq → Qa1, inj → Qc9
open Bool renaming and_eq_true → Qa2, or_eq_false_iff → Qb8, or_eq_true → Qc5
open List renaming nodup_nil → Qa4, eq_nil_of_length_eq_zero → Qb0, length_append → Qb4, getElem?_take_of_lt → Qb6, take_of_length_le → Qb7, all_cons → Qc1, getElem?_map → Qc2, range → Qc3, getElem?_eq_getElem → Qc4, drop_take → Qc6
open Nat renaming lt_of_lt_of_le → Qa6, mul_le_mul_right → Qa7, le_refl → Qa9, add_mul → Qb9, le_trans → Qc8
open BitVec renaming ofInt → Qa8
open Array renaming getD_eq_getD_getElem? → Qb1, replicate → Qb3, setIfInBounds_comm → Qb5, getElem?_append_left → Qc0, length_toList → Qc7
namespace Go.VS
theorem RVs.Ads{C:Ctx}{w:World}:∀{l:List AV} {m:List Value} {f:List Nat},RVs C w l m f→∀u∈m,u.oneCell'=true
 |[],[],_,_=>fun _ h=>nomatch h
 |[],_::_,_,h=>by trivial
 |_::_,[],_,h=>zg
 |a::l,v::m,f,h=>by
  cases h with
  |cons _ _ _ _ _ _ h t=>
   intro u hu
   rcases List.mem_cons.1 hu with rfl|hu
   ·exact h.HX
   ·exact RVs.Ads t u hu
theorem RJ(b off j:Nat):(⟨b,off,none⟩:Addr).add j=⟨b,off+j,none⟩:=by grind [Addr.add]
def Src(w:World)(k m:Nat)(x:Value)(news:List Value):Prop:=
 (x=.slice none 0 0∧m=0∧news=[])∨∃a c,x=.slice (some a) m c∧news.length=m*k∧∀j u,news[j]?=some u→w.cell? (a.add j)=some u
theorem Src.len{w:World}{k m:Nat}{x:Value}{news:List Value}(h:Src w k m x news):news.length=m*k∧∀P w',(Builtin.lenOf x).run P w'=.ok m w':=by
 rcases h with⟨rfl,rfl,rfl⟩|⟨a,c,rfl,h,_⟩
 ·exact⟨zsz,fun _ _=>rfl⟩
 ·exact⟨h,fun _ _=>rfl⟩
theorem Src.read{w:World}{k m:Nat}{x:Value}{news:List Value}(h:Src w k m x news){P:Program}{w':World}(hw:w'.heap=w.heap):(Builtin.firstCells k m x).run P w'=.ok news.toArray w':=by
 rcases h with⟨rfl,rfl,rfl⟩|⟨a,c,rfl,h,hc⟩<;>grind [run_firstCells_none,run_firstCells_some,World.cell?]
theorem AnR{P:Program}{w:World}{t u ty e e2:TypeId}{i:TypeInfo}{zv:Value}(ht:P.underlying t=some (.slice e))(hu:P.underlying u=some (.slice e2))(hi:P.info? e=some i)(hz:i.zero=some zv)
  (hzs:zv.cells.size=i.size) {v x:Value} {n m:Nat} {olds news:List Value} (hx:Src w i.size m x news) (h1:∀u∈news,u.oneCell'=true)
  (hv:(v=.slice none 0 0∧n=0∧olds=[])∨∃g off cap cs e',v=.slice (some ⟨g,off,none⟩) n cap∧w.heap[g]?=some (.cells cs e' (0,0))∧off+cap*i.size≤cs.size∧n≤cap∧cap≤maxLen∧olds=(cs.toList.drop off).take (n*i.size))
  (h63:n+m≤9223372036854775807) (hbytes:(n+m)*i.bytes≤140737488355328):
  ∃v' w',(Builtin.append_ #[t,u] ty #[v,x]).run P w=.ok v' w'∧
   ((v'=.slice none 0 0∧w'=w∧n=0∧m=0)∨
    (∃g off cap cs e',v=.slice (some ⟨g,off,none⟩) n cap∧w.heap[g]?=some (.cells cs e' (0,0))∧off+cap*i.size≤cs.size∧n+m≤cap∧cap≤maxLen∧olds=(cs.toList.drop off).take (n*i.size)∧
     v'=.slice (some ⟨g,off,none⟩) (n+m) cap∧w'=w.setRow g (cs.toList.take (off+n*i.size)++news++cs.toList.drop (off+n*i.size+news.length)).toArray)∨
    (∃cap rest,n+m≤cap∧cap≤maxLen∧(olds++news++rest:List Value).length=cap*i.size∧v'=.slice (some ⟨w.heap.size,0,none⟩) (n+m) cap∧w'=w.drew.alloc (.cells (olds++news++rest:List Value).toArray e))):=by
 obtain⟨hl,hlen⟩:=hx.len;have hge:=grownCap_ge w (n+m)
 have h63':¬(9223372036854775807<((n:Int)+(m:Int))):=zm
 rcases hv with⟨rfl,rfl,rfl⟩|⟨g,off,cap,cs,e',rfl,hg,hs,hnc,hcm,rfl⟩
 ·by_cases hm:m=0
  ·subst hm;have hn:news=[]:=Qb0 zg;subst hn;refine⟨.slice none 0 0,w,?_,.inl ⟨rfl,rfl,rfl,rfl⟩⟩;have hr:=hx.read (P:=P) (w':=w) rfl;simp[Builtin.append_,run_underlying ht,run_underlying hu,sizeOf,typeInfo,hi,hlen,hr]
  ·refine⟨.slice (some ⟨w.heap.size,0,none⟩) m (grownCap w m 0 e),w.drew.alloc (.cells (news.toArray++Builtin.zeroCells zv.cells (grownCap w m 0 e -m)) e),?_,
    .inr (.inr ⟨grownCap w m 0 e,(Builtin.zeroCells zv.cells (grownCap w m 0 e -m)).toList,zg,grownCap_le_maxLen w m 0 e (by grind [maxLen]),?_,zsz,?_⟩)⟩
   ·have h48':¬(281474976710656<Builtin.nextslicecap m 0*i.bytes):=by
     have:=growslice_fits (need:=m) (old:=0) (bytes:=i.bytes) zm zg;omega
    have hr:=hx.read (P:=P) (w':=w.drew) rfl
    have h63'':¬(9223372036854775807<(m:Int)):=zm
    simp[Builtin.append_,run_underlying ht,run_underlying hu,sizeOf,typeInfo,zeroValue,hi,hz,hlen,hm,h63'',h48',Question.forced,run_firstCells_none,hr,newRow,grownCap]
   ·simp only[List.nil_append,Qb4,hl,Qc7,size_zeroCells,hzs,←Qb9]<;>grind
   ·congr 2
    grind
 ·by_cases hroom:n+m≤cap
  ·refine⟨_,_,?_,.inr (.inl ⟨g,off,cap,cs,e',rfl,hg,hs,hroom,hcm,rfl,rfl,rfl⟩)⟩;have hr:=hx.read (P:=P) (w':=w) rfl
   have hfit:off+n*i.size+news.length≤cs.size:=by
    have:(n+m)*i.size≤cap*i.size:=Qa7 _ hroom
    grind
   have hst:=run_storeCells_at P g (off+n*i.size) e' news 0 cs w hg zg h1;simp only[Nat.add_zero]at hst;simp[Builtin.append_,run_underlying ht,run_underlying hu,sizeOf,typeInfo,hi,hlen,hroom,hr,RJ,hst]
  ·refine⟨.slice (some ⟨w.heap.size,0,none⟩) (n+m) (grownCap w (n+m) cap e),w.drew.alloc (.cells ((cs.toList.drop off).take (n*i.size)++news++(Builtin.zeroCells zv.cells (grownCap w (n+m) cap e -(n+m))).toList).toArray e),?_,
    .inr (.inr ⟨grownCap w (n+m) cap e,(Builtin.zeroCells zv.cells (grownCap w (n+m) cap e -(n+m))).toList,hge cap e,grownCap_le_maxLen w (n+m) cap e (by trivial),?_,rfl,rfl⟩)⟩
   ·have h48':¬(281474976710656<Builtin.nextslicecap (n+m) cap*i.bytes):=by
     have:=growslice_fits (need:=n+m) (old:=cap) (bytes:=i.bytes) zm hbytes;omega
    have hr:=hx.read (P:=P) (w':=w.drew) rfl
    have hfo:=run_firstCells_some (P:=P) w.drew i.size n ⟨g,off,none⟩ n cap ((cs.toList.drop off).take (n*i.size)) (by
      have:n*i.size≤cap*i.size:=Qa7 _ hnc
      grind) (by
     intro j y hj;rw[RJ];have:=FX cs off (n*i.size) j y hj
     rw[Af (w:=w.drew) (show w.drew.heap[g]?=_ from hg)]<;>grind)
    simp[Builtin.append_,run_underlying ht,run_underlying hu,sizeOf,typeInfo,zeroValue,hi,hz,hlen,hroom,h63',h48',Question.forced,hr,hfo,newRow,grownCap]
    congr 2
    grind
   ·have:n*i.size≤cap*i.size:=Qa7 _ hnc
    have h3:((cs.toList.drop off).take (n*i.size)).length=n*i.size:=zg
    simp only[Qb4,hl,h3,Qc7,size_zeroCells,hzs,←Qb9]<;>grind
section
variable{E:Env}{lam:Nat→Nat}{z:Nat→Prop}{fp:Ky→List Nat}{hd:Hands}{st:St}{tm:Array Value}{w:World}{ds:List Deferred}
theorem Bq.moves(R:Ax E lam z fp hd st tm w){w':World}{i:Nat}(hm:Moves (·∈fp (.h i)) w w'){a:AV}{u:Value}(h:Bq st tm w lam a u):Bq st tm w' lam a u:=by
 have hb:∀r:Root,∀b,b∈fp r.key→w'.heap[b]?=w.heap[b]?:=fun r b hb=>
  hm.block b (R.fps.ok _ b hb).1 (fun hmem=>R.fps.dis r.key (.h i) b (by cases r<;>simp[Root.key]) hb hmem)
 cases a with
 |ref p ver k lo n=>
  refine⟨h.1,fun hv=>?_⟩
  obtain⟨xs,v0,h1,h2,h3⟩:=h.2 hv<;>grind [Iv]
 |adr p ver k i c=>
  refine⟨h.1,fun hv=>?_⟩
  obtain⟨xs,b,off,len,cap,h1,h2,h3⟩:=h.2 hv<;>grind [Iv]
 |_=>exact trivial
theorem Refs.moves(R:Ax E lam z fp hd st tm w)(F:Refs st tm w lam){w':World}{i:Nat}(hm:Moves (·∈fp (.h i)) w w'):Refs st tm w' lam:=
 fun t s hs j a u hj hu=>(F t s hs j a u hj hu).moves R hm
theorem C7(tm:Array Value)(m:Nat):tm.setIfInBounds m (tm.getD m undef)=tm:=by
 apply Array.ext_getElem?;intro i;rw[Array.getElem?_setIfInBounds];split
 ·rename_i h;subst h
  split<;>simp_all
 ·rfl
theorem Refs.die(F:Refs st tm w lam)(m:Nat):Refs (st.set m .dead) tm w lam:=by
 have:=F.Pf (d:=m) (x:=.dead) (v:=tm.getD m undef) (fun s h=>nomatch h)
 grind [C7]
theorem Ax.giveUp(R:Ax E lam z fp Ao st tm w)(m:Nat){l:List AV}{vs:List Value}{f:List Nat}(h:RVs (ctx E lam z st.hp.next) w l vs f)(hn:f.Nodup)(hf:∀b,b∈f→b∈fp (.s m)):
  ∃fp',Ax E lam z fp' (upd Ao 0 (l,vs)) (st.set m .dead) tm w:=by
 refine⟨_,R.pass (.s m) (.h 0) zsz (Moves.refl _ w) (hd':=upd Ao 0 (l,vs)) (st':=st.set m .dead) (tm':=tm) rfl rfl ?_ (f:=[]) (f1:=f) (by simp[AQ,St.set,upd,RTV]) (by trivial) Qa4 hn (fun _ h=>nomatch h) (fun _ h=>nomatch h) (fun b hb=>.inl (hf b hb))⟩;intro κ' h1 h2 C u g hK
 cases κ' with
 |s t'=>
  simp_all [AQ,St.set,upd]
 |o o=>exact hK
 |h j=>
  grind [AQ,upd]
theorem RV.Cs{C:Ctx}{v u:Value}{f:List Nat}(h:RV C w (.lit v) u f):u=v:=by cases h;rfl
theorem RV.src{C:Ctx}{k:Nat}{ys:List (List AV)}{v:Value}{f:List Nat}{τ:Tag}(h:RV C w (.sl τ k ys) v f):
  ∃news f',Src w k ys.length v news∧RVs C w ys.flatten news f'∧(∀y∈ys,y.length=k)∧(∀b,b∈f'→b∈f)∧(f.Nodup→f'.Nodup)∧(τ≠.own→f'=[]):=by
 have win:∀(b off:Nat) (cs:Array Value) (e:TypeId) (fz:Nat×Nat),w.heap[b]?=some (.cells cs e fz)→∀j u,((cs.toList.drop off).take (ys.length*k))[j]?=some u→w.cell? ((⟨b,off,none⟩:Addr).add j)=some u:=by
  grind [RJ,Af,FX]
 cases h with
 |slNil=>exact⟨[],[],.inl ⟨rfl,rfl,rfl⟩,by simpa using RVs.nil,(fun _ h=>nomatch h),(fun _ h=>nomatch h),fun _=>Qa4,fun _=>rfl⟩
 |shrE _ _ a cap ht=>exact⟨[],[],.inr ⟨a,cap,rfl,zsz,(fun j u h=>zg)⟩,by simpa using RVs.nil,(fun _ h=>nomatch h),(fun _ h=>nomatch h),fun _=>Qa4,fun _=>rfl⟩
 |own _ _ b off cap cs e f hb hs hc hm hk hr=>
  refine⟨_,f,.inr ⟨⟨b,off,none⟩,cap,rfl,?_,win b off cs e (0,0) hb⟩,hr,hk,fun b hb=>by simp[hb],fun hn=>(List.nodup_cons.1 hn).2,fun h=>absurd rfl h⟩<;>grind [hr.length,EF]
 |shr _ _ _ b off cap cs e fz ht hz hi hb hs hc hk hr=>
  refine⟨_,[],.inr ⟨⟨b,off,none⟩,cap,rfl,?_,win b off cs e fz hb⟩,hr,hk,(fun _ h=>nomatch h),fun _=>Qa4,fun _=>rfl⟩<;>grind
theorem Ajc(R:Ax E lam z fp Ao st tm w)(F:Refs st tm w lam){o:Operand}{x:Opd}(ho:AE E.P o=some x){k:Nat}{ys:List (List AV)}{st1:St}(h:(st.source k x).holds (·=(ys,st1)))(ds:List Deferred):
  ∃fp' news,Ax E lam z fp' (upd Ao 0 (ys.flatten,news)) st1 tm w∧Refs st1 tm w lam∧Src w k ys.length (Act.eval ⟨tm,ds⟩ o) news∧(∀y∈ys,y.length=k):=by
 have none:∀v,v=Value.slice none 0 0→ys=[]→st1=st→Act.eval ⟨tm,ds⟩ o=v→∃fp' news,Ax E lam z fp' (upd Ao 0 (ys.flatten,news)) st1 tm w∧Refs st1 tm w lam∧Src w k ys.length (Act.eval ⟨tm,ds⟩ o) news∧(∀y∈ys,y.length=k):=by
  rintro v rfl rfl rfl he;exact⟨fp,[],by grind [Eu],F,.inl ⟨he,rfl,rfl⟩,(fun _ h=>nomatch h)⟩
 cases o with
 |global n=>trivial
 |func f=>
  simp only[AE,Qa0]at ho;obtain⟨fn,_,rfl⟩:=ho;trivial
 |const v=>
  simp only[AE]at ho;split at ho
  case isFalse=>cases ho
  simp only[Qa1]at ho;subst ho;simp only[St.source]at h;split at h
  case h_1=>
   rename_i hv;cases hv;rw[M.Ae]at h;cases h;exact none _ rfl rfl rfl rfl
  all_goals trivial
 |tmp m=>
  simp only[AE,Qa1]at ho;subst ho;simp only[St.source]at h;have hkey:=R.keys (.s m);have hF:=F m;simp only[AQ]at hkey
  cases hsl:st.sl m with
  |tup l=>rw[hsl]at h;trivial
  |dead=>rw[hsl]at h;trivial
  |val b s=>
   rw[hsl]at h hkey
   cases s with
   |agg l=>trivial
   |one a=>
    cases a with
    |lit v=>
     split at h
     all_goals first
      |exact h.elim
      |(rename_i e;cases e)
     rw[M.Aa,M.Ak]at h;obtain⟨hb,h⟩:=h;rw[M.Ae]at h;cases h;exact none _ rfl rfl rfl (RV.Cs (hkey.1 hb))
    |sl τ k' ys'=>
     have main:∀(hb:b=true),∃news f',Src w k' ys'.length (tm.getD m undef) news∧RVs (ctx E lam z st.hp.next) w ys'.flatten news f'∧(∀y∈ys',y.length=k')∧(∀b,b∈f'→b∈fp (.s m))∧((fp (.s m)).Nodup→f'.Nodup)∧(τ≠.own→f'=[]):=
      fun hb=>RV.src (hkey.1 hb)
     cases τ with
     |own=>
      simp only[M.Aa,M.Ak]at h;obtain⟨hb,hk,h⟩:=h;subst hk;rw[M.Ae]at h;cases h;obtain⟨news,f',h1,h2,h3,h4,h5,_⟩:=main hb;obtain⟨fp',R1⟩:=R.giveUp m h2 (h5 (R.fps.nod _)) h4;exact⟨fp',news,R1,F.die m,h1,h3⟩
     |imm=>
      simp only[M.Aa,M.Ak]at h;obtain⟨hb,hk,h⟩:=h;subst hk;rw[M.Ae]at h;cases h;obtain⟨news,f',h1,h2,h3,h4,h5,h6⟩:=main hb;rw[h6 zsz]at h2;have R1:=R.turn 0 (Moves.refl _ w) h2 Qa4 (fun _ h=>nomatch h);exact⟨_,news,R1,F,h1,h3⟩
     |brw=>
      simp only[M.Aa,M.Ak]at h;obtain⟨hb,hk,h⟩:=h;subst hk;rw[M.Ae]at h;cases h;obtain⟨news,f',h1,h2,h3,h4,h5,h6⟩:=main hb;rw[h6 zsz]at h2;have R1:=R.turn 0 (Moves.refl _ w) h2 Qa4 (fun _ h=>nomatch h);exact⟨_,news,R1,F,h1,h3⟩
    |ref p v k'' lo n=>
     dsimp only at h;split at h
     case h_2=>trivial
     rename_i k2 ys2 hp;simp only[M.Aa,M.Ak]at h;obtain⟨hb,hk,hk2,hv,hlo,hno,h⟩:=h;subst hk;subst hk2;rw[M.Ae]at h;cases h;subst hb;have hc:=hF _ hsl 0 _ (tm.getD m undef) rfl rfl;obtain⟨xs',v0,q1,q2,q3⟩:=hc.2 hv;rw[hp]at q1;cases q1;obtain⟨u,f,c1,c2,c3⟩:=R.Pz hp;rw[q2]at c1;cases c1;obtain⟨f2,w1,w2,w3⟩:=NA c2 q3 hlo
     obtain⟨news,f',h1,h2,h3,h4,h5,_⟩:=RV.src w1
     have hlen:(window lo n ys2).length=n:=by grind [MZ]
     have h6:f'=[]:=h2.Fe (by
      grind)
     rw[h6]at h2;have R1:=R.turn 0 (Moves.refl _ w) h2 Qa4 (fun _ h=>nomatch h);exact⟨_,news,R1,F,h1,h3⟩
    |_=>exact h.elim
theorem Ab3(R:Ax E lam z fp (upd Ao 0 (hd 0)) st tm w)(F:Refs st tm w lam){xs ys:List (List AV)}{olds news:List Value}{fx fy:List Nat}{k:Nat}
  (hx:RVs (ctx E lam z st.hp.next) w xs.flatten olds fx) (hy:RVs (ctx E lam z st.hp.next) w ys.flatten news fy) (hxk:∀x∈xs,x.length=k) (hyk:∀y∈ys,y.length=k)
  {w':World} (hm:Moves (·∈fp (.h 0)) w w') (hin:∀b,b∈fx++fy→b∈fp (.h 0)∧w'.heap[b]?=w.heap[b]?) (hn:(fx++fy).Nodup)
  {b off cap:Nat} {cs:Array Value} {e:TypeId} (hb:w'.heap[b]?=some (.cells cs e (0,0))) (hbf:b∈fp (.h 0)∨(w.heap.size≤b∧b<w'.heap.size)) (hbn:b∉fx++fy)
  (hs:off+cap*k≤cs.size) (hc:xs.length+ys.length≤cap) (hmx:cap≤maxLen) (hcells:(cs.toList.drop off).take ((xs.length+ys.length)*k)=olds++news) {d:Nat} (hd:d<E.nt):
  Rel E (st.set d (V (.sl .own k (xs++ys)))) (tm.setIfInBounds d (.slice (some ⟨b,off,none⟩) (xs.length+ys.length) cap)) w':=by
 have hfr:RVs (ctx E lam z st.hp.next) w' (xs++ys).flatten (olds++news) (fx++fy):=by
  rw[List.flatten_append];exact(hx.append hy).frame (Ctx.Le.refl _) (R.AeB hm) (fun b hb=>(hin b hb).2)
 have hlen:(xs++ys).length=xs.length+ys.length:=Qb4
 have hv:=RV.own (C:=ctx E lam z st.hp.next) (w:=w') k (xs++ys) b off cap cs e (fx++fy) hb hs zg hmx (by
  grind) zg
 rw[hlen]at hv
 have R1:=R.turn 0 hm (l:=[.sl .own k (xs++ys)]) (m:=[.slice (some ⟨b,off,none⟩) (xs.length+ys.length) cap]) (RVs.one hv) (List.nodup_cons.2 ⟨hbn,hn⟩) (by
  grind)
 rw[H8]at R1;have R2:=R1.PR 0 d (V (.sl .own k (xs++ys))) (.slice (some ⟨b,off,none⟩) (xs.length+ys.length) cap) hd ⟨fun _=>by trivial,fun h=>nomatch h⟩ (if(st.sl d).CI then upd st.vs d (st.vs d+1)else st.vs) st.hv;rw[H8,Eu]at R2;refine⟨lam,z,_,R2,(F.moves R hm).set (by grind [R.tsz]) ?_⟩;intro j a u hj hu
 cases j with
 |zero=>simp[SV.cells]at hj;subst hj;trivial
 |succ j=>trivial
theorem Moves.setRow{may:Nat→Prop}(w:World)(g:Nat)(cs:Array Value)(h:may g):Moves may w (w.setRow g cs):=
 ⟨rfl,rfl,rfl,by simp_all,fun b _ hn=>setRow_other w g b cs (fun e=>hn (e▸h))⟩
theorem Arp(R:Ax E lam z fp Ao st tm w)(F:Refs st tm w lam){o:Oper}{s x:Operand}{t u e e2:TypeId}{a b:Opd}{k by_:Nat}{zs:List Value}{d:Nat}
  (ho:o.op=.call {callee:=.builtin .append,args:=#[s,x],argTypes:=#[t,u]}) (ha:AE E.P s=some a) (hb:AE E.P x=some b) (ht:E.P.underlying t=some (.slice e)) (hu:E.P.underlying u=some (.slice e2))
  (hk:sizeOf? E.P e=some k) (hby:bytesOf? E.P e=some by_) (hz:zeroOf? E.P e=some zs) (hzk:zs.length=k∧0<k∧0<by_) (hdst:o.dst=some d) (hd:d<E.nt) {st':St}
  (h:(st.Ja o.dst (.app k by_ a b)).holds (·=st')):OpW E tm ds w o st':=by
 simp only[St.Ja,hdst,M.Aa]at h;rw[M.Aw]at h;obtain⟨⟨ys,st1⟩,h1,h⟩:=h;rw[M.Aw]at h;obtain⟨⟨xs,st2⟩,h2,h⟩:=h;simp only[M.Ak]at h;obtain⟨hbytes,h63,h⟩:=h;rw[M.Ae]at h;subst h;obtain⟨fp1,news,R1,F1,hsrc,hyk⟩:=Ajc R F hb h1 ds;simp only[St.base,M.Aa]at h2;rw[M.Aw]at h2;obtain⟨⟨sv,st3⟩,h3,h2⟩:=h2;obtain⟨fp2,T⟩:=Uw R1 F1 ha h3 ds
 dsimp only at h2;obtain⟨i,zv,hi,hiz,hzl,hza⟩:=M1 hz;simp only[sizeOf?,bytesOf?,hi,Qb2,Qa1]at hk hby
 have hzs:zv.cells.size=i.size:=zg
 have hkey:=T.rel.keys (.h 0);simp only[AQ,upd,if_true]at hkey;generalize hva:Act.eval ⟨tm,ds⟩ s=va at*;generalize hvx:Act.eval ⟨tm,ds⟩ x=vx at*;obtain⟨m1,m2,fy,fA,e1,ef,ry,rA⟩:=RVs.split ys.flatten hkey
 have hnl:news.length=ys.flatten.length:=by rw[hsrc.len.1,EF k ys hyk]
 obtain⟨rfl,rfl⟩:=List.append_inj e1 (by grind [ry.length])
 have hfin:∃olds fx,(va=.slice none 0 0∧xs=[]∧olds=[]∧fx=[]∨∃g off cap cs e',va=.slice (some ⟨g,off,none⟩) xs.length cap∧w.heap[g]?=some (.cells cs e' (0,0))∧off+cap*k≤cs.size∧xs.length≤cap∧cap≤maxLen∧
    olds=(cs.toList.drop off).take (xs.length*k)∧fA=g::fx)∧RVs (ctx E lam z st3.hp.next) w xs.flatten olds fx∧(∀x∈xs,x.length=k)∧st2=st3∧(∀b,b∈fx→b∈fA):=by
  split at h2
  ·simp only[M.Aa,M.Ak]at h2;obtain⟨hk',h2⟩:=h2;subst hk';rw[M.Ae]at h2;cases h2;obtain⟨y,hy,rA⟩:=RVs.BU (show RVs _ _ [_] [va] _ from rA);cases hy
   cases rA with
   |slNil=>exact⟨[],[],.inl ⟨rfl,rfl,rfl,rfl⟩,by simpa using RVs.nil,(fun _ h=>nomatch h),rfl,fun _ h=>h⟩
   |shr _ _ _ _ _ _ _ _ _ ht=>grind
   |shrE _ _ _ _ ht=>grind
   |own _ _ g off cap cs e' f hb hs hc hm hk hr=>
    grind
  ·rw[M.Ae]at h2;cases h2;obtain⟨y,hy,rA⟩:=RVs.BU (show RVs _ _ [_] [va] _ from rA);cases hy;cases rA;exact⟨[],[],.inl ⟨rfl,rfl,rfl,rfl⟩,by simpa using RVs.nil,(fun _ h=>nomatch h),rfl,fun _ h=>nomatch h⟩
  trivial
 obtain⟨olds,fx,hbase,rx,hxk,rfl,hfx⟩:=hfin;have hn:(fy++fA).Nodup:=ef▸T.rel.fps.nod _;rw[List.nodup_append]at hn;obtain⟨hny,hnA,hnyA⟩:=hn
 have hnf:(fx++fy).Nodup:=by
  grind
 have hin:∀p,p∈fx++fy→p∈fp2 (.h 0):=by
  grind
 subst hk;subst hby
 obtain⟨v',w',hrun,hres⟩:=AnR (P:=E.P) (w:=w) (t:=t) (u:=u) (ty:=o.type) ht hu hi hiz hzs (v:=va) (x:=vx) (n:=xs.length) (m:=ys.length) (olds:=olds) (news:=news) hsrc (ry.Ads)
  (by
   grind) h63 hbytes
 refine⟨.value v',w',by simp_all [execOp,resolve,invoke,builtin],.inl ⟨_,rfl,?_⟩⟩;rw[hdst]
 rcases hres with⟨rfl,rfl,hx0,hy0⟩|⟨g,off,cap,cs,e',q1,q2,q3,q4,q5,q6,rfl,rfl⟩|⟨cap,rest,q1,q2,q3,rfl,rfl⟩
 ·have hx0:=Qb0 hx0;have hy0:=Qb0 hy0;subst hx0;subst hy0
  exact Rel.Adn (xs:=[]) (vs:=[]) (f:=[]) (fp:=upk fp2 (.h 0) []) (by
   have R4:=T.rel.turn 0 (Moves.refl _ w') (l:=[]) (m:=[]) (f:=[]) .nil Qa4 (fun _ h=>nomatch h);rw[H8]at R4
   exact R4) (Moves.refl _ _) (RV.slNil .own _) Qa4 (fun _ h=>nomatch h) T.refs hd
 ·rcases hbase with⟨p1,_⟩|⟨g2,off2,cap2,cs2,e2',p1,p2,p3,p4,p5,p6,p7⟩
  ·grind
  rw[p1]at q1;cases q1;rw[p2]at q2;cases q2
  have hgf:g∈fp2 (.h 0):=zg
  have hgn:g∉fx++fy:=by
   grind
  have hnm:(xs.length+ys.length)*i.size≤cap*i.size:=Qa7 _ q4;rw[Qb9]at hnm;have hl2:=hsrc.len.1;refine Ab3 (hd:=fun _=>_) T.rel T.refs rx ry hxk hyk (Moves.setRow w g _ hgf) (fun p hp=>⟨hin p hp,setRow_other w g p _ (fun e=>hgn (e▸hp))⟩) hnf (setRow_heap w g cs _ e' (0,0) p2) (.inl hgf) hgn ?_ q4 q5 ?_ hd
  ·grind
  ·rw[q6]
   have t1:(cs.toList.take (off+xs.length*i.size)).length=off+xs.length*i.size:=zg
   rw[List.append_assoc,List.drop_append_of_le_length zm,Qc6,show off+xs.length*i.size -off=xs.length*i.size from zm,Qb9,←List.append_assoc,
    List.take_append_of_le_length zg,Qb7 zg]
 ·have hmv:Moves (·∈fp2 (.h 0)) w (w.drew.alloc (.cells (olds++news++rest).toArray e)):=(Moves.drew _ w).trans (Moves.alloc _ w.drew _)
  have hnew:w.heap.size∉fx++fy:=fun hm=>by have:=(T.rel.fps.ok _ _ (hin _ hm)).1;omega
  refine Ab3 (hd:=fun _=>_) T.rel T.refs rx ry hxk hyk hmv (fun p hp=>⟨hin p hp,heap_alloc_old w.drew _ (T.rel.fps.ok _ _ (hin p hp)).1⟩) hnf (heap_alloc_new w.drew _) (.inr ⟨Qa9 _,zsz⟩) hnew ?_ q1 q2 ?_ hd
  ·grind
  ·rw[List.drop_zero]
   have:(olds++news).length=(xs.length+ys.length)*i.size:=by rw[Qb4,hsrc.len.1,←rx.length,EF _ xs hxk,Qb9]
   grind
theorem Ib.nth{C:Ctx}:∀{l:List SV} {m:List Value} {f:List Nat} {i:Nat} {s:SV},Ib C w l m f→l[i]?=some s→
  ∃v f1 fi f2,m[i]?=some v∧f=f1++(fi++f2)∧RSV C w s v fi∧∀s',RSV C w s' v []→Ib C w (l.set i s') m (f1++f2)
 |[],m,f,i,s,_,hi=>zg
 |s0::l,[],f,i,s,h,_=>h.elim
 |s0::l,v0::m,f,0,s,h,hi=>by
  simp only[List.getElem?_cons_zero,Qa1]at hi;subst hi;obtain⟨f1,f2,rfl,h1,h2⟩:=h;exact⟨v0,[],f1,f2,rfl,rfl,h1,fun s' hs'=>⟨[],f2,rfl,hs',h2⟩⟩
 |s0::l,v0::m,f,i+1,s,h,hi=>by
  obtain⟨f1,f2,rfl,h1,h2⟩:=h;obtain⟨v,g1,gi,g2,e1,rfl,e3,e4⟩:=h2.nth (by trivial);exact⟨v,f1++g1,gi,g2,zg,zsz,e3,fun s' hs'=>⟨f1,g1++g2,zsz,h1,e4 s' hs'⟩⟩
theorem RV.husk{C:Ctx}{a:AV}{v:Value}{f:List Nat}(h:RV C w a v f):RV C w (if a.Ci then .dead else a) v []:=by
 split
 ·exact .dead v h.HX
 ·rename_i hn;have:=h.Fe (eq_false_of_ne_true hn)
  grind
theorem RVs.husk{C:Ctx}:∀{l:List AV} {m:List Value} {f:List Nat},RVs C w l m f→RVs C w (l.map fun a=>if a.Ci then .dead else a) m []
 |[],[],_,_=>.nil
 |[],_::_,_,h=>by trivial
 |_::_,[],_,h=>by trivial
 |a::l,v::m,f,h=>by
  cases h with
  |cons _ _ _ _ _ _ h t=>exact .cons _ _ [] _ _ [] h.husk (RVs.husk t)
theorem RSV.husk{C:Ctx}{s:SV}{v:Value}{f:List Nat}(h:RSV C w s v f):RSV C w s.husk v []:=by
 cases s with
 |one a=>exact RV.husk h
 |agg l=>
  obtain⟨cs,e,h⟩:=h;exact⟨cs,e,h.husk⟩
theorem NG{a:AV}{u:Value}(h:a.solid=true):Bq st tm w lam a u:=by
 cases a<;>first|exact trivial|trivial
theorem Ars(R:Ax E lam z fp Ao st tm w)(F:Refs st tm w lam){o:Oper}{x:Operand}{a:Opd}{i d:Nat}(ho:o.op=.extract x i)(ha:AE E.P x=some a)(hdst:o.dst=some d)(hd:d<E.nt){st':St}
  (h:(st.Ja o.dst (.ext a i)).holds (·=st')):OpW E tm ds w o st':=by
 simp only[St.Ja,hdst]at h
 cases x with
 |global n=>trivial
 |func f=>
  simp only[AE,Qa0]at ha;obtain⟨fn,_,rfl⟩:=ha;trivial
 |const v=>
  simp only[AE]at ha;split at ha
  case isFalse=>cases ha
  simp only[Qa1]at ha;subst ha;trivial
 |tmp n=>
  simp only[AE,Qa1]at ha;subst ha;dsimp only at h;split at h
  case h_2=>trivial
  rename_i l hsl;split at h
  case h_2=>trivial
  rename_i s hs;rw[M.Aa,M.Ak]at h;obtain⟨hsol,h⟩:=h;rw[M.Ae]at h;subst h;have hk:=R.keys (.s n);simp only[AQ,hsl]at hk;obtain⟨vs,hv,hk⟩:=hk;obtain⟨v,f1,fi,f2,e1,e2,e3,e4⟩:=hk.nth hs;have hn:=R.fps.nod (.s n);rw[e2]at hn;obtain⟨n1,n2,n3⟩:=JR hn
  have R1:=R.pass (.s n) (.h 0) zsz (Moves.refl _ w) (hd':=upd Ao 0 (s.cells,vcells s v)) (st':=st.set n (.tup (l.set i s.husk))) (tm':=tm) rfl rfl (by
    intro κ' h1 h2 C u g hK
    cases κ' with
    |s t'=>
     simp_all [AQ,St.set,upd]
    |o o=>exact hK
    |h j=>
     grind [AQ,upd]) (f:=f1++f2) (f1:=fi) (by simp only[AQ,St.set,upd,if_true];exact⟨vs,hv,e4 _ e3.husk⟩) (by grind [AQ,upd,e3.cells]) n1 n2
    (fun b hb hb'=>n3 b hb' hb) (fun b hb=>.inl zg) (fun b hb=>.inl zg)
  have F1:Refs (st.set n (.tup (l.set i s.husk))) tm w lam:=by
   have:=F.Pf (d:=n) (x:=.tup (l.set i s.husk)) (v:=tm.getD n undef) (fun s h=>nomatch h)
   grind [C7]
  have R2:=R1.PR 0 d (.val true s) v hd ⟨fun _=>by trivial,fun h=>nomatch h⟩ (if((st.set n (.tup (l.set i s.husk))).sl d).CI then upd (st.set n (.tup (l.set i s.husk))).vs d ((st.set n (.tup (l.set i s.husk))).vs d+1)else(st.set n (.tup (l.set i s.husk))).vs) (st.set n (.tup (l.set i s.husk))).hv;rw[H8,Eu]at R2;refine⟨.value v,w,?_,.inl ⟨v,rfl,?_⟩⟩
  ·simp_all [execOp,Act.eval,Instr.extract]
  ·rw[hdst];refine⟨lam,z,_,R2,F1.set (by grind [R.tsz]) ?_⟩
   intro j a u hj _<;>grind [NG]
end
end Go.VS
namespace Go.VS
theorem RR{C:Ctx}{w:World}:∀{ys:List (List AV)} {l:List Int} {news:List Value} {f:List Nat},bytesOf ys=some l→RVs C w ys.flatten news f→news=l.map (Value.int .u8)
 |[],l,news,f,h,hr=>by
  simp only[bytesOf,Qa1]at h;subst h;cases hr;rfl
 |y::r,l,news,f,h,hr=>by
  unfold bytesOf at h;split at h
  ·grind
  ·rename_i n r' he;cases he;simp only[Qa0]at h;obtain⟨m,hm,rfl⟩:=h;simp only[List.flatten_cons,List.singleton_append]at hr
   cases hr with
   |cons _ v f _ m' g h t=>
    rw[RV.Cs h,RR hm t];rfl
  grind
theorem foldl_push(l:List Int):∀r:ByteArray,l.foldl (fun r n=>r.push (UInt8.ofNat n.toNat)) r=⟨r.data++(strOf l).toArray⟩:=by
 induction l with
 |nil=>simp_all [strOf]
 |cons n l ih=>simp_all [strOf]
section
variable{E:Env}{lam:Nat→Nat}{z:Nat→Prop}{fp:Ky→List Nat}{hd:Hands}{st:St}{tm:Array Value}{w:World}{ds:List Deferred}
theorem Zl{P:Program}{src dst e:TypeId}(hs:P.underlying src=some (.slice e))(he:P.underlying e=some (.int .u8))(hd:P.underlying dst=some .string){m:Nat}{u:Value}{l:List Int}(hx:Src w 1 m u (l.map (Value.int .u8))):
  (convert src dst u).run P w=.ok (.string ⟨(strOf l).toArray⟩) w:=by
 rcases hx with⟨rfl,rfl,hn⟩|⟨a,c,rfl,hl,hc⟩
 ·have:l=[]:=by simp_all
  subst this;rw[run_convert_bytes_string w src dst e none 0 0 hs he hd];rfl
 ·rw[run_convert_bytes_string w src dst e (some a) m c hs he hd];have h2:=run_loadCells_list (P:=P) w a (l.map (Value.int .u8)) hc;rw[hl,Nat.mul_one]at h2
  rw[run_bytesToString w a m c l h2,foldl_push]<;>simp_all
theorem AnH(R:Ax E lam z fp hd st tm w)(F:Refs st tm w lam){o:Oper}{t u:TypeId}{x:Operand}{a:Opd}(ho:o.op=.convert t u x)(ha:L7 E.P t u x=some (.conv .bytesToStr a)){s:SV}{g:Bool}(hg:g=true)
  (h:(st.BL g (.conv .bytesToStr a)).holds (·=s)):OpR E lam z st tm ds w o s:=by
 unfold L7 at ha;split at ha
 ·cases ha
 ·cases ha
 ·cases ha
 ·rename_i a' e hx hs hd';split at ha
  ·rename_i he;simp only[Qa1,AOp.conv.injEq,true_and]at ha;subst ha;simp only[St.BL,M.Aa]at h;obtain⟨c,h1,h⟩:=BO h;obtain⟨h2,h3⟩:=EI R F hg hx h1 ds;have h3:=h3.BU;generalize hu:Act.eval ⟨tm,ds⟩ x=v at h2 h3;rw[M.Aw]at h;obtain⟨ys,hy,h⟩:=h;rw[M.Dh]at h;obtain⟨l,hl,h⟩:=h;rw[M.Ae]at h;subst h
   have key:∃news f,Src w 1 ys.length v news∧RVs (ctx E lam z st.hp.next) w ys.flatten news f:=by
    unfold St.whole at hy;split at hy
    ·rename_i p ver k lo n;split at hy
     case h_2=>trivial
     rename_i k' xs hat;simp only[M.Aa,M.Ak,M.Ae]at hy;obtain⟨rfl,rfl,rfl,hlen,rfl⟩:=hy;obtain⟨xs',v0,q1,q2,q3⟩:=h3.2 rfl;obtain⟨u0,f0,r1,r2,_⟩:=R.Pz hat;rw[q2]at r1;cases r1
     obtain⟨f',w1,_,_⟩:=NA r2 q3 hlen<;>grind [w1.src]
    ·rename_i τ k xs;simp only[M.Aa,M.Ak,M.Ae]at hy;obtain⟨rfl,rfl⟩:=hy
     obtain⟨news,f2,s1,s2,_⟩:=RV.src h2<;>grind
    ·rw[M.Ae]at hy;subst hy;obtain rfl:=RV.Cs h2;exact⟨[],[],.inl ⟨rfl,rfl,rfl⟩,.nil⟩
    trivial
   obtain⟨news,f,k1,k2⟩:=key;have e1:=RR hl k2;subst e1;refine⟨.string ⟨(strOf l).toArray⟩,w,?_,ROk.lit rfl,fun hq=>?_,fun _=>rfl⟩
   ·simp[execOp,ho,hu,Zl hs he hd' k1]
   grind [Ma,Ahm]
  grind
 grind
end
end Go.VS
namespace Go.VS
def AOp.KK:AOp→Bool
 |.call ..|.callv ..=>true
 |_=>false
theorem AfJ{P:Pg}:∀{os:List Operand},Fv P os=some []→os=[]
 |[],_=>rfl
 |o::os,h=>by
  grind [Fv]
section
variable{E:Env}{lam:Nat→Nat}{z:Nat→Prop}{fp:Ky→List Nat}{hd:Hands}{st:St}{tm:Array Value}{w:World}{ds:List Deferred}
theorem VR{c:Call}{f:Callee}{l:List Operand}{ts:List TypeId}(h1:c.callee=f)(h2:c.args.toList=l)(h3:c.argTypes.toList=ts):c={callee:=f,args:=l.toArray,argTypes:=ts.toArray}:=by
 cases c;simp only at h1 h2 h3;subst h1 h2 h3;simp
theorem Gf{P:Pg}{c:Call}{op:AOp}(h:Ae7 P c=some op):
  (∃f fn l,c.callee=.value (.func f)∧P.funcs[f]?=some fn∧fn.body.isSome=true∧(fn.name != "runtime.NumGoroutine")=true∧Fv P c.args.toList=some l∧op=.call fn.name l)∨
  (∃t l,c.callee=.value (.tmp t)∧Fv P c.args.toList=some l∧op=.callv (.t t) l)∨
  (∃x t a e,c={callee:=.builtin .len,args:=#[x],argTypes:=#[t]}∧AE P x=some a∧P.underlying t=some (.slice e)∧op=.lenK a)∨
  (∃x t a,c={callee:=.builtin .len,args:=#[x],argTypes:=#[t]}∧AE P x=some a∧P.underlying t=some .string∧op=.lenS a)∨
  (∃x t n e,c={callee:=.builtin .len,args:=#[x],argTypes:=#[t]}∧P.underlying t=some (.array n e)∧op=.lenC n)∨
  (∃s x t u a b e e2 k by_ zs,c={callee:=.builtin .append,args:=#[s,x],argTypes:=#[t,u]}∧AE P s=some a∧AE P x=some b∧P.underlying t=some (.slice e)∧P.underlying u=some (.slice e2)∧
   sizeOf? P e=some k∧bytesOf? P e=some by_∧zeroOf? P e=some zs∧(zs.length=k∧0<k∧0<by_)∧op=.app k by_ a b)∨
  (∃mx x y ts a b,c={callee:=.builtin (if mx then .max else .min),args:=#[x,y],argTypes:=ts}∧AE P x=some a∧AE P y=some b∧op=.mm mx a b):=by
 unfold Ae7 at h;split at h
 ·grind
 ·grind [Qa0]
 ·grind [VR]
 ·rename_i hc;split at h
  case h_2=>cases h
  rename_i s x t u hx ht;have hce:=VR hc hx ht;split at h
  case h_2=>cases h
  rename_i a b e e2 ha hb he hu;split at h
  case h_2=>cases h
  rename_i k by_ zs hk hby hz;split at h
  case isFalse=>cases h
  rename_i hzk;cases h;exact .inr (.inr (.inr (.inr (.inr (.inl ⟨s,x,t,u,a,b,e,e2,k,by_,zs,hce,ha,hb,he,hu,hk,hby,hz,hzk,rfl⟩)))))
 ·rename_i hc;split at h
  case h_2=>cases h
  rename_i x y hx;split at h
  case h_2=>cases h
  rename_i a b ha hb;cases h;have hce:=VR hc hx rfl
  grind
 ·rename_i hc;split at h
  case h_2=>cases h
  rename_i x y hx;split at h
  case h_2=>cases h
  rename_i a b ha hb;cases h;have hce:=VR hc hx rfl
  grind
 grind
theorem Ale(R:Ax E lam z fp hd st tm w)(F:Refs st tm w lam){o:Oper}{op:AOp}(ho:SH E.P o=some op)(hW:op.isW=false)(hC:op.KK=false){s:SV}{g:Bool}(hg:g=true)(h:(st.BL g op).holds (·=s)):
  OpR E lam z st tm ds w o s:=by
 unfold SH at ho;split at ho
 ·
  rename_i x hop;simp only[Qa0]at ho;obtain⟨a,ha,rfl⟩:=ho;exact ArE R F hop ha hg h
 ·
  simp only[Qa0]at ho;obtain⟨a,ha,rfl⟩:=ho;cases hW
 ·
  grind [ApX]
 ·simp only[Qa0]at ho;obtain⟨a,ha,rfl⟩:=ho;cases hW
 ·simp only[Qa0]at ho;obtain⟨a,ha,rfl⟩:=ho;cases hW
 ·
  grind [Qa0,AnG]
 ·
  split at ho
  case h_2=>cases ho
  split at ho
  case h_2=>cases ho
  split at ho
  case isFalse=>cases ho
  simp only[Qa0]at ho;obtain⟨a,ha,rfl⟩:=ho;cases hW
 ·
  grind [Als]
 ·split at ho
  case h_2=>cases ho
  split at ho
  case isFalse=>cases ho
  cases ho;cases hW
 ·
  grind [Qa0,ApW]
 ·grind [Aq6]
 ·grind [Qa0,ArF]
 ·grind [AnH,ApQ]
 ·
  grind [ApV]
 ·
  grind [Are,Qa0,Ard]
 ·
  grind [AnI]
 ·
  grind [Aq7]
 ·
  grind [Qa0,Aq8,ApR]
 ·
  grind [Aq9,Ara]
 ·simp only[Qa0]at ho;obtain⟨a,ha,rfl⟩:=ho;cases hW
 ·
  rename_i f first caps hop
  have nil:∀a:Array Operand,Fv E.P a.toList=some []→a=#[]:=fun a ha=>by
   grind [AfJ]
  grind [Arc]
 ·
  rename_i c hop
  rcases Gf ho with⟨_,_,_,_,_,_,_,_,rfl⟩|⟨_,_,_,_,rfl⟩|⟨x,t,a,e,rfl,ha,ht,rfl⟩|⟨x,t,a,rfl,ha,ht,rfl⟩|⟨x,t,n,e,rfl,ht,rfl⟩|⟨_,_,_,_,_,_,_,_,_,_,_,_,_,_,_,_,_,_,_,_,rfl⟩|⟨mx,x,y,ts,a,b,rfl,ha,hb,rfl⟩
  ·cases hC
  ·cases hC
  ·grind [ApT]
  ·grind [ApU]
  ·grind [ApS]
  ·cases hW
  grind [ArD]
 ·grind [Arb]
 ·simp only[Qa0]at ho;obtain⟨a,ha,rfl⟩:=ho;cases hW
 grind
theorem ApK(R:Ax E lam z fp Ao st tm w)(F:Refs st tm w lam){o:Oper}{op:AOp}(ho:SH E.P o=some op)(hW:op.isW=true)(hd:∀d,o.dst=some d→d<E.nt){st':St}(h:(st.Ja o.dst op).holds (·=st')):
  OpW E tm ds w o st':=by
 have need:(∀d,o.dst≠some d)∨∃d,o.dst=some d∧d<E.nt:=by
  grind
 have nodst:o.dst=none→op.isW=true→(∀n a x,op≠.store n a x)→False:=by
  intro hn hw hs;rw[hn]at h
  cases op with
  |store n a x=>grind
  |ext x i=>cases x<;>exact h.elim
  |_=>first|exact h.elim|cases hw
 have some_dst:(∀n a x,op≠.store n a x)→∃d,o.dst=some d∧d<E.nt:=by
  intro hs
  rcases need with hn|hn
  ·cases hdd:o.dst<;>grind
  grind
 unfold SH at ho;split at ho
 ·simp only[Qa0]at ho;obtain⟨a,ha,rfl⟩:=ho;cases hW
 ·grind [Qa0,Arq]
 ·split at ho
  case h_2=>cases ho
  cases ho;cases hW
 ·grind [Qa0,An7]
 ·grind [Qa0,Arr]
 ·split at ho
  ·split at ho
   case h_2=>cases ho
   simp only[Qa0]at ho;obtain⟨l,hl,rfl⟩:=ho;cases hW
  ·split at ho
   case h_2=>cases ho
   simp only[Qa0]at ho;obtain⟨l,hl,rfl⟩:=ho;cases hW
  grind
 ·grind [Qa0,AjC]
 ·split at ho
  case h_2=>cases ho
  split at ho
  case isFalse=>cases ho
  cases ho;cases hW
 ·rename_i t a x hop;split at ho
  case h_2=>cases ho
  rename_i n a' x' hn ha hx;split at ho
  case isFalse=>cases ho
  rename_i h0;cases ho;exact An8 R F hop (by simp_all) ha hx hn h0.1 h
 ·simp only[Qa0]at ho;obtain⟨a,ha,rfl⟩:=ho;cases hW
 ·exfalso;unfold UP at ho
  split at ho<;>first
   |(cases ho;cases hW)
   |cases ho
   |(split at ho<;>first|(cases ho;cases hW)|cases ho|(simp only[Qa0]at ho;obtain⟨_,_,rfl⟩:=ho;cases hW))
 ·simp only[Qa0]at ho;obtain⟨a,ha,rfl⟩:=ho;cases hW
 ·exfalso;unfold L7 at ho
  split at ho<;>first
   |(cases ho;cases hW)
   |cases ho
   |(split at ho<;>first|(cases ho;cases hW)|cases ho)
 ·split at ho
  case h_2=>cases ho
  split at ho
  case h_2=>cases ho
  split at ho
  case isFalse=>cases ho
  cases ho;cases hW
 ·split at ho
  ·cases ho;cases hW
  ·simp only[Qa0]at ho;obtain⟨k,hk,rfl⟩:=ho;cases hW
  grind
 ·split at ho
  case h_2=>cases ho
  split at ho
  case h_2=>cases ho
  split at ho
  case h_2=>cases ho
  split at ho
  case isFalse=>cases ho
  cases ho;cases hW
 ·split at ho
  case h_2=>cases ho
  split at ho
  case h_2=>cases ho
  split at ho
  case h_2=>cases ho
  split at ho
  case isFalse=>cases ho
  cases ho;cases hW
 ·split at ho
  ·simp only[Qa0]at ho;obtain⟨k,hk,rfl⟩:=ho;cases hW
  ·simp only[Qa0]at ho;obtain⟨k,hk,rfl⟩:=ho;cases hW
  grind
 ·split at ho
  ·cases ho;cases hW
  ·split at ho
   case h_2=>cases ho
   split at ho
   case isFalse=>cases ho
   cases ho;cases hW
  grind
 ·grind [Qa0,Ars]
 ·split at ho<;>cases ho<;>cases hW
 ·rename_i c hop
  rcases Gf ho with⟨_,_,_,_,_,_,_,_,rfl⟩|⟨_,_,_,_,rfl⟩|⟨x,t,a,e,rfl,ha,ht,rfl⟩|⟨x,t,a,rfl,ha,ht,rfl⟩|⟨x,t,n,e,rfl,ht,rfl⟩|⟨s,x,t,u,a,b,e,e2,k,by_,zs,rfl,ha,hb,ht,hu,hk,hby,hz,hzk,rfl⟩|⟨mx,x,y,ts,a,b,rfl,ha,hb,rfl⟩
  all_goals first
   |cases hW;done
   |skip
  obtain⟨d,hdst,hd⟩:=some_dst zsz;exact Arp R F hop ha hb ht hu hk hby hz hzk hdst hd h
 ·split at ho
  case h_2=>cases ho
  cases ho;cases hW
 ·simp only[Qa0]at ho;obtain⟨a,ha,rfl⟩:=ho;trivial
 grind
end
end Go.VS
namespace Go.VS
theorem XF(xs:List (List AV)):(KL xs).flatten=XE xs.flatten:=by
 induction xs<;>grind [XE,Adb,KL]
theorem IV(xs:List (List AV)):(KL xs).length=xs.length:=by simp[PG]
theorem Ak3{k:Nat}{xs:List (List AV)}(h:∀x∈xs,x.length=k):∀x∈KL xs,x.length=k:=by
 grind [PG]
theorem Y2(xs:List (List AV)):(OR xs).flatten=Aa0 xs.flatten:=by
 induction xs<;>grind [Aa0,Sa,OR]
theorem JB(xs:List (List AV)):(OR xs).length=xs.length:=by simp[R9]
theorem AmW{k:Nat}{xs:List (List AV)}(h:∀x∈xs,x.length=k):∀x∈OR xs,x.length=k:=by
 grind [R9]
mutual
theorem RV.lend{C C':Ctx}{w:World}(hC:C.Le C'):∀{a:AV} {v:Value} {f:List Nat},RV C w a v f→(∀b,b∈f→C'.zb b)→RV C' w a.lend v []
 |_,_,_,.lit v h,_=>.lit v h
 |_,_,_,.dead v h,_=>.dead v h
 |_,_,_,.ptr o c h,_=>(RV.ptr (C:=C) (w:=w) o c h).frame hC (fun _ _=>rfl) (fun _ h=>nomatch h)
 |_,_,_,.ref p ver k lo n a cap,_=>.ref p ver k lo n a cap
 |_,_,_,.adr p ver k i c v,_=>.adr p ver k i c v
 |_,_,_,.iadr k xs i c b off cs e fz z hb hs hk hr,_=>(RV.iadr (C:=C) (w:=w) k xs i c b off cs e fz z hb hs hk hr).frame hC (fun _ _=>rfl) (fun _ h=>nomatch h)
 |_,_,_,.clo name caps f fn cvs hf hn hr,_=>(RV.clo (C:=C) (w:=w) name caps f fn cvs hf hn hr).frame hC (fun _ _=>rfl) (fun _ h=>nomatch h)
 |_,_,_,.slNil τ k,_=>by cases τ<;>exact .slNil _ k
 |_,_,_,.shrE τ k a cap ht,_=>by
  cases τ
  ·exact absurd rfl ht
  ·exact .shrE _ k a cap ht
  ·exact .shrE _ k a cap ht
 |_,_,_,.own k xs b off cap cs e f hb hs hc hm hk hr,hf=>by
  have hl:xs.length*k≤cap*k:=Qa7 _ hc
  have:=RV.shr (C:=C') (w:=w) .brw k (KL xs) b off cap cs e (0,0) zsz (hf b zsz) (fun h=>nomatch h) hb (by rw[IV];omega) (by rw[IV];exact hc) (Ak3 hk)
   (by rw[IV,XF];exact RVs.lend hC hr (fun b' hb'=>hf b' (by simp[hb'])))
  rw[IV]at this;exact this
 |_,_,_,.shr τ k xs b off cap cs e fz ht z hi hb hs hc hk hr,_=>by
  have:=(RV.shr (C:=C) (w:=w) τ k xs b off cap cs e fz ht z hi hb hs hc hk hr).frame hC (fun _ _=>rfl) (fun _ h=>nomatch h);cases τ
  ·exact absurd rfl ht
  ·exact this
  ·exact this
theorem RVs.lend{C C':Ctx}{w:World}(hC:C.Le C'):∀{l:List AV} {m:List Value} {f:List Nat},RVs C w l m f→(∀b,b∈f→C'.zb b)→RVs C' w (XE l) m []
 |_,_,_,.nil,_=>.nil
 |_,_,_,.cons a v f l m g h t,hf=>.cons _ v [] _ m [] (RV.lend hC h (fun b hb=>hf b (by simp[hb]))) (RVs.lend hC t (fun b hb=>hf b (by simp[hb])))
end
mutual
theorem RV.frz{C C':Ctx}{w:World}(hC:C.Le C'):∀{a:AV} {v:Value} {f:List Nat},RV C w a v f→(∀b,b∈f→C'.zb b∧C'.zt b)→RV C' w a.frz v []
 |_,_,_,.lit v h,_=>.lit v h
 |_,_,_,.dead v h,_=>.dead v h
 |_,_,_,.ptr o c h,_=>(RV.ptr (C:=C) (w:=w) o c h).frame hC (fun _ _=>rfl) (fun _ h=>nomatch h)
 |_,_,_,.ref p ver k lo n a cap,_=>.ref p ver k lo n a cap
 |_,_,_,.adr p ver k i c v,_=>.adr p ver k i c v
 |_,_,_,.iadr k xs i c b off cs e fz z hb hs hk hr,_=>(RV.iadr (C:=C) (w:=w) k xs i c b off cs e fz z hb hs hk hr).frame hC (fun _ _=>rfl) (fun _ h=>nomatch h)
 |_,_,_,.clo name caps f fn cvs hf hn hr,_=>(RV.clo (C:=C) (w:=w) name caps f fn cvs hf hn hr).frame hC (fun _ _=>rfl) (fun _ h=>nomatch h)
 |_,_,_,.slNil τ k,_=>by cases τ<;>exact .slNil _ k
 |_,_,_,.shrE τ k a cap ht,_=>by
  cases τ
  ·exact absurd rfl ht
  ·exact .shrE _ k a cap ht
  ·exact .shrE _ k a cap ht
 |_,_,_,.own k xs b off cap cs e f hb hs hc hm hk hr,hf=>by
  have hl:xs.length*k≤cap*k:=Qa7 _ hc
  have:=RV.shr (C:=C') (w:=w) .imm k (OR xs) b off cap cs e (0,0) zsz (hf b zsz).1 (fun _=>(hf b zsz).2) hb (by rw[JB];omega) (by rw[JB];exact hc) (AmW hk)
   (by rw[JB,Y2];exact RVs.frz hC hr (fun b' hb'=>hf b' (by simp[hb'])))
  rw[JB]at this;exact this
 |_,_,_,.shr τ k xs b off cap cs e fz ht z hi hb hs hc hk hr,_=>by
  have:=(RV.shr (C:=C) (w:=w) τ k xs b off cap cs e fz ht z hi hb hs hc hk hr).frame hC (fun _ _=>rfl) (fun _ h=>nomatch h);cases τ
  ·exact absurd rfl ht
  ·exact this
  ·exact this
theorem RVs.frz{C C':Ctx}{w:World}(hC:C.Le C'):∀{l:List AV} {m:List Value} {f:List Nat},RVs C w l m f→(∀b,b∈f→C'.zb b∧C'.zt b)→RVs C' w (Aa0 l) m []
 |_,_,_,.nil,_=>.nil
 |_,_,_,.cons a v f l m g h t,hf=>.cons _ v [] _ m [] (RV.frz hC h (fun b hb=>hf b (by simp[hb]))) (RVs.frz hC t (fun b hb=>hf b (by simp[hb])))
end
mutual
def AV.plain:AV→Bool
 |.lit _=>true
 |.sl .brw _ _=>false
 |.sl _ _ xs=>GY xs
 |.clo _ caps=>BV caps
 |_=>false
def BV:List AV→Bool
 |[]=>true
 |a::l=>a.plain&&BV l
def GY:List (List AV)→Bool
 |[]=>true
 |l::ls=>BV l&&GY ls
end
theorem Aab(l:List AV):BV l=l.all AV.plain:=by induction l<;>simp[BV, *]
theorem AfS(l:List (List AV)):GY l=l.all (fun l=>l.all AV.plain):=by induction l<;>simp[GY,Aab, *]
theorem NZ{xs:List (List AV)}(h:GY xs=true):BV xs.flatten=true:=by
 grind [Aab,AfS]
theorem OQ{xs:List (List AV)}(h:HR xs=true):C8 xs.flatten=true:=by
 grind [Xg,T8]
structure Ctx.Seen(C C':Ctx):Prop where
 P:C'.P=C.P
 zt:∀b,C.zt b→C'.zt b
 zb:∀b,C'.zt b→C'.zb b
mutual
theorem RV.E1{C C':Ctx}{w:World}(hC:C.Seen C'):∀{a:AV} {v:Value} {f:List Nat},RV C w a v f→a.plain=true→RV C' w a v f
 |_,_,_,.lit v h,_=>.lit v h
 |_,_,_,.dead v h,h'=>by simp[AV.plain]at h'
 |_,_,_,.ptr o c h,h'=>by simp[AV.plain]at h'
 |_,_,_,.ref ..,h'=>by simp[AV.plain]at h'
 |_,_,_,.adr ..,h'=>by simp[AV.plain]at h'
 |_,_,_,.iadr ..,h'=>by simp[AV.plain]at h'
 |_,_,_,.clo name caps f fn cvs hf hn hr,h'=>.clo name caps f fn cvs (by rw[hC.P];exact hf) hn (RVs.E1 hC hr (by simpa[AV.plain]using h'))
 |_,_,_,.slNil τ k,_=>.slNil τ k
 |_,_,_,.shrE τ k a cap ht,_=>.shrE τ k a cap ht
 |_,_,_,.own k xs b off cap cs e f hb hs hc hm hk hr,h'=>.own k xs b off cap cs e f hb hs hc hm hk (RVs.E1 hC hr (NZ (by simpa[AV.plain]using h')))
 |_,_,_,.shr .own k xs b off cap cs e fz ht z hi hb hs hc hk hr,h'=>absurd rfl ht
 |_,_,_,.shr .imm k xs b off cap cs e fz ht z hi hb hs hc hk hr,h'=>
  .shr .imm k xs b off cap cs e fz ht (hC.zb b (hC.zt b (hi rfl))) (fun _=>hC.zt b (hi rfl)) hb hs hc hk (RVs.E1 hC hr (NZ (by simpa[AV.plain]using h')))
 |_,_,_,.shr .brw k xs b off cap cs e fz ht z hi hb hs hc hk hr,h'=>by simp[AV.plain]at h'
theorem RVs.E1{C C':Ctx}{w:World}(hC:C.Seen C'):∀{l:List AV} {m:List Value} {f:List Nat},RVs C w l m f→BV l=true→RVs C' w l m f
 |_,_,_,.nil,_=>.nil
 |_,_,_,.cons a v f l m g h t,h'=>by
  simp only[BV,Qa2]at h';exact .cons a v f l m g (RV.E1 hC h h'.1) (RVs.E1 hC t h'.2)
end
structure Ctx.Kept(C C':Ctx):Prop where
 seen:C.Seen C'
 lam:C'.lam=C.lam
 nx:C'.nx=C.nx
mutual
theorem RV.KR{C C':Ctx}{w:World}(hC:C.Kept C'):∀{a:AV} {v:Value} {f:List Nat},RV C w a v f→a.free=true→RV C' w a v f
 |_,_,_,.lit v h,_=>.lit v h
 |_,_,_,.dead v h,h'=>by simp[AV.free]at h'
 |_,_,_,.ptr o c h,_=>by rw[←hC.lam];exact .ptr o c (by rw[hC.nx];exact h)
 |_,_,_,.ref ..,h'=>by simp[AV.free]at h'
 |_,_,_,.adr ..,h'=>by simp[AV.free]at h'
 |_,_,_,.iadr ..,h'=>by simp[AV.free]at h'
 |_,_,_,.clo name caps f fn cvs hf hn hr,h'=>.clo name caps f fn cvs (by rw[hC.seen.P];exact hf) hn (RVs.KR hC hr (by simpa[AV.free]using h'))
 |_,_,_,.slNil τ k,_=>.slNil τ k
 |_,_,_,.shrE τ k a cap ht,_=>.shrE τ k a cap ht
 |_,_,_,.own k xs b off cap cs e f hb hs hc hm hk hr,h'=>.own k xs b off cap cs e f hb hs hc hm hk (RVs.KR hC hr (OQ (by simpa[AV.free]using h')))
 |_,_,_,.shr .own k xs b off cap cs e fz ht z hi hb hs hc hk hr,h'=>absurd rfl ht
 |_,_,_,.shr .imm k xs b off cap cs e fz ht z hi hb hs hc hk hr,h'=>
  .shr .imm k xs b off cap cs e fz ht (hC.seen.zb b (hC.seen.zt b (hi rfl))) (fun _=>hC.seen.zt b (hi rfl)) hb hs hc hk (RVs.KR hC hr (OQ (by simpa[AV.free]using h')))
 |_,_,_,.shr .brw k xs b off cap cs e fz ht z hi hb hs hc hk hr,h'=>by simp[AV.free]at h'
theorem RVs.KR{C C':Ctx}{w:World}(hC:C.Kept C'):∀{l:List AV} {m:List Value} {f:List Nat},RVs C w l m f→C8 l=true→RVs C' w l m f
 |_,_,_,.nil,_=>.nil
 |_,_,_,.cons a v f l m g h t,h'=>by
  simp only[C8,Qa2]at h';exact .cons a v f l m g (RV.KR hC h h'.1) (RVs.KR hC t h'.2)
end
def start(args:List SV)(H:Heap):St:=⟨fun t=>match args[t]?with|some s=>.val true s|none=>.dead,H,fun _=>0,0⟩
def fin(r:TV)(H:Heap):St:=⟨fun t=>if t=0 then r else .dead,H,fun _=>0,0⟩
def Env.one(E:Env):Env:=⟨E.P,E.w0,E.f0,E.i0,1,E.n0,E.l0,E.lw⟩
def TV.kept:TV→Bool
 |.val true s=>C8 s.cells
 |.tup l=>l.all fun s=>C8 s.cells
 |_=>false
def TV.plain:TV→Bool
 |.val true s=>BV s.cells
 |.tup l=>l.all fun s=>BV s.cells
 |_=>false
def Heap.Free(H:Heap):Prop:=∀o l,H.get o=some l→C8 l=true
def Gives(E:Env)(K:TV→Heap→Prop)(v:Value)(w':World):Prop:=
 ∃r H' lam z fp,K r H'∧r.kept=true∧Ax E.one lam z fp Ao (fin r H') #[v] w'
def Lt(E:Env)(ch:List PanicEntry)(w':World):Prop:=
 ∃v,ch=[{v,recovered:=false}]∧E.P.kp v∧(∀b,b<E.w0.heap.size→¬E.f0 b→w'.heap[b]?=E.w0.heap[b]?)∧w'.os=E.w0.os∧w'.tape=E.w0.tape∧w'.output=E.w0.output∧E.w0.heap.size≤w'.heap.size
def Ll(P:Pg)(name:String)(args:List SV)(H:Heap)(K:TV→Heap→Prop):Prop:=
 ∀f fn,P.funcs[f]?=some fn→fn.name=name→fn.body.isSome=true∧(fn.name== "runtime.NumGoroutine")=false∧∀(E:Env) (w:World) (vs:Array Value) (lam:Nat→Nat) (fp:Ky→List Nat),E.P=P→E.w0=w→E.n0=H.next→E.nt=vs.size→vs.size=args.length→
  Ax E lam (fun _=>False) fp Ao (start args H) vs w→(∀(t:Nat) (s:SV),args[t]?=some s→s.cells.all AV.solid=true)→
  Calls P f vs w fun
   |.returned v,w'=>Gives E K v w'
   |.panicked ch,w'=>Lt E ch w'
   |_,_=>False
theorem Ll.mono{P:Pg}{name:String}{args:List SV}{H:Heap}{K K':TV→Heap→Prop}(h:Ll P name args H K)(hk:∀r H',K r H'→K' r H'):Ll P name args H K':=by
 intro f fn hf hn;obtain⟨hb,hg,h⟩:=h f fn hf hn;refine⟨hb,hg,fun E w vs lam fp h1 h2 h3 h4 h5 h6 h7=>?_⟩
 refine(h E w vs lam fp h1 h2 h3 h4 h5 h6 h7).mono fun e w' he=>?_
 cases e with
 |returned v=>
  obtain⟨r,H',lam,z,fp,k,rest⟩:=he;exact⟨r,H',lam,z,fp,hk _ _ k,rest⟩
 |_=>exact he
def Heap.shown(H:Heap)(V:Vis):Heap:=⟨fun o=>if V.sees o then H.get o else none,H.next⟩
section
variable{E:Env}{lam:Nat→Nat}{z:Nat→Prop}{fp:Ky→List Nat}{hd:Hands}{st:St}{tm:Array Value}{w:World}{ds:List Deferred}
theorem Akr(E:Env)(lam:Nat→Nat){z z1:Nat→Prop}(h:∀b,z b→z1 b)(nx:Nat):(ctx E lam z nx).Le (ctx E lam z1 nx):=
 ⟨rfl,fun _ _=>rfl,Qa9 _,fun b hb=>hb.imp id (h b),fun b hb=>hb.imp id (h b)⟩
def SV.frz:SV→SV
 |.one a=>.one a.frz
 |.agg l=>.agg (l.map AV.frz)
theorem Ait(s:SV):s.frz.cells=Aa0 s.cells:=by
 cases s<;>simp[SV.frz,SV.cells,Sa]
structure Frozen(E:Env)(lam:Nat→Nat)(z:Nat→Prop)(fp:Ky→List Nat)(st:St)(tm:Array Value)(w:World)(who:Nat→Prop)(st1:St)(z1:Nat→Prop)(fp1:Ky→List Nat):Prop where
 rel:Ax E lam z1 fp1 Ao st1 tm w
 refs:Refs st1 tm w lam
 zle:∀b,z b→z1 b
 fs:∀m b,b∈fp (.s m)→b∈fp1 (.s m)∨z1 b
 who:∀n s,who n→st.sl n=.val true s→∀b,b∈fp (.s n)→z1 b
 fo:∀o,fp1 (.o o)=fp (.o o)
 zs:∀b,z1 b→z b∨∃n,b∈fp (.s n)
 hp:st1.hp=st.hp
 hv:st1.hv=st.hv
 sub:∀m b,b∈fp1 (.s m)→b∈fp (.s m)
 val:∀m s,st.sl m=.val true s→∃s',st1.sl m=.val true s'
theorem ZO(R:Ax E lam z fp Ao st tm w)(F:Refs st tm w lam)(x:Opd):∃z1 fp1,Frozen E lam z fp st tm w (fun n=>x=.t n) (st.EG x) z1 fp1:=by
 have triv:st.EG x=st→(∀n s,x=.t n→st.sl n=.val true s→fp (.s n)=[])→∃z1 fp1,Frozen E lam z fp st tm w (fun n=>x=.t n) (st.EG x) z1 fp1:=by
  intro e h0;rw[e];exact⟨z,fp,⟨R,F,fun _ h=>h,fun _ _ h=>.inl h,fun n s hx hs b hb=>zg,fun _=>rfl,fun _ h=>.inl h,rfl,rfl,fun _ _ h=>h,fun m s hs=>⟨s,hs⟩⟩⟩
 cases x with
 |c v=>exact triv rfl (fun _ _ h=>nomatch h)
 |f nm=>exact triv rfl (fun _ _ h=>nomatch h)
 |t n=>
  cases ho:(st.sl n).CI with
  |false=>
   refine triv (by simp[St.EG,ho]) ?_;intro m s hx hs;cases hx;have hk:=R.keys (.s n);simp only[AQ,hs]at hk;have h1:=(hk.1 rfl).cells;exact h1.Fe (by rw[hs]at ho;exact ho)
  |true=>
   cases hs:st.sl n with
   |dead=>grind [TV.CI]
   |tup l=>
    have e:st.EG (.t n)=st.set n (.tup l):=by grind [St.EG]
    rw[e];refine⟨z,fp,⟨?_,?_,fun _ h=>h,fun _ _ h=>.inl h,fun m s hx hs' b hb=>zg,fun _=>rfl,fun _ h=>.inl h,rfl,rfl,fun _ _ h=>h,?_⟩⟩
    ·have hsl:(st.set n (.tup l)).sl=st.sl:=by
      funext t
      simp_all [St.set,upd]
     have:=R.vers (st.set n (.tup l)).vs (st.set n (.tup l)).hv;rw[←hsl]at this;trivial
    ·have:=F.Pf (d:=n) (x:=.tup l) (v:=tm.getD n undef) (fun s h=>nomatch h)
     grind [C7]
    ·intro m s hm
     by_cases hmn:m=n
     ·grind
     simp_all [St.set,upd]
   |val g s=>
    have e:st.EG (.t n)=st.set n (.val g s.frz):=by
     rw[hs]at ho;simp only[St.EG,hs,ho,if_true]
     cases s<;>rfl
    rw[e];generalize hs2:s.frz=s2;have hk:=R.keys (.s n);simp only[AQ,hs]at hk;have hle:=Akr E lam (z:=z) (z1:=fun b=>z b∨b∈fp (.s n)) (fun _ h=>.inl h) st.hp.next
    have hC:∀b,b∈fp (.s n)→(ctx E lam (fun b=>z b∨b∈fp (.s n)) st.hp.next).zb b∧(ctx E lam (fun b=>z b∨b∈fp (.s n)) st.hp.next).zt b:=fun b hb=>⟨.inr (.inr hb),.inr (.inr hb)⟩
    refine⟨fun b=>z b∨b∈fp (.s n),upk fp (.s n) [],⟨⟨?_,⟨?_,?_,?_⟩,?_,R.frame,R.os,R.tape,R.output,R.size,R.tsz,R.base,R.i0⟩,?_,fun _ h=>.inl h,?_,fun m s hx _ b hb=>zg,fun o=>BA _ _ zsz,?_,rfl,rfl,?_,?_⟩⟩
    ·intro κ
     by_cases hκ:κ=.s n
     ·subst hκ;rw[FW];simp only[AQ,St.set,upd,if_true];refine⟨fun hg=>?_,fun hg=>⟨(hk.2 hg).1,rfl⟩⟩;have h1:=hk.1 hg;subst hs2
      cases s with
      |one a=>exact RV.frz hle h1 hC
      |agg l=>
       obtain⟨cs,e1,h1⟩:=h1;refine⟨cs,e1,?_⟩
       rw[←Sa]<;>grind [RVs.frz]
     ·rw[BA _ _ hκ];have:=(R.keys κ).frame hle (fun _ _=>rfl) (fun _ _=>rfl)
      cases κ with
      |s t=>
       simp_all [AQ,St.set,upd]
      |o o=>trivial
      |h i=>trivial
    ·intro κ
     by_cases hκ:κ=.s n
     ·simp_all
     ·rw[BA _ _ hκ];exact R.fps.nod κ
    ·intro κ κ' b hne hb hb'
     by_cases hκ:κ=.s n
     ·simp_all
     ·by_cases hκ':κ'=.s n
      ·simp_all
      ·rw[BA _ _ hκ]at hb;rw[BA _ _ hκ']at hb';exact R.fps.dis κ κ' b hne hb hb'
    ·intro κ b hb
     by_cases hκ:κ=.s n
     ·simp_all
     ·rw[BA _ _ hκ]at hb;obtain⟨h1,h2,h3⟩:=R.fps.ok κ b hb;exact⟨h1,h2,fun h=>h.elim h3 (fun h=>R.fps.dis κ (.s n) b hκ hb h)⟩
    ·rintro b (hb|hb)
     ·exact R.z b hb
     ·exact⟨(R.fps.ok _ b hb).1,(R.fps.ok _ b hb).2.1⟩
    ·cases hg:g with
     |false=>
      have:=F.Pf (d:=n) (x:=.val false s2) (v:=tm.getD n undef) (fun s h=>by cases h)
      grind [C7]
     |true=>
      subst hg
      have hin:ES st tm w lam s2 (tm.getD n undef):=by
       intro j a u hj hu
       have hc:s2.cells=Aa0 s.cells:=by grind [Ait]
       rw[hc,Sa,Qc2]at hj
       cases hsj:s.cells[j]?with
       |none=>grind
       |some a0=>
        rw[hsj]at hj;simp only[Qb2,Qa1]at hj
        have hvc:vcells s2 (tm.getD n undef)=vcells s (tm.getD n undef):=by
         rw[←hs2]
         cases s with
         |one a=>rfl
         |agg l=>exact K8 _ _ _
        rw[hvc]at hu;have:=F n s hs j a0 u hsj hu;subst hj
        cases a0 with
        |sl τ k xs=>cases τ<;>exact trivial
        |_=>exact this
      by_cases hnt:n<tm.size
      ·have:=F.set (d:=n) (s:=s2) (v:=tm.getD n undef) hnt hin
       grind [C7]
      ·intro t s' hs'
       by_cases ht:t=n
       ·subst ht;simp only[St.set,upd,if_true,TV.val.injEq,true_and]at hs';subst hs';have:=hin.set (d:=t) (x:=.val true s2) (v:=tm.getD t undef)
        grind
       ·simp only[St.set,upd,if_neg ht]at hs';have:=(F t s' hs').set (d:=n) (x:=.val true s2) (v:=tm.getD n undef)
        grind
    ·intro m b hb
     by_cases hm:m=n
     ·grind
     simp_all [BA]
    ·grind
    ·intro m b hb
     by_cases hm:m=n
     ·simp_all
     simp_all [BA]
    ·intro m s' hm
     by_cases hmn:m=n
     ·simp_all [St.set,upd]
     simp_all [St.set,upd]
theorem Xj:∀(xs:List Opd) {z:Nat→Prop} {fp:Ky→List Nat} {st:St},Ax E lam z fp Ao st tm w→Refs st tm w lam→∃z1 fp1,Frozen E lam z fp st tm w (fun n=>.t n∈xs) (st.HS xs) z1 fp1
 |[],z,fp,st,R,F=>⟨z,fp,⟨R,F,fun _ h=>h,fun _ _ h=>.inl h,(fun _ _ h=>nomatch h),fun _=>rfl,fun _ h=>.inl h,rfl,rfl,fun _ _ h=>h,fun m s hs=>⟨s,hs⟩⟩⟩
 |x::xs,z,fp,st,R,F=>by
  obtain⟨z1,fp1,A⟩:=ZO R F x;obtain⟨z2,fp2,B⟩:=Xj xs A.rel A.refs;refine⟨z2,fp2,⟨B.rel,B.refs,fun b h=>B.zle b (A.zle b h),?_,?_,fun o=>(B.fo o).trans (A.fo o),?_,B.hp.trans A.hp,B.hv.trans A.hv,fun m b hb=>A.sub m b (B.sub m b hb),?_⟩⟩
  ·intro m b hb
   rcases A.fs m b hb with h|h
   ·exact B.fs m b h
   ·exact .inr (B.zle b h)
  ·intro n s hn hs b hb
   rcases List.mem_cons.1 hn with hn|hn
   ·exact B.zle b (A.who n s hn.symm hs b hb)
   ·obtain⟨s',hs'⟩:=A.val n s hs
    rcases A.fs n b hb with h|h
    ·exact B.who n s' hn hs' b h
    ·exact B.zle b h
  ·intro b hb
   rcases B.zs b hb with h|⟨n,h⟩
   ·exact A.zs b h
   ·exact .inr ⟨n,A.sub n b h⟩
  ·intro m s hs;obtain⟨s',hs'⟩:=A.val m s hs;exact B.val m s' hs'
end
end Go.VS
namespace Go.VS
section
variable{E:Env}{lam:Nat→Nat}{z:Nat→Prop}{fp:Ky→List Nat}{hd:Hands}{st:St}{tm:Array Value}{w:World}{ds:List Deferred}
theorem Ae1(R:Ax E lam z fp Ao st tm w){C':Ctx}(hC:(ctx E lam z st.hp.next).Le C'){V:Vis}(hs:∀m b,b∈fp (.s m)→C'.zb b)(ho:∀o b,V.sees o=false→b∈fp (.o o)→C'.zb b)
  {a a':AV} {v:Value} {f:List Nat} (hv:RV (ctx E lam z st.hp.next) w a v f) (hf:∀b,b∈f→C'.zb b∧C'.zt b) (hr:Bq st tm w lam a v) (h:(st.Fz V a).holds (·=a')):
  RV C' w a' v []∧a'.solid=true:=by
 have same:a.Ci=false→a'=a→a.solid=true→RV C' w a' v []∧a'.solid=true:=by
  rintro h1 rfl h2;have:=hv.Fe h1;rw[this]at hv;exact⟨hv.frame hC (fun _ _=>rfl) (fun _ h=>nomatch h),h2⟩
 cases a with
 |ref p ver k lo n=>
  simp only[St.Fz]at h;split at h
  case h_2=>trivial
  rename_i k' xs hp;simp only[M.Aa,M.Ak]at h;obtain⟨himp,hver,hk,hlo,h⟩:=h;subst hk;rw[M.Ae]at h;subst h;obtain⟨xs',v0,q1,q2,q3⟩:=hr.2 hver;rw[hp]at q1;cases q1;obtain⟨u,g,c1,c2,c3⟩:=R.Pz hp;rw[q2]at c1;cases c1;obtain⟨f2,w1,w2,w3⟩:=NA c2 q3 hlo;refine⟨RV.lend hC w1 (fun b hb=>?_),rfl⟩;have:=c3 b (w3 b hb)
  cases hroot:p.root with
  |slot t j=>rw[hroot]at this;exact hs t b this
  |obj o c=>
   rw[hroot]at this;rw[hroot]at himp;exact ho o b (by grind [Root.hid]) this
 |sl τ k xs=>
  cases τ with
  |own=>
   simp only[St.Fz]at h;rw[M.Ae]at h;subst h;exact⟨RV.frz hC hv hf,rfl⟩
  |imm=>simp only[St.Fz]at h;rw[M.Ae]at h;exact same rfl h.symm rfl
  |brw=>simp only[St.Fz]at h;rw[M.Ae]at h;exact same rfl h.symm rfl
 |lit v=>simp only[St.Fz]at h;rw[M.Ae]at h;exact same rfl h.symm rfl
 |ptr o c=>simp only[St.Fz]at h;rw[M.Ae]at h;exact same rfl h.symm rfl
 |clo nm caps=>simp only[St.Fz]at h;rw[M.Ae]at h;exact same rfl h.symm rfl
 |adr=>trivial
 |iadr=>trivial
 |dead=>trivial
theorem UK(R:Ax E lam z fp Ao st tm w){C':Ctx}(hC:(ctx E lam z st.hp.next).Le C'){V:Vis}(hs:∀m b,b∈fp (.s m)→C'.zb b)(ho:∀o b,V.sees o=false→b∈fp (.o o)→C'.zb b):
  ∀{l l':List AV} {m:List Value} {f:List Nat},RVs (ctx E lam z st.hp.next) w l m f→(∀b,b∈f→C'.zb b∧C'.zt b)→(∀(j:Nat) (a:AV) (u:Value),l[j]?=some a→m[j]?=some u→Bq st tm w lam a u)→
   (st.HN V l).holds (·=l')→RVs C' w l' m []∧l'.all AV.solid=true∧l'.length=l.length
 |[],l',m,f,hv,hf,hr,h=>by
  simp only[St.HN]at h;rw[M.Ae]at h;subst h
  cases m with
  |nil=>exact⟨.nil,rfl,rfl⟩
  |cons=>trivial
 |a::l,l',m,f,hv,hf,hr,h=>by
  simp only[St.HN,M.Aa]at h;rw[M.Aw]at h;obtain⟨b,h1,h⟩:=h;rw[M.Aw]at h;obtain⟨l2,h2,h⟩:=h;rw[M.Ae]at h;subst h
  cases hv with
  |cons _ v f1 _ m' f2 ha ht=>
   obtain⟨r1,s1⟩:=Ae1 R hC hs ho ha (fun b hb=>hf b zg) (hr 0 a v rfl rfl) h1;obtain⟨r2,s2,e2⟩:=UK R hC hs ho ht (fun b hb=>hf b zg) (fun j a u hj hu=>hr (j+1) a u hj hu) h2;exact⟨.cons _ v [] _ m' [] r1 r2,zg,zg⟩
theorem Ape(R:Ax E lam z fp Ao st tm w)(F:Refs st tm w lam){C':Ctx}(hC:(ctx E lam z st.hp.next).Le C'){V:Vis}(hs:∀m b,b∈fp (.s m)→C'.zb b)(ho:∀o b,V.sees o=false→b∈fp (.o o)→C'.zb b)
  {o:Operand} {x:Opd} (hop:AE E.P o=some x) (hz:∀n s,x=.t n→st.sl n=.val true s→∀b,b∈fp (.s n)→C'.zt b) {s:SV} (h:(st.arg V true x).holds (·=s)) (ds:List Deferred):
  RSV C' w s (Act.eval ⟨tm,ds⟩ o) []∧s.cells.all AV.solid=true:=by
 have hP:C'.P=E.P:=hC.P
 cases o with
 |global n=>trivial
 |func f=>
  simp only[AE,Qa0]at hop;obtain⟨fn,hf,rfl⟩:=hop;simp only[St.arg]at h;rw[M.Ae]at h;subst h;exact⟨RV.clo (fn.name,false) [] f fn [] zg rfl .nil,rfl⟩
 |const v=>
  simp only[AE]at hop;split at hop
  case isFalse=>grind
  rename_i h1;simp only[Qa1]at hop;subst hop;simp only[St.arg]at h;rw[M.Ae]at h;subst h;exact⟨RV.lit v h1,rfl⟩
 |tmp n=>
  simp only[AE,Qa1]at hop;subst hop;simp only[St.arg]at h;split at h
  case h_2=>trivial
  rename_i b s0 hsl;simp only[M.Aa,M.Ak]at h;obtain⟨hb,h⟩:=h;obtain rfl:=hb trivial;rw[M.Aw]at h;obtain⟨l,h1,h⟩:=h;rw[M.Ae]at h;subst h;have hk:=R.keys (.s n);simp only[AQ,hsl]at hk;have hv:=hk.1 rfl;obtain⟨r1,r2,r3⟩:=UK R hC hs ho hv.cells (fun b hb=>⟨hs n b hb,hz n s0 rfl hsl b hb⟩) (F n s0 hsl) h1;obtain⟨f1,f2,f3⟩:=hv.fits r3
  exact⟨f1 C' w [] zg,zg⟩
theorem VO(R:Ax E lam z fp Ao st tm w)(F:Refs st tm w lam){C':Ctx}(hC:(ctx E lam z st.hp.next).Le C'){V:Vis}(hs:∀m b,b∈fp (.s m)→C'.zb b)(ho:∀o b,V.sees o=false→b∈fp (.o o)→C'.zb b)(ds:List Deferred):
  ∀{os:List Operand} {xs:List Opd} {args:List SV},Fv E.P os=some xs→(∀n s,.t n∈xs→st.sl n=.val true s→∀b,b∈fp (.s n)→C'.zt b)→(st.args V true xs).holds (·=args)→
   args.length=os.length∧∀(t:Nat) (s:SV),args[t]?=some s→∃o,os[t]?=some o∧RSV C' w s (Act.eval ⟨tm,ds⟩ o) []∧s.cells.all AV.solid=true
 |[],xs,args,hop,hz,h=>by
  grind [Fv,St.args,M.Ae]
 |o::os,xs,args,hop,hz,h=>by
  simp only[Fv]at hop;split at hop
  case h_2=>grind
  rename_i y l hy hl;cases hop;simp only[St.args,M.Aa]at h;rw[M.Aw]at h;obtain⟨a,h1,h⟩:=h;rw[M.Aw]at h;obtain⟨l',h2,h⟩:=h;rw[M.Ae]at h;subst h;obtain⟨r1,r2⟩:=Ape R F hC hs ho hy (fun n s hx=>hz n s zg) h1 ds
  obtain⟨e,r⟩:=VO R F hC hs ho ds hl (fun n s hx=>hz n s (by simp[hx])) h2<;>grind
def VG(V:Vis)(fp:Ky→List Nat):Nat→Prop:=fun b=>∃o,V.sees o=true∧b∈fp (.o o)
def callee(E:Env)(lam:Nat→Nat)(z1:Nat→Prop)(fp1:Ky→List Nat)(w:World)(V:Vis)(nx nt:Nat):Env:=⟨E.P,w,VG V fp1,fun b=>E.i0 b∨z1 b,nt,nx,lam,E.lw⟩
theorem AkC(R:Ax E lam z fp Ao st tm w){st1:St}{z1:Nat→Prop}{fp1:Ky→List Nat}(R1:Ax E lam z1 fp1 Ao st1 tm w)(hz:∀b,z b→z1 b)(hhp:st1.hp=st.hp)(hfo:∀o,fp1 (.o o)=fp (.o o))
  {V:Vis} {vs:Array Value} {args:List SV} (hlen:vs.size=args.length) (hargs:∀(t:Nat) (s:SV),args[t]?=some s→∃v,vs[t]?=some v∧RSV (ctx (callee E lam z1 fp1 w V st.hp.next vs.size) lam (fun _=>False) st.hp.next) w s v []):
  Ax (callee E lam z1 fp1 w V st.hp.next vs.size) lam (fun _=>False) (fun κ=>match κ with|.o o=>if V.sees o then fp1 (.o o)else[]|_=>[]) Ao (start args (st.hp.shown V)) vs w:=by
 have hnx:(start args (st.hp.shown V)).hp.next=st.hp.next:=rfl
 have hle:(ctx E lam z1 st.hp.next).Le (ctx (callee E lam z1 fp1 w V st.hp.next vs.size) lam (fun _=>False) st.hp.next):=
  ⟨rfl,fun _ _=>rfl,Qa9 _,fun b hb=>.inl hb,fun b hb=>.inl ⟨R1.AgP hb,fun⟨o,_,ho⟩=>R1.Ado ho hb⟩⟩
 refine⟨?_,⟨?_,?_,?_⟩,fun _ h=>h.elim,fun _ _ _=>rfl,rfl,rfl,rfl,Qa9 _,rfl,⟨by rw[hnx];exact Qa9 _,fun _ _=>rfl⟩,?_⟩
 ·intro κ;rw[hnx]
  cases κ with
  |s t=>
   simp only[AQ,start]
   cases ht:args[t]?with
   |none=>rfl
   |some s=>
    obtain⟨v,hv,hr⟩:=hargs t s ht
    have:vs.getD t undef=v:=by simp_all
    rw[this];exact⟨fun _=>hr,fun h=>nomatch h⟩
  |o o=>
   intro l hl;simp only[start,Heap.shown]at hl;split at hl
   case isFalse=>cases hl
   rename_i hv;have:=(R1.keys (.o o)).frame (w':=w) (by rw[hhp];omega) (fun _ _=>rfl) (fun _ _=>rfl)
   simp only[hv,if_true];exact this l zg
  |h i=>exact RVs.nil
 ·intro κ
  cases κ with
  |o o=>
   dsimp only;split
   ·exact R1.fps.nod _
   grind
  |_=>grind
 ·intro κ κ' b hne hb hb'
  cases κ with
  |o o=>
   cases κ' with
   |o o'=>
    dsimp only at hb hb';split at hb
    ·split at hb'
     ·exact R1.fps.dis _ _ b zg hb hb'
     grind
    grind
   |_=>grind
  |_=>cases hb
 ·intro κ b hb
  cases κ with
  |o o=>
   dsimp only at hb;split at hb
   ·rename_i hi;exact⟨(R1.fps.ok _ b hb).1,.inl ⟨o,hi,hb⟩,id⟩
   grind
  |_=>cases hb
 ·have key:∀b,b<E.w0.heap.size∧¬E.f0 b→b<w.heap.size∧¬VG V fp1 b:=by
   intro b h1;refine⟨Qa6 h1.1 R1.size,fun⟨o,_,ho⟩=>?_⟩
   rcases(R1.fps.ok _ b ho).2.1 with h|h<;>grind
  refine⟨?_,fun b hb=>key b (R1.i0.lt b hb),fun b hb=>(R1.frame b (R1.i0.lt b hb).1 (R1.i0.lt b hb).2).trans (R1.i0.eq b hb),R1.i0.good⟩;rintro b (hb|hb)
  ·exact key b (R1.i0.own b hb)
  ·exact⟨(R1.z b hb).1,fun⟨o,_,ho⟩=>(R1.fps.ok _ b ho).2.2 hb⟩
end
end Go.VS
namespace Go.VS
def St.Lk(st:St)(dst:Option Nat)(x:TV):St:=
 match dst with
 |some d=>st.set d x
 |none=>st
def Heap.merge(h:Heap)(V:Vis)(H':Heap):Heap:=⟨fun o=>if V.sees o||decide (h.next≤o)then H'.get o else h.get o,H'.next⟩
def St.after(st1:St)(V:Vis)(H':Heap)(dst:Option Nat)(r:TV):St:=
 St.Lk ⟨st1.sl,if V.isSome then st1.hp.merge V H' else st1.hp,st1.vs,if V.isSome then st1.hv+1 else st1.hv⟩ dst r
section
variable{E:Env}{lam:Nat→Nat}{z:Nat→Prop}{fp:Ky→List Nat}{hd:Hands}{st:St}{tm:Array Value}{w:World}{ds:List Deferred}
theorem Ib.turn{C C':Ctx}:∀{l:List SV} {m:List Value} {f:List Nat},Ib C w l m f→(∀s v f,s∈l→RSV C w s v f→RSV C' w s v f)→Ib C' w l m f
 |[],[],_,h,_=>h
 |[],_::_,_,h,_=>h.elim
 |_::_,[],_,h,_=>h.elim
 |s::l,v::m,f,h,hk=>by
  obtain⟨f1,f2,e,h1,h2⟩:=h;exact⟨f1,f2,e,hk s v f1 zsz h1,h2.turn (fun s v f hs=>hk s v f zg)⟩
theorem Afs{a:AV}(h:a.free=true):a.solid=true:=by cases a<;>first|rfl|simp[AV.free]at h
theorem AmJ{st1:St}{z1:Nat→Prop}{fp1:Ky→List Nat}(R1:Ax E lam z1 fp1 Ao st1 tm w)(F1:Refs st1 tm w lam){V:Vis}{r:TV}{H':Heap}{v:Value}{w':World}{lam':Nat→Nat}{z':Nat→Prop}{fp':Ky→List Nat}{n:Nat}
  (R':Ax (callee E lam z1 fp1 w V st1.hp.next n).one lam' z' fp' Ao (fin r H') #[v] w') (hk:r.kept=true) (hfree:V.isSome=true→H'.Free) (hpl:V.isSome=false→r.plain=true) {dst:Option Nat} (hd:∀d,dst=some d→d<E.nt):
  Rel E (st1.after V H' dst r) (NB tm dst v) w':=by
 have hbase:=R'.base;simp only[Env.one,callee,fin]at hbase;have hsz:w.heap.size≤w'.heap.size:=R'.size
 have hsame:∀b,b<w.heap.size→¬VG V fp1 b→w'.heap[b]?=w.heap[b]?:=fun b h1 h2=>R'.frame b h1 h2
 generalize himp:V.isSome=imp at hfree hpl
 let lam2:Nat→Nat:=if imp then lam' else lam
 let z2:Nat→Prop:=fun b=>z1 b∨z' b
 let H2:Heap:=if imp then st1.hp.merge V H' else st1.hp
 have hlam:∀o,o<st1.hp.next→lam2 o=lam o:=by
  grind
 have hnx:st1.hp.next≤H2.next:=by
  cases imp with
  |true=>exact hbase.1
  |false=>grind
 have hseen:∀nx,(ctx (callee E lam z1 fp1 w V st1.hp.next n).one lam' z' H'.next).Seen (ctx E lam2 z2 nx):=by
  intro nx;refine⟨rfl,?_,?_⟩
  ·rintro b ((hb|hb)|hb)
   ·exact .inl hb
   ·exact .inr (.inl hb)
   ·exact .inr (.inr hb)
  ·rintro b (hb|hb)
   ·exact .inl (R1.i0.own b hb)
   ·exact .inr hb
 have hle:(ctx E lam z1 st1.hp.next).Le (ctx E lam2 z2 H2.next):=⟨rfl,hlam,hnx,fun b hb=>hb.imp id .inl,fun b hb=>hb.imp id .inl⟩
 have hzs:∀b,(ctx E lam z1 st1.hp.next).zb b→w'.heap[b]?=w.heap[b]?:=fun b hb=>hsame b (R1.AgP hb) (fun⟨o,_,ho⟩=>R1.Ado ho hb)
 have hslot:∀t b,b∈fp1 (.s t)→w'.heap[b]?=w.heap[b]?∧¬VG V fp1 b:=by
  intro t b hb
  have:¬VG V fp1 b:=fun⟨o,_,ho⟩=>R1.fps.dis (.s t) (.o o) b zsz hb ho
  exact⟨hsame b (R1.fps.ok _ b hb).1 this,this⟩
 have hobj:∀o b,V.sees o=false→b∈fp1 (.o o)→w'.heap[b]?=w.heap[b]?∧¬VG V fp1 b:=by
  intro o b hv hb
  have:¬VG V fp1 b:=fun⟨o',hv',ho⟩=>R1.fps.dis (.o o) (.o o') b zg hb ho
  exact⟨hsame b (R1.fps.ok _ b hb).1 this,this⟩
 have hk0:=R'.keys (.s 0);simp only[AQ,fin,if_true]at hk0
 have hres:RTV (ctx E lam2 z2 H2.next) w' r v (fp' (.s 0)):=by
  have hv0:(#[v]:Array Value).getD 0 undef=v:=rfl;rw[hv0]at hk0
  cases imp with
  |true=>
   have hC:(ctx (callee E lam z1 fp1 w V st1.hp.next n).one lam' z' H'.next).Kept (ctx E lam' z2 H'.next):=⟨hseen _,rfl,rfl⟩
   cases r with
   |dead=>trivial
   |val g s=>
    cases g with
    |false=>trivial
    |true=>
     refine⟨fun _=>?_,fun h=>nomatch h⟩;have h1:=hk0.1 rfl
     cases s with
     |one a=>exact RV.KR hC h1 (by grind [TV.kept,SV.cells,C8])
     |agg l=>obtain⟨cs,e,h1⟩:=h1;exact⟨cs,e,RVs.KR hC h1 (by trivial)⟩
   |tup l=>
    obtain⟨vs,e,h1⟩:=hk0;refine⟨vs,e,h1.turn fun s u f hs h2=>?_⟩;have:=List.all_eq_true.1 (show(l.all fun s=>C8 s.cells)=true from hk) s hs
    cases s with
    |one a=>exact RV.KR hC h2 (by grind [SV.cells,C8])
    |agg l=>obtain⟨cs,e,h2⟩:=h2;exact⟨cs,e,RVs.KR hC h2 (by trivial)⟩
  |false=>
   have hC:=hseen st1.hp.next;have hp:=hpl rfl
   cases r with
   |dead=>trivial
   |val g s=>
    cases g with
    |false=>trivial
    |true=>
     refine⟨fun _=>?_,fun h=>nomatch h⟩;have h1:=hk0.1 rfl
     cases s with
     |one a=>exact RV.E1 hC h1 (by grind [TV.plain,SV.cells,BV])
     |agg l=>obtain⟨cs,e,h1⟩:=h1;exact⟨cs,e,RVs.E1 hC h1 (by trivial)⟩
   |tup l=>
    obtain⟨vs,e,h1⟩:=hk0;refine⟨vs,e,h1.turn fun s u f hs h2=>?_⟩;have:=List.all_eq_true.1 (show(l.all fun s=>BV s.cells)=true from hp) s hs
    cases s with
    |one a=>exact RV.E1 hC h2 (by grind [SV.cells,BV])
    |agg l=>obtain⟨cs,e,h2⟩:=h2;exact⟨cs,e,RVs.E1 hC h2 (by trivial)⟩
 let sl2:Nat→TV:=fun t=>if dst=some t then r else st1.sl t
 let fp2:Ky→List Nat:=fun κ=>match κ with
  |.o o=>if imp&&(V.sees o||decide (st1.hp.next≤o))then fp' (.o o)else fp1 (.o o)
  |.s t=>if dst=some t then fp' (.s 0)else fp1 (.s t)
  |.h _=>[]
 have hnew:∀κ b,b∈fp' κ→b<w'.heap.size∧(VG V fp1 b∨w.heap.size≤b)∧¬z' b:=fun κ b hb=>R'.fps.ok κ b hb
 have hz'new:∀b,z' b→b<w'.heap.size∧(VG V fp1 b∨w.heap.size≤b):=fun b hb=>R'.z b hb
 have kind:∀κ b,b∈fp2 κ→(∃κ',κ'≠.h 0∧b∈fp' κ'∧(κ'=.s 0∧(∃d,κ=.s d∧dst=some d)∨κ'=κ∧imp=true∧∃o,κ=.o o))∨(b∈fp1 κ∧¬VG V fp1 b):=by
  intro κ b hb
  cases κ with
  |o o=>
   simp only[fp2]at hb;split at hb
   ·grind
   ·rename_i hi;refine .inr ⟨hb,(hobj o b ?_ hb).2⟩
    cases hv:V.sees o with
    |false=>rfl
    |true=>
     exfalso;apply hi;simp only[hv,Bool.true_or,Bool.and_true];rw[←himp]
     cases V with
     |none=>cases hv
     |some v=>rfl
  |s t=>
   grind
  |h i=>cases hb
 have own1:∀b,VG V fp1 b→(E.f0 b∨E.w0.heap.size≤b)∧b<w.heap.size∧¬z1 b:=fun b ⟨o,_,ho⟩=>⟨(R1.fps.ok _ b ho).2.1,(R1.fps.ok _ b ho).1,(R1.fps.ok _ b ho).2.2⟩
 have hR:Ax E lam2 z2 fp2 Ao ⟨sl2,H2,(st1.after V H' dst r).vs,(st1.after V H' dst r).hv⟩ (NB tm dst v) w':=by
  refine⟨?_,⟨?_,?_,?_⟩,?_,?_,R'.os.trans R1.os,R'.tape.trans R1.tape,R'.output.trans R1.output,Qc8 R1.size hsz,?_,?_,R1.i0⟩
  ·intro κ
   cases κ with
   |s t=>
    simp only[AQ,sl2,fp2]
    by_cases ht:dst=some t
    ·simp_all [NB,undef,R1.tsz]
    ·rw[if_neg ht,if_neg ht]
     have:(NB tm dst v).getD t undef=tm.getD t undef:=by
      cases hdd:dst with
      |none=>rfl
      |some d=>
       simp_all [NB]
     rw[this];exact RTV.frame hle hzs (R1.keys (.s t)) (fun b hb=>(hslot t b hb).1)
   |o o=>
    intro l hl
    cases hbr:(imp&&(V.sees o||decide (st1.hp.next≤o)))with
    |true=>
     have himp2:imp=true:=zg
     subst himp2
     have hl:H'.get o=some l:=by
      grind [Heap.merge]
     obtain⟨h1,cs,e,f',h2,h3,h4⟩:=R'.keys (.o o) l hl;simp only[fp2,hbr,if_true]
     have hC:(ctx (callee E lam z1 fp1 w V st1.hp.next n).one lam' z' H'.next).Kept (ctx E lam' z2 H'.next):=⟨hseen _,rfl,rfl⟩
     exact⟨h1,cs,e,f',h2,RVs.KR hC h3 (hfree rfl o l hl),h4⟩
    |false=>
     have hv:V.sees o=false:=by
      cases V with
      |none=>rfl
      |some v=>
       grind
     have hl:st1.hp.get o=some l:=by
      grind [Heap.merge]
     have:=(R1.keys (.o o)).frame (C:=ctx E lam z1 st1.hp.next) (C':=ctx E lam2 z2 H2.next) (w':=w') hle hzs (fun b hb=>(hobj o b hv hb).1);simp only[fp2,hbr];exact this l hl
   |h i=>exact RVs.nil
  ·intro κ
   cases κ with
   |o o=>
    simp only[fp2];split
    ·exact R'.fps.nod _
    ·exact R1.fps.nod _
   |s t=>
    simp only[fp2];split
    ·exact R'.fps.nod _
    ·exact R1.fps.nod _
   |h i=>grind
  ·intro κ κ' b hne hb hb'
   rcases kind κ b hb with⟨k1,_,m1,q1⟩|⟨m1,n1⟩<;>rcases kind κ' b hb' with⟨k2,_,m2,q2⟩|⟨m2,n2⟩
   ·refine R'.fps.dis k1 k2 b ?_ m1 m2<;>grind
   ·rcases(hnew k1 b m1).2.1 with h|h
    ·grind
    ·have:=(R1.fps.ok _ b m2).1;omega
   ·rcases(hnew k2 b m2).2.1 with h|h
    ·grind
    ·have:=(R1.fps.ok _ b m1).1;omega
   ·exact R1.fps.dis κ κ' b hne m1 m2
  ·intro κ b hb
   rcases kind κ b hb with⟨k1,_,m1,q1⟩|⟨m1,n1⟩
   ·obtain⟨a1,a2,a3⟩:=hnew k1 b m1;refine⟨a1,?_,?_⟩
    ·grind [R1.size]
    ·rintro(h|h)
     ·rcases a2 with h2|h2
      ·grind
      ·have:=(R1.z b h).1;omega
     grind
   ·obtain⟨a1,a2,a3⟩:=R1.fps.ok κ b m1<;>grind
  ·rintro b (hb|hb)
   ·exact⟨Qa6 (R1.z b hb).1 hsz,(R1.z b hb).2⟩
   grind [R1.size]
  ·intro b hb hf
   rw[hsame b (Qa6 hb R1.size) (fun h=>by
    grind)]
   exact R1.frame b hb hf
  ·cases dst<;>grind [R1.tsz,NB]
  ·exact⟨Qc8 R1.base.1 hnx,fun o ho=>(hlam o (Qa6 ho R1.base.1)).trans (R1.base.2 o ho)⟩
 have hF0:Refs ⟨st1.sl,H2,st1.vs,if imp then st1.hv+1 else st1.hv⟩ tm w' lam2:=by
  intro t s hs j a u hj hu;have h0:=F1 t s hs j a u hj hu
  have place:∀(p:Place) (k:Nat) (xs:List (List AV)) (u0:Value),(∀o c,p.root=.obj o c→imp=false)→st1.at p=some (.sl .own k xs)→conc st1 tm w lam p=some u0→
    St.at ⟨st1.sl,H2,st1.vs,if imp then st1.hv+1 else st1.hv⟩ p=some (.sl .own k xs)∧conc ⟨st1.sl,H2,st1.vs,if imp then st1.hv+1 else st1.hv⟩ tm w' lam2 p=some u0:=by
   intro p k xs u0 hi h1 h2
   have hb:∀b,b∈fp1 p.root.key→w'.heap[b]?=w.heap[b]?:=by
    intro b hb
    cases hr:p.root with
    |slot t' j'=>rw[hr]at hb;exact(hslot t' b hb).1
    |obj o c=>
     rw[hr]at hb;have:=hi o c hr;subst this;refine hsame b (R1.fps.ok _ b hb).1 ?_
     cases V with
     |none=>exact fun⟨_,h,_⟩=>nomatch h
     |some v=>grind
   have h3:=Iv R1 h1 hb;rw[←h3]at h2
   cases hr:p.root with
   |slot t' j'=>
    refine⟨?_,?_⟩
    ·simp only[St.at,hr]at h1⊢;exact h1
    ·simp only[conc,hr]at h2⊢;exact h2
   |obj o c=>
    have hi0:=hi o c hr;subst hi0;trivial
  have hver:∀r0:Root,St.ver ⟨st1.sl,H2,st1.vs,if imp then st1.hv+1 else st1.hv⟩ r0=st1.ver r0∨(imp=true∧(∃o c,r0=.obj o c)∧st1.ver r0<St.ver ⟨st1.sl,H2,st1.vs,if imp then st1.hv+1 else st1.hv⟩ r0):=by
   intro r0
   cases r0<;>grind [St.ver]
  cases a with
  |ref p ver k lo n=>
   obtain⟨h1,h2⟩:=h0
   rcases hver p.root with hv|⟨_,_,hv⟩
   ·refine⟨by rw[hv];exact h1,fun he=>?_⟩<;>grind [St.ver]
   ·exact⟨zm,fun he=>zm⟩
  |adr p ver k i c=>
   obtain⟨h1,h2⟩:=h0
   rcases hver p.root with hv|⟨_,_,hv⟩
   ·refine⟨by rw[hv];exact h1,fun he=>?_⟩<;>grind [St.ver]
   ·exact⟨zm,fun he=>zm⟩
  |_=>exact trivial
 refine⟨lam2,z2,fp2,?_,?_⟩
 ·have e:(st1.after V H' dst r).sl=sl2:=by
   funext t
   cases hdd:dst with
   |none=>grind [St.after,St.Lk]
   |some d=>
    by_cases h:t=d
    ·subst h;simp[St.after,St.Lk,St.set,upd,sl2,hdd]
    ·simp[St.after,St.Lk,St.set,upd,sl2,hdd,h,Ne.symm h]
  have e2:(st1.after V H' dst r).hp=H2:=by cases hdd:dst<;>simp only[St.after,St.Lk,St.set,H2,himp]
  rw[←e,←e2]at hR;exact hR
 ·have eaft:st1.after V H' dst r=St.Lk ⟨st1.sl,H2,st1.vs,if imp then st1.hv+1 else st1.hv⟩ dst r:=by grind [St.after]
  rw[eaft]
  cases hdd:dst with
  |none=>exact hF0
  |some d=>
   have hdl:d<tm.size:=by grind [R1.tsz]
   cases r with
   |val g s=>
    cases g with
    |true=>
     refine hF0.set hdl ?_;intro j a u hj _;refine NG (Afs ?_)
     have:C8 s.cells=true:=by trivial
     grind [Xg]
    |false=>trivial
   |tup l=>exact hF0.Pf (fun s h=>by cases h)
   |dead=>trivial
end
end Go.VS
namespace Go.VS
section
variable{E:Env}{lam:Nat→Nat}{z:Nat→Prop}{fp:Ky→List Nat}{hd:Hands}{st:St}{tm:Array Value}{w:World}{ds:List Deferred}
theorem XP{P:Pg}{o:Oper}{n:Nat}(ho:SH P o=some (.mv (.t n))):o.op=.move (.tmp n):=by
 unfold SH at ho;split at ho
 case h_1=>
  rename_i x hop;simp only[Qa0]at ho;obtain⟨a,ha,he⟩:=ho;cases he
  cases x<;>grind [AE,Opd.t.injEq]
 case h_22=>
  grind [Gf]
 case h_25=>cases ho
 all_goals try unfold UP at ho
 all_goals try unfold L7 at ho
 all_goals repeat' split at ho
 all_goals first
  |(simp only[Qa0]at ho;obtain⟨_,_,h⟩:=ho;cases h;done)
  |(cases ho;done)
def St.Z5(st:St)(n d:Nat)(l:List SV):St:=(st.set n .dead).set d (.tup l)
theorem XQ{P:Pg}{o:Oper}{n:Nat}(h:o.op=.move (.tmp n))(w:World):(execOp (Act.eval ⟨tm,ds⟩) o).run P w=.ok (.value (tm.getD n undef)) w:=by
 simp[execOp,h,Act.eval]
theorem Adm(R:Rel E st tm w){n d:Nat}{l:List SV}(hsl:st.sl n=.tup l)(hd:d<E.nt)(hne:n≠d):Rel E (st.Z5 n d l) (NB tm (some d) (tm.getD n undef)) w:=by
 obtain⟨lam,z,fp,R,F⟩:=R;have hk:=R.keys (.s n);simp only[AQ,hsl]at hk
 have R1:=R.pass (.s n) (.s d) zg (Moves.refl _ w) (hd':=Ao) (st':=st.Z5 n d l) (tm':=tm.setIfInBounds d (tm.getD n undef)) rfl Array.size_setIfInBounds (by
   intro κ' h1 h2 C u g hK
   cases κ' with
   |s t'=>
    have hj:t'≠n:=fun e=>h1 (by rw[e])
    have hj2:t'≠d:=fun e=>h2 (by rw[e])
    have e:(tm.setIfInBounds d (tm.getD n undef)).getD t' undef=tm.getD t' undef:=by
     simp only[Qb1]<;>grind
    simp_all [AQ,St.Z5,St.set,upd]
   |o o=>exact hK
   |h j=>exact hK) (f:=[]) (f1:=fp (.s n)) (by
    simp_all [AQ,St.Z5,St.set,upd,RTV])
   (by
    simp_all [undef,R.tsz,AQ,St.Z5,St.set,upd]) Qa4 (R.fps.nod _) (fun _ h=>nomatch h) (fun _ h=>nomatch h) (fun b hb=>.inl hb)
 refine⟨lam,z,_,R1,?_⟩
 have F1:Refs (st.set n .dead) tm w lam:=by
  have:=F.Pf (d:=n) (x:=.dead) (v:=tm.getD n undef) (fun s h=>nomatch h)
  grind [C7]
 exact F1.Pf (fun s h=>nomatch h)
end
end Go.VS
namespace Go.VS
def St.callee(st:St)(V:Vis):AOp→M (String×List SV)
 |.call f xs=>do
  let a←st.args V true xs
  pure (f,a)
 |.callv f xs=>do
  match←st.CJ true f with
  |.clo nm caps=>do
   M.need (caps.all AV.solid=true)
   let a←st.args V true xs
   pure (nm.1,bif nm.2 then caps.map .one++a else a++caps.map .one)
  |_=>M.fail
 |_=>M.fail
def AOp.given:AOp→List Opd
 |.call _ xs=>xs
 |.callv _ xs=>xs
 |_=>[]
def Heap.Sub(H'' H':Heap):Prop:=H''.next=H'.next∧∀o,H''.get o=none∨H''.get o=H'.get o
def JK(P:Pg)(st:St)(dst:Option Nat)(op:AOp)(K:St→Prop):Prop:=
 ∃V:Vis,(st.callee V op).holds fun(nm,args)=>Ll P nm args (st.hp.shown V) fun r H'=>∃H'':Heap,H''.Sub H'∧(V.isSome=true→H''.Free)∧(V.isSome=false→r.plain=true)∧K ((st.HS op.given).after V H'' dst r)
def AjJ(P:Pg)(st:St):AOp→Prop
 |.panic x=>(st.CJ true x).holds fun a=>∃t u,a=.lit (.iface t u)∧P.kp (.iface t u)
 |_=>False
def Fw(P:Pg)(g:GOp)(K:St→Prop)(st:St):Prop:=
 (st.guard g.guard).holds fun b=>
  (b=true→if g.op.KK then JK P st g.dst g.op K else if g.op.isW then((st.Ja g.dst g.op).holds K∨AjJ P st g.op)else((st.BL true g.op).holds fun s=>K (st.Lk g.dst (.val true s)))∨∃n d l,g.op=.mv (.t n)∧g.dst=some d∧n≠d∧st.sl n=.tup l∧K (st.Z5 n d l))∧
  (b=false→∃s,K (st.Lk g.dst (.val false s)))
def St.Le(st st':St):Prop:=∀E tm w,Rel E st tm w→Rel E st' tm w
def Wk(K:St→Prop)(st:St):Prop:=∃st',St.Le st st'∧K st'
def Je(P:Pg):List GOp→(St→Prop)→St→Prop
 |[],K,st=>K st
 |g::l,K,st=>Fw P g (Wk (Je P l K)) st
section
variable{E:Env}{st:St}{tm:Array Value}{w:World}{ds:List Deferred}{K:St→Prop}{next:Act→World→Prop}{Q:Exit→Act→World→Prop}{ops:Array Oper}
theorem AcR(R:Rel E st tm w){o:Oper}{gd:Option (Nat×Bool)}(hg:guardOf ops o.guard=some gd){b:Bool}(h:(st.guard gd).holds (·=b)):Region.wanted o (yielded ops tm)=b:=by
 obtain⟨lam,z,fp,R,_⟩:=R;unfold Region.wanted
 cases hgd:o.guard with
 |none=>
  grind [guardOf,St.guard,M.Ae]
 |some jw=>
  obtain⟨j,want⟩:=jw;rw[hgd]at hg;simp only[guardOf]at hg;split at hg
  case h_2=>cases hg
  rename_i t ht;simp only[Qa1]at hg;subst hg;simp only[St.guard]at h;split at h
  case h_2=>trivial
  rename_i b0 c hsl;rw[M.Ae]at h;have hk:=R.keys (.s t);simp only[AQ,hsl]at hk;simp only[yielded,ht,Qa5]
  cases b0 with
  |false=>
   have hu:=(hk.2 rfl).1;simp only[Bool.false_and]at h;subst h
   cases hg:tm[t]?with
   |none=>rfl
   |some v=>
    simp_all [undef]
  |true=>
   have hv:tm.getD t undef=.bool c:=by
    have:=hk.1 rfl
    grind [RSV,RV.Cs]
   cases hg:tm[t]?with
   |none=>rw[Qb1,hg]at hv;cases hv
   |some v=>
    simp_all
theorem Rel.skipped(R:Rel E st tm w){dst:Option Nat}(hd:∀d,dst=some d→d<E.nt)(s:SV):Rel E (st.Lk dst (.val false s)) (NB tm dst undef) w:=by
 cases hdd:dst with
 |none=>exact R
 |some d=>exact R.off (hd d hdd) s
theorem Rel.read{lam:Nat→Nat}{z:Nat→Prop}{fp:Ky→List Nat}(R:Ax E lam z fp Ao st tm w)(F:Refs st tm w lam){s:SV}{dst:Option Nat}(hd:∀d,dst=some d→d<E.nt){v:Value}{w':World}
  (h:ROk E lam z st tm w s v w'):Rel E (st.Lk dst (.val true s)) (NB tm dst v) w':=by
 cases hdd:dst with
 |none=>
  obtain⟨f,hm,_⟩:=h;exact⟨lam,z,fp,R.grow hm,F.grow R hm⟩
 |some d=>exact Rel.result R F h (hd d hdd)
theorem AmN(R:Rel E st tm w){o:Oper}{op:AOp}{V:Vis}{nm:String}{args:List SV}(ho:SH E.P o=some op)(hc:op.KK=true)(h:(st.callee V op).holds (·=(nm,args)))(hd:∀d,o.dst=some d→d<E.nt)
  {K':TV→Heap→Prop} (hcall:Ll E.P nm args (st.hp.shown V) K') (hP:∀ch w',Lt E ch w'→Q (.panic ch) ⟨tm,ds⟩ w') (hK:∀r H' v w',K' r H'→∃H'':Heap,H''.Sub H'∧(V.isSome=true→H''.Free)∧(V.isSome=false→r.plain=true)∧(Rel E ((st.HS op.given).after V H'' o.dst r) (NB tm o.dst v) w'→next (Act.put ⟨tm,ds⟩ o.dst v) w')):
  o.wp E.P ⟨tm,ds⟩ w next Q:=by
 obtain⟨lam,z,fp,R,F⟩:=R
 have main:∀(f:FuncId) (fn:Func) (vs:Array Value) (xs:List Opd),E.P.funcs[f]?=some fn→fn.name=nm→op.given=xs→
   (fn.body.isSome=true→(fn.name== "runtime.NumGoroutine")=false→(execOp (Act.eval ⟨tm,ds⟩) o).run E.P w=.ok (.enter f vs) w)→
   (∀(C':Ctx),(ctx E lam z st.hp.next).Le C'→(∀m b,b∈fp (.s m)→C'.zb b)→(∀o b,V.sees o=false→b∈fp (.o o)→C'.zb b)→(∀n s,.t n∈xs→st.sl n=.val true s→∀b,b∈fp (.s n)→C'.zt b)→
    vs.size=args.length∧∀(t:Nat) (s:SV),args[t]?=some s→∃v,vs[t]?=some v∧RSV C' w s v []∧s.cells.all AV.solid=true)→o.wp E.P ⟨tm,ds⟩ w next Q:=by
  intro f fn vs xs hf hn hgiven hrun hargs;obtain⟨hb,hng,hcall⟩:=hcall f fn hf hn;unfold Oper.wp;rw[hrun hb hng];simp only[Oper.upon];obtain⟨z1,fp1,A⟩:=Xj xs R F
  let C':=ctx (callee E lam z1 fp1 w V st.hp.next vs.size) lam (fun _=>False) st.hp.next
  have hsz1:∀b,z1 b→b<w.heap.size∧¬VG V fp1 b:=fun b hb=>⟨(A.rel.z b hb).1,fun⟨o,_,ho⟩=>(A.rel.fps.ok _ b ho).2.2 hb⟩
  have hle:(ctx E lam z st.hp.next).Le C':=
   ⟨rfl,fun _ _=>rfl,Qa9 _,fun b hb=>.inl (hb.imp id (A.zle b)),fun b hb=>.inl ⟨R.AgP hb,fun⟨o,_,ho⟩=>R.Ado (by rw[A.fo o]at ho;exact ho) hb⟩⟩
  obtain⟨hlen,hargs⟩:=hargs C' hle
   (fun m b hb=>.inl ⟨(R.fps.ok _ b hb).1,fun⟨o,_,ho⟩=>R.fps.dis (.s m) (.o o) b zsz hb (by rw[A.fo o]at ho;exact ho)⟩)
   (fun o b hv hb=>.inl ⟨(R.fps.ok _ b hb).1,fun⟨o',hv',ho⟩=>R.fps.dis (.o o) (.o o') b zg hb (by rw[A.fo o']at ho;exact ho)⟩)
   (fun n s hn hs b hb=>.inl (.inr (A.who n s hn hs b hb)))
  have R':=AkC R A.rel A.zle A.hp A.fo (V:=V) (vs:=vs) (args:=args) hlen (fun t s ht=>by
   grind)
  refine(hcall (callee E lam z1 fp1 w V st.hp.next vs.size) w vs lam _ rfl rfl rfl rfl hlen R' (fun t s ht=>by
   grind)).mono fun e w' he=>?_
  cases e with
  |panicked c=>
   obtain⟨v,e1,e2,e3,e4,e5,e6,e7⟩:=he;refine hP c w' ⟨v,e1,e2,fun b hb hf=>?_,e4.trans R.os,e5.trans R.tape,e6.trans R.output,Qc8 R.size e7⟩;refine(e3 b (Qa6 hb R.size) ?_).trans (R.frame b hb hf);rintro⟨o,_,ho⟩
   rcases(A.rel.fps.ok _ b ho).2.1 with h|h<;>grind
  |outgrown=>grind
  |returned v=>
   obtain⟨r,H',lam',z',fp',k,hkept,hR⟩:=he;obtain⟨H'',hsub,hfr,hpl,hK⟩:=hK r H' v w' k;refine hK ?_;rw[hgiven]
   have hR2:Ax (callee E lam z1 fp1 w V (st.HS xs).hp.next vs.size).one lam' z' fp' Ao (fin r H') #[v] w':=by grind [A.hp]
   have hR3:Ax (callee E lam z1 fp1 w V (st.HS xs).hp.next vs.size).one lam' z' fp' Ao (fin r H'') #[v] w':=by
    refine⟨?_,hR2.fps,hR2.z,hR2.frame,hR2.os,hR2.tape,hR2.output,hR2.size,hR2.tsz,?_,hR2.i0⟩
    ·intro κ;have hk:=hR2.keys κ;simp only[fin]at hk⊢;rw[hsub.1]
     cases κ with
     |s t=>exact hk
     |h i=>exact hk
     |o o=>
      intro l hl
      rcases hsub.2 o with h0|h0
      ·grind
      ·rw[h0]at hl;exact hk l hl
    ·have:=hR2.base;simp only[fin]at this⊢;rw[hsub.1];grind
   grind [AmJ,A.rel,A.refs]
 unfold SH at ho;split at ho
 case h_25=>cases ho
 case h_22=>
  rename_i c hop
  rcases Gf ho with⟨f,fn,xs,hcal,hf,hbody,hnm,hl,rfl⟩|⟨t,xs,hcal,hl,rfl⟩|⟨x,t,a,e,rfl,ha,ht,rfl⟩|⟨x,t,a,rfl,ha,ht,rfl⟩|⟨x,t,n,e,rfl,ht,rfl⟩|⟨_,_,_,_,_,_,_,_,_,_,_,_,_,_,_,_,_,_,_,_,rfl⟩|⟨mx,x,y,ts,a,b,rfl,ha,hb,rfl⟩
  ·simp only[St.callee,M.Aa]at h;rw[M.Aw]at h;obtain⟨l,h1,h⟩:=h;rw[M.Ae]at h;cases h;refine main f fn (c.args.map (Act.eval ⟨tm,ds⟩)) xs hf rfl rfl ?_ ?_
   ·intro hb hng
    have hb':fn.body≠none:=zg
    have hng':fn.name≠ "runtime.NumGoroutine" :=by grind
    simp[execOp,hop,resolve,hcal,Act.eval,Deferred.ofValue,invoke,callFunc,hf,hng',hb']
   ·intro C' hC hs hob hz
    obtain⟨e1,e2⟩:=VO R F hC hs hob ds hl hz h1<;>grind
  ·simp only[St.callee,M.Aa]at h;obtain⟨a,h1,h⟩:=BO h;split at h
   case h_2=>trivial
   rename_i nm' caps;simp only[M.Aa,M.Ak]at h;obtain⟨hsol,h⟩:=h;rw[M.Aw]at h;obtain⟨l,h2,h⟩:=h;rw[M.Ae]at h;cases h;obtain⟨hu,_⟩:=EI R F rfl (show AE E.P (.tmp t)=some (.t t)from rfl) h1 ds;simp only[RSV]at hu;generalize hfv:Act.eval ⟨tm,ds⟩ (.tmp t)=fv at hu;generalize hnil:([]:List Nat)=f0 at hu
   cases hu with
   |clo _ _ f fn cvs hf hn hr=>
    obtain⟨nm1,b⟩:=nm'
    cases b with
    |false=>
     dsimp only at hn hfv;refine main f fn (c.args.map (Act.eval ⟨tm,ds⟩)++cvs.toArray) xs hf hn rfl ?_ ?_
     ·intro hb hng
      have hb':fn.body≠none:=zg
      have hng':fn.name≠ "runtime.NumGoroutine" :=by grind
      have hf':E.P.funcs[f]?=some fn:=hf;simp[execOp,hop,resolve,hcal,hfv,Deferred.ofValue,invoke,callFunc,hf',hng',hb']
     ·intro C' hC hs hob hz;obtain⟨e1,e2⟩:=VO R F hC hs hob ds hl hz h2;have e3:=hr.length;refine⟨zg,fun t s ht=>?_⟩;simp only[cond_false]at ht
      by_cases htl:t<l.length
      ·grind
      ·rw[List.getElem?_append_right zm,Qc2]at ht
       cases hcp:caps[t -l.length]?with
       |none=>grind
       |some cp=>
        rw[hcp]at ht;simp only[Qb2,Qa1]at ht;subst ht;have hr2:=hr.frame hC (fun _ _=>rfl) (fun _ h=>nomatch h);obtain⟨m1,u,m2,f1,fa,f2,em,el,ef,_,ra,_⟩:=hr2.nth hcp
        have hfa:fa=[]:=by
         have:=ef.symm
         simp at this<;>grind
        subst hfa;refine⟨u,?_,ra,?_⟩
        ·rw[Array.getElem?_append_right zg]
         have:(c.args.map (Act.eval ⟨tm,ds⟩)).size=l.length:=zg
         rw[this,em];simp[←el]
        grind [SV.cells]
    |true=>
     dsimp only at hn hfv;refine main f fn (cvs.toArray++c.args.map (Act.eval ⟨tm,ds⟩)) xs hf hn rfl ?_ ?_
     ·intro hb hng
      have hb':fn.body≠none:=zg
      have hng':fn.name≠ "runtime.NumGoroutine" :=by grind
      have hf':E.P.funcs[f]?=some fn:=hf;simp[execOp,hop,resolve,hcal,hfv,Deferred.ofValue,invoke,callFunc,hf',hng',hb']
     ·intro C' hC hs hob hz;obtain⟨e1,e2⟩:=VO R F hC hs hob ds hl hz h2;have e3:=hr.length;refine⟨zg,fun t s ht=>?_⟩;simp only[cond_true]at ht
      by_cases htl:t<caps.length
      ·rw[List.getElem?_append_left zg,Qc2]at ht
       cases hcp:caps[t]?with
       |none=>grind
       |some cp=>
        rw[hcp]at ht;simp only[Qb2,Qa1]at ht;subst ht;have hr2:=hr.frame hC (fun _ _=>rfl) (fun _ h=>nomatch h);obtain⟨m1,u,m2,f1,fa,f2,em,el,ef,_,ra,_⟩:=hr2.nth hcp
        have hfa:fa=[]:=by
         have:=ef.symm
         simp at this<;>grind
        subst hfa;refine⟨u,?_,ra,?_⟩
        ·rw[Qc0 zg,em];simp[←el]
        grind [SV.cells]
      grind
  all_goals cases hc
 all_goals exfalso
 all_goals try unfold UP at ho
 all_goals try unfold L7 at ho
 all_goals repeat' split at ho
 all_goals first
  |(simp only[Qa0]at ho;obtain⟨_,_,rfl⟩:=ho;cases hc;done)
  |(cases ho;cases hc;done)
  |(cases ho;done)
theorem AcN{P:Pg}{nt:Nat}{o:Oper}{g:GOp}(h:NX P nt ops o=some g):SH P o=some g.op∧guardOf ops o.guard=some g.guard∧o.dst=g.dst∧∀d,o.dst=some d→d<nt:=by
 grind [NX]
theorem AiR{P:Pg}{o:Oper}{a:Opd}(ho:SH P o=some (.panic a)):∃x,o.op=.panic x∧AE P x=some a:=by
 unfold SH at ho;split at ho
 case h_24=>
  simp_all
 case h_22=>
  grind [Gf]
 case h_25=>cases ho
 all_goals try unfold UP at ho
 all_goals try unfold L7 at ho
 all_goals repeat' split at ho
 all_goals first
  |(simp only[Qa0]at ho;obtain⟨_,_,h⟩:=ho;cases h;done)
  |(cases ho;done)
theorem Adz{lam:Nat→Nat}{z:Nat→Prop}{fp:Ky→List Nat}{hd:Hands}(R:Ax E lam z fp hd st tm w){v:Value}(hv:E.P.kp v):Lt E [{v,recovered:=false}] w:=
 ⟨v,rfl,hv,R.frame,R.os,R.tape,R.output,R.size⟩
theorem step_ok(R:Rel E st tm w){i:Nat}{o:Oper}{g:GOp}(hi:ops[i]?=some o)(hg:NX E.P E.nt ops o=some g)(h:Fw E.P g K st)
  (hP:∀ch w',Lt E ch w'→Q (.panic ch) ⟨tm,ds⟩ w') (hK:∀st' tm' w',K st'→Rel E st' tm' w'→next ⟨tm',ds⟩ w'):wpOp E.P ops Q i next ⟨tm,ds⟩ w:=by
 obtain⟨ho,hgd,hdst,hd⟩:=AcN hg;unfold Fw at h;rw[M.Aw]at h;obtain⟨b,hb,h⟩:=h;have hw:=AcR R hgd hb;unfold wpOp;simp only[hi];rw[hw];have hput:∀v,Act.put ⟨tm,ds⟩ o.dst v=⟨NB tm o.dst v,ds⟩:=put_eq tm ds o.dst;rw[←hdst]at h
 cases b with
 |false=>
  rw[if_neg zsz];rw[hput];obtain⟨s,h⟩:=h.2 rfl;exact hK _ _ _ h (R.skipped hd _)
 |true=>
  rw[if_pos rfl];refine .inl ?_;have h:=h.1 rfl
  cases hcl:g.op.KK with
  |true=>
   rw[hcl,if_pos rfl]at h
   obtain⟨V,h⟩:=h<;>grind [M.Aw,AmN]
  |false=>
   rw[hcl,if_neg zsz]at h;obtain⟨lam,z,fp,R,F⟩:=R
   cases hW:g.op.isW with
   |true=>
    rw[hW,if_pos rfl]at h
    rcases h with h|h
    case inr=>
     unfold AjJ at h;split at h
     case h_2=>grind
     rename_i x hx;rw[hx]at ho;obtain⟨x',hop,hx'⟩:=AiR ho;rw[M.Aw]at h;obtain⟨a,h1,t,u,rfl,hk⟩:=h
     have e:=Cf (ds:=ds) R F rfl hx' (by
      obtain⟨c,h3,h4⟩:=BO h1;subst h4
      exact h3)
     unfold Oper.wp
     have hrun:(execOp (Act.eval ⟨tm,ds⟩) o).run E.P w=.halt (.panic (.iface t u)) w:=by simp_all [execOp,Instr.panic]
     rw[hrun];exact hP _ _ (Adz R hk)
    rw[M.Aw]at h;obtain⟨st',h1,h2⟩:=h
    obtain⟨r,w',hrun,hr⟩:=ApK (ds:=ds) R F ho hW hd h1<;>grind [Oper.wp,Oper.upon]
   |false=>
    rw[hW,if_neg zsz]at h
    rcases h with h|⟨n,d,l,e1,e2,e3,e4,h⟩
    case inr=>
     rw[e1]at ho;unfold Oper.wp;rw[XQ (ds:=ds) (XP ho)];simp only[Oper.upon];rw[hput,e2];exact hK _ _ _ h (Adm ⟨lam,z,fp,R,F⟩ e4 (hd d e2) e3)
    rw[M.Aw]at h;obtain⟨s,h1,h2⟩:=h;obtain⟨v,w',hrun,hr,_,_⟩:=Ale (ds:=ds) R F ho hW hcl rfl h1;unfold Oper.wp;rw[hrun];simp only[Oper.upon];rw[hput];exact hK _ _ _ h2 (Rel.read R F hd hr)
theorem Adu:∀(l:List (Nat×GOp)) {st:St} {tm:Array Value} {w:World},(∀p∈l,∃o,ops[p.1]?=some o∧NX E.P E.nt ops o=some p.2)→Rel E st tm w→Je E.P (l.map (·.2)) K st→
  (∀ch tm' w',Lt E ch w'→Q (.panic ch) ⟨tm',ds⟩ w')→(∀st' tm' w',K st'→Rel E st' tm' w'→Q .normal ⟨tm',ds⟩ w')→wpOps E.P ops Q (l.map (·.1)) ⟨tm,ds⟩ w
 |[],st,tm,w,_,R,h,_,hK=>hK st tm w h R
 |(i,g)::l,st,tm,w,hl,R,h,hP,hK=>by
  obtain⟨o,hi,hg⟩:=hl (i,g) zsz;simp only[List.map_cons]at h⊢;rw[wpOps_cons];have h':Fw E.P g (Wk (Je E.P (l.map (·.2)) K)) st:=h;refine step_ok R hi hg h' (fun ch w'=>hP ch tm w') ?_;rintro st' tm' w' ⟨st2,hle,h2⟩ R2;exact Adu l (fun p hp=>hl p zg) (hle _ _ _ R2) h2 hP hK
theorem ZU{P:Pg}{nt:Nat}:∀{l:List Oper} {gs:List GOp},Ua P nt ops l=some gs→gs.length=l.length∧∀(i:Nat) (o:Oper),l[i]?=some o→∃g,gs[i]?=some g∧NX P nt ops o=some g
 |[],gs,h=>by
  grind [Ua]
 |o::l,gs,h=>by
  simp only[Ua]at h;split at h
  case h_2=>cases h
  rename_i g gs' hg hl;cases h
  obtain⟨e,r⟩:=ZU hl<;>grind
end
end Go.VS
namespace Go.VS
section
variable{P:Pg}{ops:Array Oper}{Q:Exit→Act→World→Prop}{md:Region.Mode}
def stepT(P:Pg)(ops:Array Oper)(Q:Exit→Act→World→Prop)(i:Nat)(K:Act→World→Prop)(a:Act)(w:World):Prop:=
 match ops[i]?with
 |none=>K a w
 |some o=>if o.op.still then(if Region.wanted o (yielded ops a.tmps)then∃v,(execOp a.eval o).run P w=.ok (.value v) w∧K (a.put o.dst v) w else K (a.put o.dst undef) w)else wpOp P ops Q i K a w
theorem AgA{i:Nat}{K:Act→World→Prop}{a:Act}{w:World}(h:stepT P ops Q i K a w):wpOp P ops Q i K a w:=by
 grind [stepT,wpOp,Oper.wp,Oper.upon]
theorem Agz{i:Nat}{K K':Act→World→Prop}{a:Act}{w:World}(hk:∀a w,K a w→K' a w)(h:stepT P ops Q i K a w):stepT P ops Q i K' a w:=by
 grind [stepT,wpOp_mono]
def Ab2(P:Pg)(md:Region.Mode)(ops:Array Oper)(Q:Exit→Act→World→Prop):Nat→Array Bool→Act→World→Prop
 |0,listed,a,w=>Region.ready md ops listed=[]∧Q .normal a w
 |fuel+1,listed,a,w=>(Region.ready md ops listed=[]→Q .normal a w)∧∀i∈Region.ready md ops listed,stepT P ops Q i (Ab2 P md ops Q fuel (listed.setIfInBounds i true)) a w
theorem Ww:∀(fuel:Nat) (listed:Array Bool) (a:Act) (w:World),Ab2 P md ops Q fuel listed a w→wpAny P md ops Q fuel listed a w
 |0,_,_,_,h=>h
 |fuel+1,listed,a,w,h=>⟨h.1,fun i hi=>wpOp_mono (fun a w h=>Ww fuel _ a w h) (AgA (h.2 i hi))⟩
def YieldsAt(P:Pg)(ops:Array Oper)(o:Oper)(v:Value)(a:Act)(w:World):Prop:=
 (Region.wanted o (yielded ops a.tmps)=true∧(execOp a.eval o).run P w=.ok (.value v) w)∨(Region.wanted o (yielded ops a.tmps)=false∧v=undef)
theorem YieldsAt.step{i:Nat}{o:Oper}{v:Value}{a:Act}{w:World}{K:Act→World→Prop}(hi:ops[i]?=some o)(hs:o.op.still=true)(hy:YieldsAt P ops o v a w)(h:K (a.put o.dst v) w):stepT P ops Q i K a w:=by
 unfold stepT;simp only[hi];rw[if_pos hs]
 rcases hy with⟨h1,h2⟩|⟨h1,rfl⟩<;>grind
theorem Aju{j:Nat}{oi oj:Oper}{v:Value}(hj:ops[j]?=some oj)(hap:oi.apart ops oj=true)(hsi:∀cs b,oi.op≠.select cs b)(hsj:∀cs b,oj.op≠.select cs b)
  (hQ:∀c a w,Q (.panic c) (a.put oi.dst v) w→Q (.panic c) a w) {K:Act→World→Prop} {a:Act} {w:World} (hy:Yields P ops oi v a) (h:stepT P ops Q j K (a.put oi.dst v) w):
  stepT P ops Q j (fun a' w'=>Yields P ops oi v a'∧K (a'.put oi.dst v) w') a w:=by
 obtain⟨h1,h2,h3⟩:=Oper.apart_spec hap
 have keep:∀u,Yields P ops oi v (a.put oj.dst u):=fun u=>hy.of_same (execOp_put oi hsi a oj.dst u h3) (wanted_put oi a oj.dst u h3)
 unfold stepT at h⊢;simp only[hj]at h⊢;split
 ·rename_i hs
  rw[if_pos hs,wanted_put oj a oi.dst v h1,execOp_put oj hsj a oi.dst v h1]at h<;>grind [Act.put_comm,undef]
 grind [wpOp_put]
theorem Alb{listed:Array Bool}{i k:Nat}(h0:listed.getD i true=false)(h1:listed.getD k false=true):k≠i:=by
 grind
theorem AeZ{i:Nat}{oi:Oper}{v:Value}(hi:ops[i]?=some oi)(hq:oi.op.still=true)(hsel:∀(j:Nat) (o:Oper) cs b,ops[j]?=some o→o.op≠.select cs b)(hQ:∀c a w,Q (.panic c) (a.put oi.dst v) w→Q (.panic c) a w):
  ∀(fuel:Nat) (listed:Array Bool) (a:Act) (w:World),
   (∀j oj,ops[j]?=some oj→j≠i→listed.getD j true=false→(∀e∈oj.after,Region.binds md e=true→e.on≠i)→oi.apart ops oj=true)→
   i∈Region.ready md ops listed→Yields P ops oi v a→Ab2 P md ops Q fuel (listed.setIfInBounds i true) (a.put oi.dst v) w→Ab2 P md ops Q (fuel+1) listed a w:=by
 have at':∀a w,Yields P ops oi v a→YieldsAt P ops oi v a w:=fun a w hy=>hy.imp (fun h=>⟨h.1,h.2 w⟩) id
 intro fuel
 induction fuel with
 |zero=>
  intro listed a w _ hr hy H;refine⟨fun h=>zg,fun j hj=>?_⟩
  by_cases hji:j=i
  ·subst hji;exact(at' a w hy).step hi hq H
  ·have:=ready_mono hj hji
   rw[H.1]at this<;>grind
 |succ fuel ih=>
  intro listed a w hfree hr hy H;refine⟨fun h=>zg,fun j hj=>?_⟩
  by_cases hji:j=i
  ·subst hji;exact(at' a w hy).step hi hq H
  ·have h1:=H.2 j (ready_mono hj hji);obtain⟨hjun,oj,hoj,hall⟩:=mem_ready.1 hj
   have hnot:∀e∈oj.after,Region.binds md e=true→e.on≠i:=fun e he hb=>Alb (mem_ready.1 hr).1 (hall e he hb)
   have h2:=Aju hoj (hfree j oj hoj hji hjun hnot) (fun cs b=>hsel i oi cs b hi) (fun cs b=>hsel j oj cs b hoj) hQ hy h1
   have hfree':∀k ok,ops[k]?=some ok→k≠i→(listed.setIfInBounds j true).getD k true=false→(∀e∈ok.after,Region.binds md e=true→e.on≠i)→oi.apart ops ok=true:=fun k ok hk hki hun hno=>by
    refine hfree k ok hk hki ?_ hno
    by_cases hjk:j=k
    ·grind
    simp_all
   refine Agz (fun a' w' h3=>ih (listed.setIfInBounds j true) a' w' hfree' (ready_mono hr (Ne.symm hji)) h3.1 ?_) h2
   grind [Qb5]
theorem Ae0{i:Nat}{oi:Oper}{v:Value}(hi:ops[i]?=some oi)(hq:oi.op.still=true)(hsel:∀(j:Nat) (o:Oper) cs b,ops[j]?=some o→o.op≠.select cs b){B:Nat→Bool}
  (hB:∀j,B j=true→∃oj e,ops[j]?=some oj∧e∈oj.after∧Region.binds md e=true∧(e.on=i∨B e.on=true)):
  ∀(fuel:Nat) (listed:Array Bool) (a:Act) (w:World),
   (∀j oj,ops[j]?=some oj→j≠i→listed.getD j true=false→B j=true∨(oi.apart ops oj=true∧oj.op.still=true))→(∀j,B j=true→listed.getD j true=false)→
   i∈Region.ready md ops listed→YieldsAt P ops oi v a w→Ab2 P md ops Q fuel (listed.setIfInBounds i true) (a.put oi.dst v) w→Ab2 P md ops Q (fuel+1) listed a w:=by
 intro fuel
 induction fuel with
 |zero=>
  intro listed a w _ _ hr hy H;refine⟨fun h=>zg,fun j hj=>?_⟩
  by_cases hji:j=i
  ·subst hji;exact hy.step hi hq H
  ·have:=ready_mono hj hji
   rw[H.1]at this<;>grind
 |succ fuel ih=>
  intro listed a w hfree hBl hr hy H;refine⟨fun h=>zg,fun j hj=>?_⟩
  by_cases hji:j=i
  ·subst hji;exact hy.step hi hq H
  ·have h1:=H.2 j (ready_mono hj hji);obtain⟨hjun,oj,hoj,hall⟩:=mem_ready.1 hj
   have hnB:¬B j=true:=by
    grind [Alb,mem_ready]
   obtain⟨hap,hsj⟩:=(hfree j oj hoj hji hjun).resolve_left hnB;obtain⟨a1,a2,a3⟩:=Oper.apart_spec hap
   have hso:=fun cs b=>hsel i oi cs b hi
   have hsoj:=fun cs b=>hsel j oj cs b hoj
   have keep:∀u,YieldsAt P ops oi v (a.put oj.dst u) w:=fun u=>by
    unfold YieldsAt at hy⊢
    rw[execOp_put oi hso a oj.dst u a3,wanted_put oi a oj.dst u a3]<;>grind
   have hfree':∀k ok,ops[k]?=some ok→k≠i→(listed.setIfInBounds j true).getD k true=false→B k=true∨(oi.apart ops ok=true∧ok.op.still=true):=fun k ok hk hki hun=>by
    refine hfree k ok hk hki ?_
    by_cases hjk:j=k
    ·grind
    simp_all
   have hBl':∀k,B k=true→(listed.setIfInBounds j true).getD k true=false:=fun k hk=>by
    have hjk:j≠k:=fun e=>hnB (e▸hk)
    rw[getD_set_ne true hjk]<;>grind
   have hr':=ready_mono hr (Ne.symm hji);unfold stepT at h1⊢;simp only[hoj]at h1⊢;rw[if_pos hsj]at h1⊢;rw[wanted_put oj a oi.dst v a1,execOp_put oj hsoj a oi.dst v a1]at h1;split
   ·rename_i hw;rw[if_pos hw]at h1
    grind [Qb5,Act.put_comm]
   ·rename_i hw;rw[if_neg hw]at h1
    grind [Qb5,Act.put_comm,undef]
end
end Go.VS
namespace Go.VS
def Dl(P:Pg):Ha→(St→Prop)→St→Prop
 |.done,K,st=>K st
 |.first g t,K,st=>Fw P g (Wk (Dl P t K)) st
 |.alt g t m,K,st=>Fw P g (Wk (Dl P t K)) st∧Dl P m K st
 |.stop,_,_=>True
section
variable{md:Region.Mode}{ops:Array Oper}{E:Env}{st:St}{tm:Array Value}{w:World}{ds:List Deferred}{K:St→Prop}{Q:Exit→Act→World→Prop}
theorem RO(i:Nat):∀n j,j∈blocked md ops i n→j∈blocked md ops i (n+1)
 |0,j,h=>by cases h
 |n+1,j,h=>by
  have ih:=RO i n
  grind [blocked,TH]
theorem Ae4(i n:Nat)(j:Nat)(h:j∈blocked md ops i (n+1)):∃oj e,ops[j]?=some oj∧e∈oj.after∧Region.binds md e=true∧(e.on=i∨e.on∈blocked md ops i (n+1)):=by
 grind [blocked,TH,RO]
theorem Aei{P:Pg}{o:Oper}{op:AOp}(ho:SH P o=some op)(hs:o.op.still=true):op.KK=false∧op.isW=false:=by
 unfold SH at ho;split at ho
 case h_22=>
  rename_i c hop;rw[hop]at hs
  rcases Gf ho with⟨f,fn,l,hc,_,_,_,_,rfl⟩|⟨t,l,hc,_,rfl⟩|⟨x,t,a,e,rfl,ha,ht,rfl⟩|⟨x,t,a,rfl,ha,ht,rfl⟩|⟨x,t,n,e,rfl,ht,rfl⟩|⟨_,_,_,_,_,_,_,_,_,_,_,rfl,_,_,_,_,_,_,_,_,rfl⟩|⟨mx,x,y,ts,a,b,rfl,ha,hb,rfl⟩
  ·grind [Op.still,Op.quiet]
  ·grind [Op.still,Op.quiet]
  ·trivial
  ·trivial
  ·trivial
  ·trivial
  trivial
 case h_25=>cases ho
 all_goals (rename_i hop)
 all_goals try (rw[hop]at hs;simp[Op.still,Op.quiet]at hs;done)
 all_goals try unfold UP at ho
 all_goals try unfold L7 at ho
 all_goals repeat' split at ho
 all_goals first
  |(simp only[Qa0]at ho;obtain⟨_,_,rfl⟩:=ho;exact⟨rfl,rfl⟩)
  |(cases ho;exact⟨rfl,rfl⟩)
  |(cases ho;done)
theorem Aeh(R:Rel E st tm w){o:Oper}{g:GOp}(hg:NX E.P E.nt ops o=some g)(hs:o.op.still=true)(h:Fw E.P g K st):
  ∃v,YieldsAt E.P ops o v ⟨tm,ds⟩ w∧(Ma E.P o.op=true→Yields E.P ops o v ⟨tm,ds⟩)∧∃st',K st'∧Rel E st' (NB tm o.dst v) w:=by
 obtain⟨ho,hgd,hdst,hd⟩:=AcN hg;obtain⟨hcl,hW⟩:=Aei ho hs;unfold Fw at h;rw[M.Aw]at h;obtain⟨b,hb,h⟩:=h;have hw:=AcR R hgd hb;rw[←hdst,hcl,if_neg zsz,hW,if_neg zsz]at h
 cases b with
 |false=>
  obtain⟨s,h2⟩:=h.2 rfl;exact⟨undef,.inr ⟨hw,rfl⟩,fun _=>.inr ⟨hw,rfl⟩,_,h2,R.skipped hd _⟩
 |true=>
  have h:=h.1 rfl
  rcases h with h|⟨n,d,l,e1,e2,e3,e4,h⟩
  case inr=>
   rw[e1]at ho
   refine⟨_,.inl ⟨hw,XQ (ds:=ds) (XP ho) w⟩,fun _=>.inl ⟨hw,fun w'=>XQ (ds:=ds) (XP ho) w'⟩,_,h,?_⟩<;>grind [Adm]
  rw[M.Aw]at h;obtain⟨s,h1,h2⟩:=h;obtain⟨lam,z,fp,R,F⟩:=R;obtain⟨v,w',hrun,hr,hq,hsame⟩:=Ale (ds:=ds) R F ho hW hcl rfl h1;obtain rfl:=hsame hs;exact⟨v,.inl ⟨hw,hrun⟩,fun hqq=>.inl ⟨hw,hq hqq⟩,_,h2,Rel.read R F hd hr⟩
theorem Al2(R:Rel E st tm w){i:Nat}{o:Oper}{g:GOp}{next:Act→World→Prop}(hi:ops[i]?=some o)(hg:NX E.P E.nt ops o=some g)(h:Fw E.P g K st)
  (hP:∀ch w',Lt E ch w'→Q (.panic ch) ⟨tm,ds⟩ w') (hK:∀st' tm' w',K st'→Rel E st' tm' w'→next ⟨tm',ds⟩ w'):stepT E.P ops Q i next ⟨tm,ds⟩ w:=by
 cases hs:o.op.still with
 |true=>
  obtain⟨v,hy,_,st',h1,h2⟩:=Aeh (ds:=ds) R hg hs h;exact hy.step hi hs (by grind [put_eq])
 |false=>
  grind [stepT,step_ok]
theorem An4(hsel:∀(j:Nat) (o:Oper) cs b,ops[j]?=some o→o.op≠.select cs b)(hQ:∀c tm tm' w,Q (.panic c) ⟨tm,ds⟩ w→Q (.panic c) ⟨tm',ds⟩ w)(hQ2:∀c tm ds' w,Q (.panic c) ⟨tm,ds'⟩ w→ds'=ds)(hP:∀ch tm' w',Lt E ch w'→Q (.panic ch) ⟨tm',ds⟩ w')(hK:∀st' tm' w',K st'→Rel E st' tm' w'→Q .normal ⟨tm',ds⟩ w'):
  ∀(fuel:Nat) (listed:Array Bool) (t:Ha) (st:St) (tm:Array Value) (w:World),H7 md ops E.P E.nt fuel listed=some t→Rel E st tm w→Dl E.P t K st→Ab2 E.P md ops Q fuel listed ⟨tm,ds⟩ w:=by
 have hput2:∀(c:List PanicEntry) (a:Act) (d:Option Nat) (v:Value) (w:World),Q (.panic c) (a.put d v) w→Q (.panic c) a w:=by
  rintro c ⟨tm1,ds1⟩ d v w h
  grind [put_eq]
 intro fuel
 induction fuel with
 |zero=>
  intro listed t st tm w ht R h;simp only[H7]at ht;split at ht
  case isFalse=>cases ht
  rename_i hr;cases ht;exact⟨hr,hK st tm w h R⟩
 |succ fuel ih=>
  intro listed t st tm w ht R h;simp only[H7]at ht;split at ht
  ·rename_i hr;cases ht;exact⟨fun _=>hK st tm w h R,zg⟩
  ·rename_i hr
   have mk_ok:∀(i:Nat) (g:GOp) (t':Ha),(match(ops[i]?).bind (NX E.P E.nt ops),H7 md ops E.P E.nt fuel (listed.setIfInBounds i true)with|some g,some t=>some (g,t)|_,_=>none)=some (g,t')→
     ∃o,ops[i]?=some o∧NX E.P E.nt ops o=some g∧H7 md ops E.P E.nt fuel (listed.setIfInBounds i true)=some t':=by
    grind
   split at ht
   ·rename_i i hf;rw[Qa0]at ht;obtain⟨⟨g,t'⟩,hm,rfl⟩:=ht;obtain⟨o,hi,hgo,ht'⟩:=mk_ok i g t' hm;have hmem:=List.mem_of_find?_eq_some hf;have hok:=List.find?_some hf
    have hstill:o.op.still=true:=by
     unfold AaT at hok;simp only[hi,Qc5,Qa2]at hok
     rcases hok with h|h
     ·have hq:o.op.quiet=true:=by
       grind [Ma]
      cases hop:o.op<;>rw[hop]at hq<;>first|rfl|exact hq
     grind
    have h':Fw E.P g (Wk (Dl E.P t' K)) st:=h;obtain⟨v,hy,hyq,st',⟨st2,hle,h1⟩,h2⟩:=Aeh (ds:=ds) R hgo hstill h';have hrest:=ih _ t' st2 _ w ht' (hle _ _ _ h2) h1;have hput:(⟨NB tm o.dst v,ds⟩:Act)=Act.put ⟨tm,ds⟩ o.dst v:=(put_eq tm ds o.dst v).symm;rw[hput]at hrest;unfold AaT at hok;simp only[hi,Qc5,Qa2]at hok
    rcases hok with hok|hok
    ·grind [AeZ,Region.free_spec]
    ·have hn:=hok.2;unfold AoQ at hn;simp only[hi,Qa2,List.all_eq_true,List.mem_range]at hn
     refine Ae0 hi hstill hsel (B:=fun j=>(blocked md ops i 6).contains j) ?_ fuel listed _ w ?_ ?_ hmem hy hrest<;>grind [Ae4]
   ·refine⟨fun h0=>absurd h0 hr,?_⟩
    have key:∀(rs:List Nat) (t:Ha),AaC (fun i=>match(ops[i]?).bind (NX E.P E.nt ops),H7 md ops E.P E.nt fuel (listed.setIfInBounds i true)with|some g,some t=>some (g,t)|_,_=>none) rs=some t→
      Dl E.P t K st→∀i∈rs,stepT E.P ops Q i (Ab2 E.P md ops Q fuel (listed.setIfInBounds i true)) ⟨tm,ds⟩ w:=by
     intro rs
     induction rs with
     |nil=>grind
     |cons j rs ihr=>
      intro t hal hw i hi;simp only[AaC]at hal;split at hal
      case h_2=>grind
      rename_i g t' m hm hm2;cases hal
      rcases List.mem_cons.1 hi with rfl|hi
      ·obtain⟨o,ho,hgo,ht'⟩:=mk_ok i g t' hm;exact Al2 R ho hgo hw.1 (fun ch w'=>hP ch _ w') (fun st' tm' w' ⟨st2,hle,h1⟩ h2=>ih _ t' st2 tm' w' ht' (hle _ _ _ h2) h1)
      ·exact ihr m hm2 hw.2 i hi
    exact key _ t ht h
end
end Go.VS
namespace Go.VS
inductive AEx
 |normal
 |exit (id:Nat)
 |ret
 deriving DecidableEq
def lift(E:Env)(Q:AEx→St→Prop):Exit→Act→World→Prop
 |.normal,a,w=>a.defers=[]∧∃st,Rel E st a.tmps w∧Q .normal st
 |.exit id,a,w=>a.defers=[]∧∃st,Rel E st a.tmps w∧Q (.exit id) st
 |.ret,a,w=>a.defers=[]∧∃st,Rel E st a.tmps w∧Q .ret st
 |.panic ch,a,w=>a.defers=[]∧Lt E ch w
 |_,_,_=>False
def Awp(P:Pg)(A:DS)(Q:AEx→St→Prop)(st:St):Prop:=
 ∀(c:Code) (E:Env) (tm:Array Value) (w:World),codeOf P E.nt c=some A→E.P=P→Rel E st tm w→c.wp P (lift E Q) ⟨tm,[]⟩ w
theorem Ce{P:Pg}{nt:Nat}{ops:Array Oper}{draw:Bool}{A:DS}(h:Pd P nt ops draw=some A):
  (∃gs,draw=false∧A=.region gs false∧Ua P nt ops ops.toList=some gs)∨
  (∃ts,A=.draw ts∧draw=true∧Region.noSelect ops=true∧
   ((∃t,ts=[t]∧(P.follows .mixedOrders||!Region.departs ops)=true∧H7 .any ops P nt ops.size (Qb3 ops.size false)=some t)∨
    (∃t u,ts=[t,u]∧(P.follows .mixedOrders||!Region.departs ops)=false∧H7 .text ops P nt ops.size (Qb3 ops.size false)=some t∧H7 .gc ops P nt ops.size (Qb3 ops.size false)=some u))):=by
 grind [Pd,Qa0]
section
variable{P:Pg}{Q Q':AEx→St→Prop}{st:St}{A B:DS}
theorem AiC{E:Env}(h:∀e st,Q e st→Q' e st)(e:Exit)(a:Act)(w:World)(hq:lift E Q e a w):lift E Q' e a w:=by
 cases e<;>first
  |exact hq.elim
  |exact hq
  |(obtain⟨h1,st,h2,h3⟩:=hq;exact⟨h1,st,h2,h _ _ h3⟩)
theorem Awp.mono(h:Awp P A Q st)(hq:∀e st,Q e st→Q' e st):Awp P A Q' st:=
 fun c E tm w hc hP R=>wp_mono (h c E tm w hc hP R) (fun e a w=>AiC hq e a w)
theorem Awp.weaken{st':St}(h:Awp P A Q st')(hl:St.Le st st'):Awp P A Q st:=
 fun c E tm w hc hP R=>h c E tm w hc hP (hl E tm w R)
theorem Aj7(h:Q .normal st):Awp P .skip Q st:=by
 intro c E tm w hc hP R
 cases c<;>simp only[codeOf,Qa1,reduceCtorEq]at hc
 case skip=>exact wp_skip ⟨rfl,st,R,h⟩
 all_goals (first|(rcases Ce hc with⟨_,_,e,_⟩|⟨_,e,_⟩<;>cases e;done)|(split at hc<;>cases hc;done)|simp_all)
theorem Aj5{id:Nat}(h:Q (.exit id) st):Awp P (.exit id) Q st:=by
 intro c E tm w hc hP R
 cases c<;>simp only[codeOf,Qa1,reduceCtorEq]at hc
 case exit=>cases hc;exact wp_exit ⟨rfl,st,R,h⟩
 all_goals (first|(rcases Ce hc with⟨_,_,e,_⟩|⟨_,e,_⟩<;>cases e;done)|(split at hc<;>cases hc;done)|simp_all)
theorem AmH(h:Q .ret st):Awp P .ret Q st:=by
 intro c E tm w hc hP R
 cases c<;>simp only[codeOf,Qa1,reduceCtorEq]at hc
 case ret=>exact wp_ret ⟨rfl,st,R,h⟩
 all_goals (first|(rcases Ce hc with⟨_,_,e,_⟩|⟨_,e,_⟩<;>cases e;done)|(split at hc<;>cases hc;done)|simp_all)
def AEx.then(K:St→Prop)(Q:AEx→St→Prop):AEx→St→Prop
 |.normal,st=>K st
 |e,st=>Q e st
theorem AmI(h:Awp P A (AEx.then (Awp P B Q) Q) st):Awp P (.seq A B) Q st:=by
 intro c E tm w hc hP R
 cases c<;>simp only[codeOf,Qa1,reduceCtorEq]at hc
 case seq x y=>
  split at hc
  case h_2=>cases hc
  rename_i a b ha hb;cases hc;refine wp_seq (wp_mono (h x E tm w ha hP R) ?_);intro e a w hq
  cases e with
  |normal=>
   obtain⟨h1,st',h2,h3⟩:=hq;obtain⟨tm',ds⟩:=a;cases h1;exact h3 y E tm' w hb hP h2
  |exit id=>exact hq
  |ret=>exact hq
  |panic ch=>exact hq
  |_=>trivial
 all_goals grind [Ce,Qa0]
theorem Aj3{x:Opd}(h:(st.IZ true x).holds fun b=>(b=true→Awp P A Q st)∧(b=false→Awp P B Q st)):Awp P (.cond x A B) Q st:=by
 intro c E tm w hc hP R
 cases c<;>simp only[codeOf,Qa1,reduceCtorEq]at hc
 case cond o x' y=>
  split at hc
  case h_2=>cases hc
  rename_i xo a b hx ha hb;cases hc;obtain⟨lam,z,fp,R1,F1⟩:=R;subst hP;obtain⟨v,h1,h2⟩:=IB h;have he:=Cf (ds:=[]) R1 F1 rfl hx h1;refine wp_cond_split he (fun hv=>?_) (fun hv=>?_)
  ·exact h2.1 hv x' E tm w ha rfl ⟨lam,z,fp,R1,F1⟩
  ·exact h2.2 hv y E tm w hb rfl ⟨lam,z,fp,R1,F1⟩
 all_goals grind [Ce,Qa0]
def AEx.inBlock(id:Nat)(Q:AEx→St→Prop):AEx→St→Prop
 |.exit id',st=>if id'=id then Q .normal st else Q (.exit id') st
 |e,st=>Q e st
theorem Ah1{id:Nat}(h:Awp P A (AEx.inBlock id Q) st):Awp P (.block id A) Q st:=by
 intro c E tm w hc hP R
 cases c<;>simp only[codeOf,Qa1,reduceCtorEq]at hc
 case block id' x=>
  simp only[Qa0]at hc;obtain⟨a,ha,hc⟩:=hc;cases hc;refine wp_block (wp_mono (h x E tm w ha hP R) ?_);intro e a w hq
  cases e with
  |exit id'=>
   obtain⟨h1,st',h2,h3⟩:=hq;simp only[Exit.inBlock];simp only[AEx.inBlock]at h3;split
   ·rename_i hi;rw[if_pos hi]at h3;exact⟨h1,st',h2,h3⟩
   ·rename_i hi;rw[if_neg hi]at h3;exact⟨h1,st',h2,h3⟩
  |normal=>exact hq
  |ret=>exact hq
  |panic ch=>exact hq
  |_=>trivial
 all_goals grind [Ce,Qa0]
open Classical in
noncomputable def least(p:Nat→Prop):Nat:=if h:∃n,p n∧∀m,m<n→¬p m then h.choose else 0
theorem Ada{p:Nat→Prop}{n:Nat}(h:p n):p (least p)∧least p≤n:=by
 have key:∃n,p n∧∀m,m<n→¬p m:=by
  induction n using Nat.strongRecOn<;>grind
 have hc:=key.choose_spec;unfold least
 rw[dif_pos key]<;>grind
theorem Aj6(I:Nat→St→Prop){n:Nat}(h0:I n st)(round:∀n st,I n st→Awp P A (AEx.then (fun st'=>∃m,m<n∧I m st') Q) st):Awp P (.loop A) Q st:=by
 intro c E tm w hc hP R
 cases c<;>simp only[codeOf,Qa1,reduceCtorEq]at hc
 case loop x=>
  simp only[Qa0]at hc;obtain⟨a,ha,hc⟩:=hc;cases hc
  let J:Act→World→Nat→Prop:=fun a w n=>a.defers=[]∧∃st,Rel E st a.tmps w∧I n st
  refine wp_loop (fun a w=>∃n,J a w n) (fun a w=>least (J a w)) ⟨n,rfl,st,R,h0⟩ ?_;rintro⟨tm1,ds1⟩ w1 ⟨n1,h1⟩;obtain⟨h2,hle⟩:=Ada h1;obtain⟨hds,st1,R1,hI⟩:=h2;cases hds;refine wp_mono (round _ st1 hI x E tm1 w1 ha hP R1) ?_;intro e a2 w2 hq
  cases e with
  |normal=>
   obtain⟨q1,st2,q2,m,q3,q4⟩:=hq
   have hJ:J a2 w2 m:=⟨q1,st2,q2,q4⟩
   exact⟨⟨m,hJ⟩,Nat.lt_of_le_of_lt (Ada hJ).2 q3⟩
  |exit id=>exact hq
  |ret=>exact hq
  |panic ch=>exact hq
  |_=>trivial
 all_goals grind [Ce,Qa0]
theorem Ae2{ops:List GOp}(h:Je P ops (Q .normal) st):Awp P (.region ops false) Q st:=by
 intro c E tm w hc hP R
 cases c<;>simp only[codeOf,Qa1,reduceCtorEq]at hc
 case region id os draw=>
  obtain⟨gs,hdraw,hA,hgs⟩|⟨_,hA,_⟩:=Ce hc
  case inr=>cases hA
  subst hdraw;cases hA;subst hP;obtain⟨e1,e2⟩:=ZU hgs
  have hlen:ops.length=os.size:=zg
  refine wp_region ?_;have hm1:((Qc3 os.size).zip ops).map (·.1)=Qc3 os.size:=List.map_fst_zip zg;have hm2:((Qc3 os.size).zip ops).map (·.2)=ops:=List.map_snd_zip zg;rw[←hm1];refine Adu (K:=Q .normal) ((Qc3 os.size).zip ops) ?_ R zg (fun ch tm' w' hk=>⟨rfl,hk⟩) (fun st' tm' w' hk hr=>⟨rfl,st',hr,hk⟩);intro p hp
  obtain⟨i,hi⟩:=List.mem_iff_getElem?.1 hp;obtain⟨hi1,hi2⟩:=List.getElem?_zip_eq_some.1 hi
  have hlt:i<os.size:=by
   grind
  have hpi:p.1=i:=by
   grind
  rw[hpi];refine⟨os[i],Array.getElem?_eq_getElem hlt,?_⟩
  obtain⟨g,hg,hgo⟩:=e2 i os[i] (by simp[hlt])<;>grind
 all_goals grind [Ce,Qa0]
theorem Aj4{ts:List Ha}(h:∀t∈ts,Dl P t (Q .normal) st):Awp P (.draw ts) Q st:=by
 intro c E tm w hc hP R
 cases c<;>simp only[codeOf,Qa1,reduceCtorEq]at hc
 case region id os draw=>
  obtain⟨_,_,hA,_⟩|⟨ts',hA,hdraw,hsel,hts⟩:=Ce hc
  case inl=>cases hA
  subst hdraw;cases hA;subst hP
  have R':Rel E st tm {w with drawn:=w.drawn+1}:=by
   obtain⟨lam,z,fp,R1,F1⟩:=R
   have hm:Moves (fun _=>False) w {w with drawn:=w.drawn+1}:=⟨rfl,rfl,rfl,Qa9 _,fun _ _ _=>rfl⟩
   exact⟨lam,z,fp,R1.grow hm,F1.grow R1 hm⟩
  have run:∀(md:Region.Mode) (t:Ha) (n:Nat),t∈ts→H7 md os E.P E.nt os.size (Qb3 os.size false)=some t→
    wpOps E.P os (lift E Q) (Region.linearise md os n) ⟨tm,[]⟩ {w with drawn:=w.drawn+1}:=by
   intro md t n htm ht;refine wpAny_sound os.size n _ _ _ (Ww _ _ _ _ ?_);exact An4 (K:=Q .normal) (Region.noSelect_spec hsel) (fun c tm tm' w h=>h) (fun c tm ds' w h=>h.1) (fun ch tm' w' hk=>⟨rfl,hk⟩) (fun st' tm' w' hk hr=>⟨rfl,st',hr,hk⟩) _ _ t st tm _ ht R' (h t htm)
  grind [wp_region_draw,Region.schedule]
 all_goals grind [Ce,Qa0]
end
end Go.VS
namespace Go.VS
inductive N2
 |tmp (t:Nat)
 |cell (t:Nat) (agg:Bool) (n:Nat)
 deriving Inhabited
def LQ(P:Pg):List ResultVar→Option (List N2)
 |[]=>some []
 |.tmp t::r=>(LQ P r).map (.tmp t::·)
 |.cell a t::r=>match EO? P t,sizeOf? P t,LQ P r with
  |some agg,some n,some l=>if agg=true∨n=1 then some (.cell a agg n::l)else none
  |_,_,_=>none
def St.NJ(st:St):N2→M (SV×St)
 |.tmp t=>st.take true (.t t)
 |.cell t agg n=>do
  let s←st.BL true (.load agg n (.t t))
  let(l,st1,rs)←st.CG st.ver true s.cells
  pure (s.with l,st1.bumps rs)
def St.H5(st:St):List N2→M (List SV×St)
 |[]=>pure ([],st)
 |x::r=>do
  let(s,st1)←st.NJ x
  let(l,st2)←st1.H5 r
  pure (s::l,st2)
def gather:List SV→TV
 |[s]=>.val true s
 |l=>.tup l
structure AFn where
 name:String
 code:DS
 res:List N2
 np:Nat
def Has(P:Pg)(F:AFn):Prop:=
 ∀(f:FuncId) (fn:Func),P.funcs[f]?=some fn→fn.name=F.name→(fn.name== "runtime.NumGoroutine")=false∧F.np≤fn.ntmps∧LQ P fn.results.toList=some F.res∧∃c,fn.body=some c∧codeOf P fn.ntmps c=some F.code
section
variable{E:Env}{lam:Nat→Nat}{z:Nat→Prop}{fp:Ky→List Nat}{hd:Hands}{st:St}{tm:Array Value}{w:World}
def SX(tm:Array Value):ResultVar→Sem Value
 |.tmp t=>pure (tm.getD t undef)
 |.cell a t=>do loadVar t (←asAddr (tm.getD a undef))
theorem Agd(fn:Func)(tm:Array Value):results fn tm=(do let vs←fn.results.mapM (SX tm);pure (if h:vs.size=1 then vs[0]else .tuple vs)):=by
 rfl
theorem AgE{la:List AV}{lv:List Value}(R:Ax E lam z fp (upd Ao 0 (la,lv)) st tm w)(F:Refs st tm w lam){x:ResultVar}{y:N2}(hx:LQ E.P [x]=some [y]){s:SV}{st1:St}(h:(st.NJ y).holds (·=(s,st1))):
  ∃fp' v,(SX tm x).run E.P w=.ok v w∧AoK E lam z true st tm w la lv s v st1 fp':=by
 cases x with
 |tmp t=>
  simp only[LQ,Qb2,Qa1,List.cons.injEq,and_true]at hx;subst hx;simp only[St.NJ]at h;obtain⟨fp',T⟩:=Uw R F (show AE E.P (.tmp t)=some (.t t)from rfl) h [];exact⟨fp',_,rfl,T⟩
 |cell a t=>
  simp only[LQ]at hx;split at hx
  case h_2=>cases hx
  rename_i agg n l hagg hn hl;split at hx
  case isFalse=>cases hx
  rename_i h1n;simp only[Qa1,List.cons.injEq]at hx;obtain⟨rfl,_⟩:=hx;simp only[St.NJ,M.Aa]at h;rw[M.Aw]at h;obtain⟨s0,h0,h⟩:=h;rw[M.Aw]at h;obtain⟨⟨l',st',rs⟩,h1,h⟩:=h;rw[M.Ae]at h;cases h
  obtain⟨v,w',hrun,hr,_,hsame⟩:=Als (ds:=[]) (o:={dst:=none,op:=.load t (.tmp a),type:=0,pos:= "",after:=#[],guard:=none}) R F rfl (show AE E.P (.tmp a)=some (.t a)from rfl) hagg hn h1n rfl h0;obtain rfl:=hsame rfl;obtain⟨f,hm,hu,hnd,hfr,hrefs⟩:=hr
  have hf:f=[]:=by
   cases f with
   |nil=>rfl
   |cons b f=>have:=hfr b zsz;omega
  subst hf;obtain⟨fp',R1,S1,hl,hc,hmm⟩:=JI st true s0.cells (vcells s0 v) st [] la lv fp l' st' rs R (Sh.refl st) hu.cells hrefs h1;obtain⟨hf1,hf2,hf3⟩:=hu.fits hl;simp only[List.nil_append]at S1;refine⟨fp',v,?_,⟨?_,F.shift S1,?_,hf1,?_,?_,?_,?_⟩⟩
  ·simp only[execOp,Instr.loadAt,Act.eval,Sem.run_bind]at hrun;simp only[SX,Sem.run_bind];generalize tm.getD a undef=p at hrun
   cases p with
   |pointer ad=>
    cases ad with
    |none=>trivial
    |some ad=>
     simp only[Instr.sureAddr,asAddr,Sem.run_pure,Result.andThen_ok]at hrun⊢
     cases hlv:(loadVar t ad).run E.P w'<;>simp_all
   |_=>simp[Instr.sureAddr,stuck]at hrun
  ·rw[hf2,hf3];exact R1.bumps rs
  ·intro j a u hj hu';rw[hf2]at hj;rw[hf3]at hu';exact(hc j a u hj hu').shift S1
  ·grind [Cq,S1.next]
  ·grind
  ·grind [hu.cells.length]
  grind [K7]
def Acj:List SV→List AV
 |[]=>[]
 |s::l=>s.cells++Acj l
def Ack:List SV→List Value→List Value
 |s::l,v::m=>vcells s v++Ack l m
 |_,_=>[]
theorem Yw:∀{xs:List ResultVar} {ys:List N2} {la:List AV} {lv:List Value} {st:St} {fp:Ky→List Nat} {ss:List SV} {st1:St},Ax E lam z fp (upd Ao 0 (la,lv)) st tm w→Refs st tm w lam→LQ E.P xs=some ys→
  (st.H5 ys).holds (·=(ss,st1))→∃fp' vs,(xs.mapM (SX tm)).run E.P w=.ok vs w∧Ax E lam z fp' (upd Ao 0 (la++Acj ss,lv++Ack ss vs)) st1 tm w∧vs.length=ss.length∧
   (∀C f,RVs C w (Acj ss) (Ack ss vs) f→Ib C w ss vs f)
 |[],ys,la,lv,st,fp,ss,st1,R,F,hx,h=>by
  simp only[LQ,Qa1]at hx;subst hx;simp only[St.H5]at h;rw[M.Ae]at h;cases h;refine⟨fp,[],zsz,by grind [Acj,Ack],rfl,?_⟩;intro C f h;exact h.Ahr rfl
 |x::xs,ys,la,lv,st,fp,ss,st1,R,F,hx,h=>by
  have hsplit:∃y ys',ys=y::ys'∧LQ E.P [x]=some [y]∧LQ E.P xs=some ys':=by
   cases x with
   |tmp t=>
    grind [LQ,Qa0]
   |cell a t=>
    grind [LQ]
  obtain⟨y,ys',rfl,hy,hys⟩:=hsplit;simp only[St.H5,M.Aa]at h;rw[M.Aw]at h;obtain⟨⟨s,st2⟩,h1,h⟩:=h;rw[M.Aw]at h;obtain⟨⟨l,st3⟩,h2,h⟩:=h;rw[M.Ae]at h;cases h;obtain⟨fp1,v,hr,T⟩:=AgE R F hy h1;obtain⟨fp2,vs,hrs,R2,hlen,hfit⟩:=Yw T.rel T.refs hys h2;refine⟨fp2,v::vs,?_,?_,zg,?_⟩
  ·simp_all
  ·grind [Acj,Ack]
  ·intro C f hc;simp only[Acj,Ack]at hc;obtain⟨m1,m2,f1,f2,em,ef,r1,r2⟩:=RVs.split s.cells hc;obtain⟨rfl,rfl⟩:=List.append_inj em (by grind [T.len,r1.length]);exact⟨f1,f2,ef,T.fits _ _ _ r1,hfit _ _ r2⟩
theorem AkR{ss:List SV}{vs:List Value}{K:TV→Heap→Prop}(R:Ax E lam z fp (upd Ao 0 (Acj ss,Ack ss vs)) st tm w)(hlen:vs.length=ss.length)(hfit:∀C f,RVs C w (Acj ss) (Ack ss vs) f→Ib C w ss vs f)
  (hk:K (gather ss) st.hp) (hkept:(gather ss).kept=true):
  Gives E K (if h:vs.toArray.size=1 then vs.toArray[0]else .tuple vs.toArray) w:=by
 generalize hv:(if h:vs.toArray.size=1 then vs.toArray[0]else .tuple vs.toArray:Value)=v;have hkey:=R.keys (.h 0);simp only[AQ,upd,if_true]at hkey;have hss:=hfit _ _ hkey
 have hres:RTV (ctx E lam z st.hp.next) w (gather ss) v (fp (.h 0)):=by
  match ss,vs,hlen with
  |[],[],_=>
   simp at hv;subst hv;exact⟨#[],rfl,hss⟩
  |[s],[u],_=>
   simp at hv;subst hv;obtain⟨f1,f2,e,h1,h2⟩:=hss;have h2:f2=[]:=h2;rw[e,h2,List.append_nil];exact⟨fun _=>h1,fun h=>nomatch h⟩
  |s::s'::l,u::u'::m,_=>
   simp at hv;subst hv;exact⟨_,rfl,hss⟩
 refine⟨gather ss,st.hp,lam,z,fun κ=>match κ with|.s t=>if t=0 then fp (.h 0)else[]|.o o=>fp (.o o)|.h _=>[],hk,hkept,?_⟩;refine⟨?_,⟨?_,?_,?_⟩,R.z,R.frame,R.os,R.tape,R.output,R.size,rfl,R.base,⟨R.i0.own,R.i0.lt,R.i0.eq,R.i0.good⟩⟩
 ·intro κ
  cases κ with
  |s t=>
   simp only[AQ,fin];split
   ·rename_i ht;subst ht;trivial
   ·rfl
  |o o=>exact R.keys (.o o)
  |h i=>exact RVs.nil
 ·intro κ
  cases κ with
  |s t=>
   dsimp only;split
   ·exact R.fps.nod _
   grind
  |o o=>exact R.fps.nod _
  |h i=>grind
 ·intro κ κ' b hne hb hb'
  cases κ with
  |s t=>
   dsimp only at hb;split at hb
   case isFalse=>cases hb
   rename_i ht
   cases κ' with
   |s t'=>
    grind
   |o o=>exact R.fps.dis _ _ b zsz hb hb'
   |h i=>grind
  |o o=>
   cases κ' with
   |s t'=>
    dsimp only at hb';split at hb'
    ·exact R.fps.dis _ _ b zsz hb hb'
    grind
   |o o'=>exact R.fps.dis _ _ b zg hb hb'
   |h i=>grind
  |h i=>cases hb
 ·intro κ b hb
  cases κ with
  |s t=>
   dsimp only at hb;split at hb
   ·exact R.fps.ok _ b hb
   grind
  |o o=>exact R.fps.ok _ b hb
  |h i=>cases hb
def AEx.done:AEx→Bool
 |.exit _=>false
 |_=>true
def AkJ(res:List N2)(K:TV→Heap→Prop):AEx→St→Prop:=fun e st=>
 e.done=true∧(st.H5 res).holds fun(ss,st')=>K (gather ss) st'.hp∧(gather ss).kept=true
theorem AjU{P:Pg}{F:AFn}(hF:Has P F){args:List SV}{H:Heap}{K:TV→Heap→Prop}(hnp:args.length=F.np)
  (h:Awp P F.code (AkJ F.res K) (start args H)):
  Ll P F.name args H K:=by
 intro f fn hf hn;obtain⟨hng,hnt,hres,c,hbody,hcode⟩:=hF f fn hf hn;refine⟨zg,hng,?_⟩;intro E w vs lam fp hP hw hn0 hnt2 hlen R hsol;subst hP
 let E2:Env:=⟨E.P,E.w0,E.f0,E.i0,fn.ntmps,E.n0,E.l0,E.lw⟩
 let tm:Array Value:=vs++Qb3 (fn.ntmps -vs.size) undef
 have hts:tm.size=fn.ntmps:=zg
 have R2:Ax E2 lam (fun _=>False) fp Ao (start args H) tm w:=by
  refine⟨?_,⟨R.fps.nod,R.fps.dis,R.fps.ok⟩,R.z,R.frame,R.os,R.tape,R.output,R.size,hts,R.base,⟨R.i0.own,R.i0.lt,R.i0.eq,R.i0.good⟩⟩;intro κ;have:=R.keys κ
  cases κ with
  |s t=>
   simp only[AQ,start]at this⊢
   by_cases ht:t<vs.size
   ·have e:tm.getD t undef=vs.getD t undef:=by simp[tm,Qb1,Qc0 ht]
    rw[e];trivial
   ·have e:args[t]?=none:=List.getElem?_eq_none zm;rw[e]at this⊢;trivial
  |o o=>trivial
  |h i=>trivial
 have F2:Refs (start args H) tm w lam:=by
  intro t s hs j a u hj _<;>grind [start,NG]
 refine calls_of_wp hf hbody (wp_mono (h c E2 tm w hcode rfl ⟨lam,_,fp,R2,F2⟩) ?_)
 have fin:∀(a:Act) (w':World),(a.defers=[]∧∃st,Rel E2 st a.tmps w'∧(st.H5 F.res).holds fun(ss,st')=>K (gather ss) st'.hp∧(gather ss).kept=true)→
   a.defers=[]∧∃v,(results fn a.tmps).run E.P w'=.ok v w'∧Gives E K v w':=by
  rintro a w' ⟨hds,st,⟨lam',z',fp',R3,F3⟩,hq⟩;rw[M.Aw]at hq;obtain⟨⟨ss,st'⟩,h1,h2,h3⟩:=hq
  have R4:Ax E2 lam' z' fp' (upd Ao 0 ([],[])) st a.tmps w':=by grind [Eu]
  obtain⟨fp5,us,hr,R5,hl,hfit⟩:=Yw R4 F3 hres h1;refine⟨hds,(if h:us.toArray.size=1 then us.toArray[0]else .tuple us.toArray),?_,?_⟩
  ·have hr':(fn.results.toList.mapM (SX a.tmps)).run E.P w'=.ok us w':=hr
   rw[Agd,Array.mapM_eq_mapM_toList]<;>simp_all
  ·have:=AkR (K:=K) (E:=E2) R5 hl hfit h2 h3;trivial
 intro e a w' hq
 cases e with
 |normal=>
  obtain⟨h1,st,h2,_,h3⟩:=hq;exact fin a w' ⟨h1,st,h2,h3⟩
 |ret=>
  obtain⟨h1,st,h2,_,h3⟩:=hq;exact fin a w' ⟨h1,st,h2,h3⟩
 |exit id=>
  obtain⟨h1,st,h2,h3,_⟩:=hq;cases h3
 |panic ch=>exact hq
 |_=>trivial
end
def Ao1(P:Pg)(name:String)(i:Nat):Bool:=(Qc3 P.funcs.size).all fun f=>f==i||match P.funcs[f]?with
 |some fn=>fn.name !=name
 |none=>true
theorem Ap{P:Pg}{F:AFn}(i:Nat)(fn:Func)(h1:Ao1 P F.name i=true)(h2:P.funcs[i]?=some fn)(h3:(fn.name== "runtime.NumGoroutine")=false)(h4:F.np≤fn.ntmps)(h5:LQ P fn.results.toList=some F.res)
  (h6:fn.body.bind (codeOf P fn.ntmps)=some F.code):Has P F:=by
 intro f fn' hf hn;have hlt:=(Array.getElem?_eq_some_iff.1 hf).1;have h:=List.all_eq_true.1 h1 f zg;simp only[hf,Qc5,beq_iff_eq,bne_iff_ne,ne_eq]at h
 grind [Qa3]
end Go.VS
namespace Go.VS
open Go.RowKit
def Late(P:Pg)(w:World):Prop:=∃lw:World,NN P lw∧∀b,b<lw.heap.size→w.heap[b]?=lw.heap[b]?
theorem Late.good{P:Pg}{w:World}(h:Late P w):NN P w:=by
 obtain⟨lw,h1,h2⟩:=h;exact h1.of h2
theorem Late.of{P:Pg}{w w':World}(h:Late P w)(hb:Below w.heap.size w w'):Late P w':=by
 obtain⟨lw,h1,h2⟩:=h;refine⟨lw,h1,fun b hl=>?_⟩;have e:=h2 b hl
 have hlt:b<w.heap.size:=by
  grind
 exact(hb.block b hlt).trans e
def Jp(P:Pg)(w:World)(args:List SV)(vs:Array Value):Prop:=vs.size=args.length∧∀(t:Nat) (s:SV),args[t]?=some s→∃(C:Ctx) (f:List Nat),C.P=P.toProgram∧RSV C w s (vs.getD t undef) f
theorem Wt{P:Pg}{nm:String}{args:List SV}{H:Heap}{K:TV→Heap→Prop}{r:TV}(hk:r.kept=true)(hK:K r H)
  (h:∀f fn,P.funcs[f]?=some fn→fn.name=nm→fn.body.isSome=true∧(fn.name== "runtime.NumGoroutine")=false∧∀(w:World) (vs:Array Value),Late P w→Jp P w args vs→
   Calls P f vs w fun e w'=>∃v,e=.returned v∧(∀C,C.P=P.toProgram→RTV C w' r v [])∧Below w.heap.size w w'):Ll P nm args H K:=by
 intro f fn hf hn;obtain⟨h1,h2,h3⟩:=h f fn hf hn;refine⟨h1,h2,fun E w vs lam fp hP hw hn0 hnt hlen R hsol=>?_⟩;subst hP;refine(h3 w vs ⟨E.lw,R.i0.good,fun b hb=>?_⟩ ⟨hlen,fun t s ht=>?_⟩).mono ?_
 ·exact(R.frame b (R.i0.lt b hb).1 (R.i0.lt b hb).2).trans (R.i0.eq b hb)
 ·have:=R.keys (.s t);simp only[AQ,start,ht]at this;exact⟨_,_,rfl,this.1 rfl⟩
 rintro e w' ⟨v,rfl,hv,bel⟩;have R':=R.grow (w':=w') ⟨bel.os,bel.tape,bel.output,bel.size,fun b hb _=>bel.block b hb⟩;refine⟨r,H,lam,fun _=>False,fun κ=>match κ with|.o o=>fp (.o o)|_=>[],hK,hk,?_⟩;refine⟨?_,⟨?_,?_,?_⟩,R'.z,R'.frame,R'.os,R'.tape,R'.output,R'.size,rfl,R'.base,⟨R'.i0.own,R'.i0.lt,R'.i0.eq,R'.i0.good⟩⟩
 ·intro κ
  cases κ with
  |s t=>
   simp only[AQ,fin];split
   ·rename_i ht;subst ht;exact hv _ rfl
   ·rfl
  |o o=>exact R'.keys (.o o)
  |h i=>exact RVs.nil
 ·intro κ
  cases κ with
  |o o=>exact R'.fps.nod _
  |_=>grind
 ·intro κ κ' b hne hb hb'
  cases κ with
  |o o=>
   cases κ' with
   |o o'=>exact R'.fps.dis _ _ b zg hb hb'
   |_=>grind
  |_=>cases hb
 ·intro κ b hb
  cases κ with
  |o o=>exact R'.fps.ok _ b hb
  |_=>cases hb
theorem WH{P:Pg}(hkp:∀v,¬P.kp v){nm:String}{args:List SV}{K:TV→Heap→Prop}(h:Ll P nm args Heap.empty K){f:FuncId}{fn:Func}(hf:P.funcs[f]?=some fn)(hn:fn.name=nm){w:World}(hw:Late P w){vs:Array Value}(hlen:vs.size=args.length)
  (hz:∀(t:Nat) (s:SV),args[t]?=some s→s.cells.all AV.solid=true∧∀C:Ctx,C.P=P.toProgram→(∀b,b<w.heap.size→C.zb b∧C.zt b)→RSV C w s (vs.getD t undef) []):
  Calls P f vs w fun e w'=>∃v,e=.returned v∧Below w.heap.size w w'∧∃r H',K r H'∧r.kept=true∧∃(C:Ctx) (f:List Nat),C.P=P.toProgram∧RTV C w' r v f:=by
 obtain⟨_,_,h3⟩:=h f fn hf hn;obtain⟨lw,hg,hl⟩:=hw
 have hsz:lw.heap.size≤w.heap.size:=by
  grind
 let E:Env:=⟨P,w,fun _=>False,fun b=>b<w.heap.size,vs.size,0,fun _=>0,lw⟩
 have R:Ax E (fun _=>0) (fun _=>False) (fun _=>[]) Ao (start args Heap.empty) vs w:=by
  refine⟨?_,⟨fun _=>Qa4,fun _ _ _ _ h=>(nomatch h),fun _ _ h=>(nomatch h)⟩,fun _ h=>h.elim,fun _ _ _=>rfl,rfl,rfl,rfl,Qa9 _,rfl,⟨Qa9 _,fun o ho=>absurd ho (Nat.not_lt_zero _)⟩,⟨fun b hb=>⟨hb,id⟩,fun b hb=>⟨Qa6 hb hsz,id⟩,hl,hg⟩⟩;intro κ
  cases κ with
  |s t=>
   simp only[AQ,start]
   cases hs:args[t]?with
   |none=>rfl
   |some s=>exact⟨fun _=>(hz t s hs).2 _ rfl fun b hb=>⟨.inl ⟨hb,id⟩,.inl hb⟩,fun h=>nomatch h⟩
  |o o=>intro l hl;cases hl
  |h i=>exact RVs.nil
 refine(h3 E w vs (fun _=>0) (fun _=>[]) rfl rfl rfl rfl hlen R fun t s hs=>(hz t s hs).1).mono fun e w' he=>?_
 cases e with
 |returned v=>
  obtain⟨r,H',lam,z,fp,hk,hkept,R'⟩:=he;exact⟨v,rfl,⟨R'.os,R'.tape,R'.output,R'.size,fun b hb=>R'.frame b hb id⟩,r,H',hk,hkept,_,_,rfl,R'.keys (.s 0)⟩
 |panicked ch=>
  obtain⟨v,_,hv,_⟩:=he<;>grind
 |_=>grind
end Go.VS
namespace Go.VS
mutual
inductive Co:AV→AV→Prop
 |refl (a:AV):Co a a
 |nil (τ:Tag) (k:Nat):Co (.lit (.slice none 0 0)) (.sl τ k [])
 |sl (τ τ':Tag) (k:Nat) (xs ys:List (List AV)) (h:τ=τ'∨(τ=.imm∧τ'=.brw)) (hl:C9 xs ys):Co (.sl τ k xs) (.sl τ' k ys)
inductive CoL:List AV→List AV→Prop
 |nil:CoL [] []
 |cons (a b:AV) (l m:List AV) (h:Co a b) (t:CoL l m):CoL (a::l) (b::m)
inductive C9:List (List AV)→List (List AV)→Prop
 |nil:C9 [] []
 |cons (a b:List AV) (l m:List (List AV)) (h:CoL a b) (t:C9 l m):C9 (a::l) (b::m)
end
theorem CoL.refl:∀l,CoL l l
 |[]=>.nil
 |a::l=>.cons a a l l (.refl a) (CoL.refl l)
theorem C9.refl:∀l,C9 l l
 |[]=>.nil
 |a::l=>.cons a a l l (CoL.refl a) (C9.refl l)
theorem CoL.length:∀{l m:List AV},CoL l m→l.length=m.length
 |_,_,.nil=>rfl
 |_,_,.cons _ _ _ _ _ t=>by simp[t.length]
theorem C9.length:∀{l m:List (List AV)},C9 l m→l.length=m.length
 |_,_,.nil=>rfl
 |_,_,.cons _ _ _ _ _ t=>by simp[t.length]
theorem C9.lens{k:Nat}:∀{l m:List (List AV)},C9 l m→(∀x∈l,x.length=k)→∀x∈m,x.length=k
 |_,_,.nil,_,x,hx=>by cases hx
 |_,_,.cons a b l m h t,hk,x,hx=>by
  rcases List.mem_cons.1 hx with rfl|hx
  ·grind [h.length]
  ·exact t.lens (fun y hy=>hk y zg) x hx
theorem CoL.get:∀{l m:List AV},CoL l m→∀{j:Nat} {a:AV},l[j]?=some a→∃b,m[j]?=some b∧Co a b
 |_,_,.nil,j,a,h=>zg
 |_,_,.cons a b l m h t,0,x,hx=>zg
 |_,_,.cons a b l m h t,j+1,x,hx=>by simpa using t.get (j:=j) zg
theorem CoL.get':∀{l m:List AV},CoL l m→∀{j:Nat} {b:AV},m[j]?=some b→∃a,l[j]?=some a∧Co a b
 |_,_,.nil,j,a,h=>zg
 |_,_,.cons a b l m h t,0,x,hx=>zg
 |_,_,.cons a b l m h t,j+1,x,hx=>by simpa using t.get' (j:=j) zg
theorem C9.get:∀{l m:List (List AV)},C9 l m→∀{j:Nat} {a:List AV},l[j]?=some a→∃b,m[j]?=some b∧CoL a b
 |_,_,.nil,j,a,h=>zg
 |_,_,.cons a b l m h t,0,x,hx=>zg
 |_,_,.cons a b l m h t,j+1,x,hx=>by simpa using t.get (j:=j) zg
section
variable{C:Ctx}{w:World}
mutual
theorem Co.rv:∀{a b:AV},Co a b→∀{v:Value} {f:List Nat},RV C w a v f→RV C w b v f
 |_,_,.refl _,_,_,h=>h
 |_,_,.nil τ k,v,f,h=>by cases h;exact .slNil τ k
 |_,_,.sl τ τ' k xs ys ht hl,v,f,h=>by
  cases h with
  |slNil=>cases hl;exact .slNil τ' k
  |shrE _ _ a cap hτ=>
   cases hl;refine .shrE τ' k a cap ?_
   rcases ht with rfl|⟨_,rfl⟩
   ·exact hτ
   ·simp
  |own _ _ b off cap cs e f' hb hs hc hm hk hr=>
   obtain rfl:τ'=.own:=by rcases ht with h|⟨h,_⟩<;>cases h;rfl
   have hlen:=hl.length;rw[hlen]at hc hr⊢;exact .own k ys b off cap cs e f' hb hs hc hm (hl.lens hk) (C9.rvs hl hr)
  |shr _ _ _ b off cap cs e fz hτ hz hi hb hs hc hk hr=>
   have hlen:=hl.length;rw[hlen]at hs hc hr⊢;refine .shr τ' k ys b off cap cs e fz ?_ hz ?_ hb hs hc (hl.lens hk) (C9.rvs hl hr)
   ·rcases ht with rfl|⟨_,rfl⟩
    ·exact hτ
    ·simp
   ·intro e
    rcases ht with rfl|⟨_,h⟩
    ·exact hi e
    ·rw[h]at e;cases e
theorem CoL.rvs:∀{l m:List AV},CoL l m→∀{vs:List Value} {f:List Nat},RVs C w l vs f→RVs C w m vs f
 |_,_,.nil,_,_,h=>h
 |_,_,.cons a b l m h t,_,_,.cons _ v f _ vs g ha ht=>.cons b v f m vs g (h.rv ha) (t.rvs ht)
theorem C9.rvs:∀{l m:List (List AV)},C9 l m→∀{vs:List Value} {f:List Nat},RVs C w l.flatten vs f→RVs C w m.flatten vs f
 |_,_,.nil,_,_,h=>h
 |_,_,.cons a b l m h t,_,_,hr=>by
  rw[List.flatten_cons]at hr⊢;obtain⟨m1,m2,f1,f2,rfl,rfl,h1,h2⟩:=RVs.split _ hr;exact(h.rvs h1).append (t.rvs h2)
end
end
theorem Co.Wz:∀(p:List Stp) {a b:AV} {k:Nat} {xs:List (List AV)},Co a b→a.at p=some (.sl .own k xs)→∃ys,b.at p=some (.sl .own k ys)
 |p,_,_,k,xs,.refl a,ha=>⟨xs,ha⟩
 |[],_,_,k,xs,.nil τ' k',ha=>by grind [AV.at]
 |s::r,_,_,k,xs,.nil τ' k',ha=>by trivial
 |[],_,_,k,xs,.sl τ τ' k' xs' ys ht hl,ha=>by
  grind [AV.at,AV.sl.injEq]
 |s::r,_,_,k,xs,.sl τ τ' k' xs' ys ht hl,ha=>by
  cases τ with
  |own=>
   obtain rfl:τ'=.own:=zg
   simp only[AV.at]at ha⊢;split at ha
   case isFalse=>cases ha
   rename_i hk;rw[if_pos hk];rw[Qa3]at ha;obtain⟨c,hc,ha⟩:=ha;rw[Qa3]at hc;obtain⟨l,hl1,hc⟩:=hc;obtain⟨m,hm,hlm⟩:=hl.get hl1;obtain⟨d,hd,hcd⟩:=hlm.get hc
   obtain⟨zs,hz⟩:=Co.Wz r hcd ha<;>grind
  |_=>trivial
inductive CoS:SV→SV→Prop
 |one (a b:AV) (h:Co a b):CoS (.one a) (.one b)
 |agg (l m:List AV) (h:CoL l m):CoS (.agg l) (.agg m)
inductive FA:List SV→List SV→Prop
 |nil:FA [] []
 |cons (a b:SV) (l m:List SV) (h:CoS a b) (t:FA l m):FA (a::l) (b::m)
inductive CoT:TV→TV→Prop
 |refl (x:TV):CoT x x
 |tup (l m:List SV) (h:FA l m):CoT (.tup l) (.tup m)
 |val (g:Bool) (s s':SV) (h:CoS s s'):CoT (.val g s) (.val g s')
theorem CoS.cells{s s':SV}(h:CoS s s'):CoL s.cells s'.cells:=by
 cases h with
 |one a b h=>exact .cons a b [] [] h .nil
 |agg l m h=>exact h
theorem CoS.refl:∀s,CoS s s
 |.one a=>.one a a (.refl a)
 |.agg l=>.agg l l (CoL.refl l)
theorem CoS.vcells{s s':SV}(h:CoS s s')(v:Value):vcells s v=vcells s' v:=by
 cases h with
 |one=>rfl
 |agg=>grind [K8]
theorem CoS.rsv{C:Ctx}{w:World}{s s':SV}(h:CoS s s'){v:Value}{f:List Nat}(hr:RSV C w s v f):RSV C w s' v f:=by
 cases h with
 |one a b h=>exact h.rv hr
 |agg l m h=>obtain⟨cs,e,hr⟩:=hr;exact⟨cs,e,h.rvs hr⟩
theorem FA.rsvs{C:Ctx}{w:World}:∀{l m:List SV},FA l m→∀{vs:List Value} {f:List Nat},Ib C w l vs f→Ib C w m vs f
 |_,_,.nil,_,_,h=>h
 |_,_,.cons a b l m h t,[],_,hr=>hr.elim
 |_,_,.cons a b l m h t,v::vs,_,hr=>by
  obtain⟨f1,f2,e,h1,h2⟩:=hr;exact⟨f1,f2,e,h.rsv h1,t.rsvs h2⟩
theorem CoT.rtv{C:Ctx}{w:World}{x y:TV}(h:CoT x y){v:Value}{f:List Nat}(hr:RTV C w x v f):RTV C w y v f:=by
 cases h with
 |refl=>exact hr
 |tup l m h=>obtain⟨vs,e,hr⟩:=hr;exact⟨vs,e,h.rsvs hr⟩
 |val g s s' h=>exact⟨fun hg=>h.rsv (hr.1 hg),hr.2⟩
structure Ed(st st':St):Prop where
 sl:∀t,CoT (st.sl t) (st'.sl t)
 hp:∀o,(st.hp.get o=none∧st'.hp.get o=none)∨∃l m,st.hp.get o=some l∧st'.hp.get o=some m∧CoL l m
 nx:st'.hp.next=st.hp.next
 vs:st'.vs=st.vs
 hv:st'.hv=st.hv
theorem Ed.ver{st st':St}(h:Ed st st')(r:Root):st'.ver r=st.ver r:=by
 simp_all [St.ver,h.vs,h.hv]
theorem Ed.Wz{st st':St}(h:Ed st st'){p:Place}{k:Nat}{xs:List (List AV)}(ha:st.at p=some (.sl .own k xs)):∃ys,st'.at p=some (.sl .own k ys):=by
 unfold St.at at ha⊢;rw[Qa3]at ha;obtain⟨a,ha,hp⟩:=ha
 have key:∃b,st'.root p.root=some b∧Co a b:=by
  cases hr:p.root with
  |slot t j=>
   rw[hr]at ha;obtain⟨s,hs,hj⟩:=St.Fk ha;have:=h.sl t;rw[hs]at this;generalize hx:st'.sl t=x at this
   cases this with
   |refl=>exact⟨a,by grind [St.root,TV.cell],.refl a⟩
   |val _ _ s' hss=>
    obtain⟨b,hb,hab⟩:=hss.cells.get hj<;>grind [St.root,TV.cell]
  |obj o c=>
   rw[hr]at ha;obtain⟨l,hl,hc⟩:=St.Fg ha
   rcases h.hp o with⟨h1,_⟩|⟨l',m,h1,h2,h3⟩
   ·grind
   ·rw[h1]at hl;cases hl
    obtain⟨b,hb,hab⟩:=h3.get hc<;>grind [St.root]
 obtain⟨b,hb,hab⟩:=key
 obtain⟨ys,hys⟩:=hab.Wz p.path hp<;>grind
theorem Ed.BE{st st':St}(h:Ed st st')(tm:Array Value)(w:World)(lam:Nat→Nat)(r:Root):BE st' tm w lam r=BE st tm w lam r:=by
 cases r with
 |obj o c=>rfl
 |slot t j=>
  have:=h.sl t;simp only[VS.BE];generalize st.sl t=x at this;generalize st'.sl t=y at this
  cases this with
  |refl=>rfl
  |tup=>rfl
  |val g s s' hss=>grind [hss.vcells]
theorem Co.XT{a b:AV}(h:Co a b):b=a∨b.solid=true:=by
 cases h with
 |refl=>grind
 |nil=>exact .inr rfl
 |sl=>exact .inr rfl
theorem Ed.Ari{st st':St}(h:Ed st st'){E:Env}{lam:Nat→Nat}{z:Nat→Prop}{fp:Ky→List Nat}{hd:Hands}{tm:Array Value}{w:World}(R:Ax E lam z fp hd st tm w):Ax E lam z fp hd st' tm w:=by
 refine⟨?_,R.fps,R.z,R.frame,R.os,R.tape,R.output,R.size,R.tsz,by rw[h.nx];exact R.base,R.i0⟩
 intro κ;rw[h.nx];have hk:=R.keys κ
 cases κ with
 |s t=>exact(h.sl t).rtv hk
 |h i=>exact hk
 |o o=>
  intro m hm
  rcases h.hp o with⟨_,h2⟩|⟨l,m',h1,h2,h3⟩
  ·grind
  ·rw[h2]at hm;cases hm;obtain⟨q1,cs,e,f',q2,q3,q4⟩:=hk l h1;exact⟨q1,cs,e,f',q2,h3.rvs q3,q4⟩
theorem Ed.le{st st':St}(h:Ed st st'):St.Le st st':=by
 rintro E tm w ⟨lam,z,fp,R,F⟩;refine⟨lam,z,fp,h.Ari R,?_⟩
 ·intro t s hs j b u hj hu;have hsl:=h.sl t;rw[hs]at hsl;generalize hx:st.sl t=x at hsl
  have key:∃s0,x=.val true s0∧CoS s0 s:=by
   cases hsl<;>grind [CoS.refl]
  obtain⟨s0,rfl,hss⟩:=key;obtain⟨a,ha,hab⟩:=hss.cells.get' hj
  rcases hab.XT with rfl|hsol
  ·have hF:=F t s0 hx j b u ha (by grind [hss.vcells])
   cases b with
   |ref p ver k lo n=>
    obtain⟨h1,h2⟩:=hF;refine⟨by grind [h.ver],fun hv=>?_⟩;rw[h.ver]at hv;obtain⟨xs,v0,q1,q2,q3⟩:=h2 hv
    obtain⟨ys,hys⟩:=h.Wz q1<;>grind [conc,h.BE]
   |adr p ver k i c=>
    obtain⟨h1,h2⟩:=hF;refine⟨by grind [h.ver],fun hv=>?_⟩;rw[h.ver]at hv;obtain⟨xs,b,off,len,cap,q1,q2,q3⟩:=h2 hv
    obtain⟨ys,hys⟩:=h.Wz q1<;>grind [conc,h.BE]
   |_=>exact trivial
  grind [NG]
end Go.VS
namespace Go.VS
def rbase:Nat:=1000
inductive BT
 |int (k:IntKind)
 |bool
 |str
 |unit
 |sl (e:BT)
 |pair (a b:BT)
 deriving DecidableEq
inductive TT
 |leaf
 |node (τ:Tag) (e:TT)
 |pair (a b:TT)
 deriving DecidableEq
@[reducible] def BT.D:BT→Type
 |.int _=>Int
 |.bool=>Bool
 |.str=>List UInt8
 |.unit=>Unit
 |.sl e=>List e.D
 |.pair a b=>a.D×b.D
def BT.size:BT→Nat
 |.unit=>0
 |.pair a b=>a.size+b.size
 |_=>1
def BT.dflt:(t:BT)→t.D
 |.int _=>(0:Int)
 |.bool=>false
 |.str=>[]
 |.unit=>()
 |.sl _=>[]
 |.pair a b=>(a.dflt,b.dflt)
def TT.fst:TT→TT
 |.pair a _=>a
 |_=>.leaf
def TT.snd:TT→TT
 |.pair _ b=>b
 |_=>.leaf
def TT.tag:TT→Tag
 |.node τ _=>τ
 |_=>.imm
def TT.elt:TT→TT
 |.node _ e=>e
 |_=>.leaf
def BT.enc:(t:BT)→TT→t.D→List AV
 |.int k,_,n=>[.lit (.int k n)]
 |.bool,_,b=>[.lit (.bool b)]
 |.str,_,s=>[.lit (.string ⟨s.toArray⟩)]
 |.unit,_,_=>[]
 |.sl e,tt,l=>[.sl tt.tag e.size (l.map (e.enc tt.elt))]
 |.pair a b,tt,x=>a.enc tt.fst x.1++b.enc tt.snd x.2
inductive TC
 |int (k:IntKind) (n:Int)
 |bool (b:Bool)
 |str (s:List UInt8)
 |nil
 |lit (v:Value)
 |sl (τ:Tag) (tt:TT) (e:BT) (l:List e.D)
 |box (b c:Nat)
 |boxd (b c n i:Nat)
 |ref (p:Place) (tt:TT) (e:BT) (w:Option (Nat×Nat))
 |adr (p:Place) (tt:TT) (e:BT) (i c:Nat)
 |iadr (tt:TT) (e:BT) (l:List e.D) (i c:Nat)
 |iadrd (tt:TT) (e:BT) (l:List e.D) (i c n j:Nat)
 |dead
 deriving Inhabited
def BT.ex:(t:BT)→TT→t.D→List TC
 |.int k,_,n=>[.int k n]
 |.bool,_,b=>[.bool b]
 |.str,_,s=>[.str s]
 |.unit,_,_=>[]
 |.sl e,tt,l=>[.sl tt.tag tt.elt e l]
 |.pair a b,tt,x=>a.ex tt.fst x.1++b.ex tt.snd x.2
def Tag.le(a b:Tag):Bool:=
 match a,b with
 |.own,.own=>true
 |.imm,.imm=>true
 |.imm,.brw=>true
 |.brw,.brw=>true
 |_,_=>false
def TT.co:TT→TT→Bool
 |.leaf,.leaf=>true
 |.node τ a,.node τ' b=>τ.le τ'&&a.co b
 |.pair a b,.pair c d=>a.co c&&b.co d
 |_,_=>false
def BT.im:(t:BT)→TT→List TC→Option (t.D×List TC)
 |.int k,_,.int k' n::r=>if k=k' then some (n,r)else none
 |.bool,_,.bool b::r=>some (b,r)
 |.str,_,.str s::r=>some (s,r)
 |.unit,_,r=>some ((),r)
 |.sl e,tt,.sl τ' tt' e' l::r=>if h:e'=e then(if τ'.le tt.tag&&tt'.co tt.elt then some (h▸l,r)else none)else none
 |.sl _,_,.nil::r=>some ([],r)
 |.pair a b,tt,r=>match a.im tt.fst r with
  |some (x,r1)=>match b.im tt.snd r1 with
   |some (y,r2)=>some ((x,y),r2)
   |none=>none
  |none=>none
 |_,_,_=>none
def BT.Sq(t:BT)(tt:TT)(cs:List TC):Option t.D:=match t.im tt cs with
 |some (x,[])=>some x
 |_=>none
def Root.mu(μ:Nat→Nat):Root→Root
 |.slot t j=>.slot t j
 |.obj b c=>.obj (μ b) c
def Place.mu(μ:Nat→Nat)(p:Place):Place:=⟨p.root.mu μ,p.path⟩
def TC.atS:TC→List Stp→Option TC
 |c,[]=>some c
 |.sl .own tt e l,s::r=>if s.k=e.size then((l[s.i]?).bind fun x=>(e.ex tt x)[s.c]?).bind (·.atS r)else none
 |_,_=>none
section
variable(μ:Nat→Nat)(ver:Root→Nat)
def TC.av(ln:Place→Option Nat):TC→AV→Prop
 |.int k n,a=>a=.lit (.int k n)
 |.bool b,a=>a=.lit (.bool b)
 |.str s,a=>a=.lit (.string ⟨s.toArray⟩)
 |.nil,a=>a=.lit (.slice none 0 0)
 |.lit v,a=>a=.lit v
 |.sl τ tt e l,a=>a=.sl τ e.size (l.map (e.enc tt))
 |.box b c,a=>a=.ptr (μ b) c
 |.boxd b c _ i,a=>a=.ptr (μ b) (c+i)
 |.ref p _ e (some (lo,n)),a=>a=.ref (p.mu μ) (ver (p.mu μ).root) e.size lo n
 |.ref p _ e none,a=>∃m,a=.ref (p.mu μ) (ver (p.mu μ).root) e.size 0 m∧∀n,ln p=some n→m=n
 |.adr p _ e i c,a=>a=.adr (p.mu μ) (ver (p.mu μ).root) e.size i c
 |.iadr tt e l i c,a=>a=.iadr e.size (l.map (e.enc tt)) i c
 |.iadrd tt e l i c _ j,a=>a=.iadr e.size (l.map (e.enc tt)) i (c+j)
 |.dead,_=>True
def avs(ln:Place→Option Nat):List TC→List AV→Prop
 |[],[]=>True
 |c::cs,a::l=>c.av μ ver ln a∧avs ln cs l
 |_,_=>False
end
section
variable{μ:Nat→Nat}{ver:Root→Nat}{ln:Place→Option Nat}
theorem Pc{p:Place}{tt:TT}{e:BT}{a:AV}(h:(TC.ref p tt e none).av μ ver ln a){n:Nat}(hn:ln p=some n):a=.ref (p.mu μ) (ver (p.mu μ).root) e.size 0 n:=by
 obtain⟨m,rfl,hm⟩:=h<;>grind
theorem Cd:∀{cs:List TC} {l:List AV},avs μ ver ln cs l→l.length=cs.length
 |[],[],_=>rfl
 |c::cs,a::l,h=>by simp[Cd h.2]
 |[],_::_,h=>h.elim
 |_::_,[],h=>h.elim
theorem Jy:∀{cs:List TC} {l:List AV},avs μ ver ln cs l→∀{j:Nat} {c:TC},cs[j]?=some c→∃a,l[j]?=some a∧c.av μ ver ln a
 |[],[],_,j,c,h=>zg
 |c::cs,a::l,h,0,x,hx=>by simp at hx;subst hx;exact⟨a,rfl,h.1⟩
 |c::cs,a::l,h,j+1,x,hx=>by simpa using Jy h.2 (j:=j) zg
 |[],_::_,h,_,_,_=>h.elim
 |_::_,[],h,_,_,_=>h.elim
theorem FR:∀{cs:List TC} {l:List AV},avs μ ver ln cs l→∀{ds:List TC} {m:List AV},avs μ ver ln ds m→avs μ ver ln (cs++ds) (l++m)
 |[],[],_,_,_,h=>h
 |c::cs,a::l,h,_,_,k=>⟨h.1,FR h.2 k⟩
 |[],_::_,h,_,_,_=>h.elim
 |_::_,[],h,_,_,_=>h.elim
theorem Zy:∀{cs ds:List TC} {l:List AV},avs μ ver ln (cs++ds) l→∃l1 l2,l=l1++l2∧avs μ ver ln cs l1∧avs μ ver ln ds l2
 |[],ds,l,h=>⟨[],l,rfl,trivial,h⟩
 |c::cs,ds,[],h=>h.elim
 |c::cs,ds,a::l,h=>by
  obtain⟨l1,l2,rfl,h1,h2⟩:=Zy h.2;exact⟨a::l1,l2,rfl,⟨h.1,h1⟩,h2⟩
theorem Kl{cs:List TC}{l:List AV}(h:avs μ ver ln cs l)(n:Nat):avs μ ver ln (cs.take n) (l.take n):=by
 induction cs generalizing l n with
 |nil=>grind [avs]
 |cons c cs ih=>cases l with
  |nil=>trivial
  |cons a l=>cases n<;>grind [avs]
theorem Kk{cs:List TC}{l:List AV}(h:avs μ ver ln cs l)(n:Nat):avs μ ver ln (cs.drop n) (l.drop n):=by
 induction cs generalizing l n with
 |nil=>grind [avs]
 |cons c cs ih=>cases l with
  |nil=>trivial
  |cons a l=>cases n with
   |zero=>exact h
   |succ n=>exact ih h.2 n
theorem VQ{cs:List TC}{l:List AV}(h:avs μ ver ln cs l)(j:Nat){c:TC}{a:AV}(hc:c.av μ ver ln a):avs μ ver ln (cs.set j c) (l.set j a):=by
 induction cs generalizing l j with
 |nil=>grind [avs]
 |cons d cs ih=>cases l with
  |nil=>trivial
  |cons b l=>cases j with
   |zero=>exact⟨hc,h.2⟩
   |succ n=>exact⟨h.1,ih h.2 n⟩
theorem D3:∀(t:BT) (tt:TT) (x:t.D),(t.enc tt x).length=t.size
 |.int _,_,_=>rfl
 |.bool,_,_=>rfl
 |.str,_,_=>rfl
 |.unit,_,_=>rfl
 |.sl _,_,_=>rfl
 |.pair a b,tt,x=>by simp[BT.enc,BT.size,D3 a,D3 b]
theorem CZ:∀(t:BT) (tt:TT) (x:t.D),(t.ex tt x).length=t.size
 |.int _,_,_=>rfl
 |.bool,_,_=>rfl
 |.str,_,_=>rfl
 |.unit,_,_=>rfl
 |.sl _,_,_=>rfl
 |.pair a b,tt,x=>by simp[BT.ex,BT.size,CZ a,CZ b]
theorem Fb:∀(t:BT) (tt:TT) (x:t.D),avs μ ver ln (t.ex tt x) (t.enc tt x)
 |.int _,_,_=>⟨rfl,trivial⟩
 |.bool,_,_=>⟨rfl,trivial⟩
 |.str,_,_=>⟨rfl,trivial⟩
 |.unit,_,_=>trivial
 |.sl _,_,_=>⟨rfl,trivial⟩
 |.pair a b,tt,x=>FR (Fb a tt.fst x.1) (Fb b tt.snd x.2)
theorem TT.Apl{a b:TT}(h:a.co b=true):a.fst.co b.fst=true:=by
 cases a<;>cases b<;>simp_all [TT.co,TT.fst]
theorem TT.Apm{a b:TT}(h:a.co b=true):a.snd.co b.snd=true:=by
 cases a<;>cases b<;>simp_all [TT.co,TT.snd]
theorem TT.Apk{a b:TT}(h:a.co b=true):a.elt.co b.elt=true:=by
 cases a<;>cases b<;>simp_all [TT.co,TT.elt]
theorem TT.Apn{a b:TT}(h:a.co b=true):a.tag.le b.tag=true:=by
 cases a<;>cases b<;>simp_all [TT.co,TT.tag]
 all_goals rfl
theorem Tag.Ahi{a b:Tag}(h:a.le b=true):a=b∨(a=.imm∧b=.brw):=by
 cases a<;>cases b<;>simp_all [Tag.le]
theorem CoL.append:∀{l m:List AV},CoL l m→∀{l' m':List AV},CoL l' m'→CoL (l++l') (m++m')
 |_,_,.nil,_,_,h=>h
 |_,_,.cons a b l m h t,_,_,k=>.cons a b _ _ h (t.append k)
theorem C9.map{α:Type}{f g:α→List AV}(h:∀x,CoL (f x) (g x)):∀l:List α,C9 (l.map f) (l.map g)
 |[]=>.nil
 |x::l=>.cons _ _ _ _ (h x) (C9.map h l)
theorem WQ:∀(t:BT) {tt tt':TT} (_:tt.co tt'=true) (x:t.D),CoL (t.enc tt x) (t.enc tt' x)
 |.int _,_,_,_,_=>CoL.refl _
 |.bool,_,_,_,_=>CoL.refl _
 |.str,_,_,_,_=>CoL.refl _
 |.unit,_,_,_,_=>.nil
 |.sl e,tt,tt',h,l=>.cons _ _ _ _ (.sl _ _ _ _ _ (Tag.Ahi (TT.Apn h)) (C9.map (fun x=>WQ e (TT.Apk h) x) l)) .nil
 |.pair a b,tt,tt',h,x=>(WQ a (TT.Apl h) x.1).append (WQ b (TT.Apm h) x.2)
theorem AkZ:∀(t:BT) (tt:TT) {cs:List TC} {x:t.D} {r:List TC},t.im tt cs=some (x,r)→∀{l:List AV},avs μ ver ln cs l→
  ∃l1 l2,l=l1++l2∧CoL l1 (t.enc tt x)∧avs μ ver ln r l2
 |.int k,_,.int k' n::r,x,_,h,a::l,ha=>by
  simp only[BT.im]at h;split at h
  ·cases h;rename_i hk;subst hk;exact⟨[a],l,rfl,by rw[ha.1];exact CoL.refl _,ha.2⟩
  grind
 |.bool,_,.bool b::r,x,_,h,a::l,ha=>by
  simp only[BT.im,Qa1,Prod.mk.injEq]at h;obtain⟨rfl,rfl⟩:=h;exact⟨[a],l,rfl,by rw[ha.1];exact CoL.refl _,ha.2⟩
 |.str,_,.str b::r,x,_,h,a::l,ha=>by
  simp only[BT.im,Qa1,Prod.mk.injEq]at h;obtain⟨rfl,rfl⟩:=h;exact⟨[a],l,rfl,by rw[ha.1];exact CoL.refl _,ha.2⟩
 |.unit,_,cs,x,r,h,l,ha=>by
  have h:some ((),cs)=some (x,r):=by trivial
  simp only[Qa1,Prod.mk.injEq]at h;obtain⟨_,rfl⟩:=h;exact⟨[],l,rfl,.nil,ha⟩
 |.sl e,tt,.sl τ' tt' e' l0::r0,x,r,h,a::l,ha=>by
  simp only[BT.im]at h;split at h
  case isFalse=>cases h
  rename_i he;subst he;split at h
  case isFalse=>cases h
  rename_i hc;cases h;simp only[Qa2]at hc;refine⟨[a],l,rfl,?_,ha.2⟩;rw[ha.1];exact .cons _ _ _ _ (.sl _ _ _ _ _ (Tag.Ahi hc.1) (C9.map (fun x=>WQ _ hc.2 x) _)) .nil
 |.sl e,tt,.nil::r0,x,r,h,a::l,ha=>by
  simp only[BT.im,Qa1,Prod.mk.injEq]at h;obtain⟨rfl,rfl⟩:=h;exact⟨[a],l,rfl,by rw[ha.1];exact .cons _ _ _ _ (.nil _ _) .nil,ha.2⟩
 |.pair a b,tt,cs,x,r,h,l,ha=>by
  have h:(match a.im tt.fst cs with
   |some (x,r1)=>match b.im tt.snd r1 with
    |some (y,r2)=>some ((x,y),r2)
    |none=>none
   |none=>none)=some (x,r):=by trivial
  split at h
  case h_2=>cases h
  rename_i x1 r1 h1;split at h
  case h_2=>cases h
  rename_i y r2 h2;cases h;obtain⟨l1,l2,rfl,c1,c2⟩:=AkZ a _ h1 ha;obtain⟨m1,m2,rfl,d1,d2⟩:=AkZ b _ h2 c2;exact⟨l1++m1,m2,zsz,c1.append d1,d2⟩
theorem GJ{t:BT}{tt:TT}{cs:List TC}{x:t.D}(h:t.Sq tt cs=some x){l:List AV}(ha:avs μ ver ln cs l):CoL l (t.enc tt x):=by
 unfold BT.Sq at h;split at h
 case h_2=>cases h
 rename_i x' h1;cases h;obtain⟨l1,l2,rfl,c1,c2⟩:=AkZ t tt h1 ha
 cases l2 with
 |nil=>grind
 |cons=>trivial
end
end Go.VS
namespace Go.VS
abbrev Gd:=List (Nat×Bool)
inductive TSV
 |one (c:TC)
 |agg (l:List TC)
 |clo (f:String×Bool) (caps:List TC)
 deriving Inhabited
inductive TX
 |val (gd:Gd) (v:TSV)
 |tup (l:List TSV)
 |gone
structure TS where
 sl:List (Nat×TX)
 bx:List (Nat×List TC)
def look{α:Type}:List (Nat×α)→Nat→Option α
 |[],_=>none
 |(k,x)::l,t=>bif Nat.beq k t then some x else look l t
theorem Aq{α:Type}(k:Nat)(x:α)(l:List (Nat×α))(t:Nat):look ((k,x)::l) t=if k=t then some x else look l t:=by
 simp_all [look]
theorem Bj{α:Type}(l m:List (Nat×α))(t:Nat):look (l++m) t=match look l t with|some x=>some x|none=>look m t:=by
 induction l with
 |nil=>rfl
 |cons a l ih=>
  grind [Aq]
theorem HT{α β:Type}(f:α→β)(l:List (Nat×α))(t:Nat):look (l.map fun p=>(p.1,f p.2)) t=(look l t).map f:=by
 induction l with
 |nil=>rfl
 |cons a l ih=>
  grind [Aq]
theorem Fc{α:Type}{l:List (Nat×α)}{t:Nat}{x:α}(h:look l t=some x):(t,x)∈l:=by
 induction l with
 |nil=>cases h
 |cons a l ih=>
  grind [Aq]
def TSV.cells:TSV→List TC
 |.one c=>[c]
 |.agg l=>l
 |.clo _ _=>[]
def TS.slot(F Γ:TS)(t:Nat):Option TX:=match look Γ.sl t with
 |some x=>some x
 |none=>look F.sl t
def TS.box(F Γ:TS)(b:Nat):Option (List TC):=match look Γ.bx b with
 |some l=>some l
 |none=>look F.bx b
def CH(F Γ:TS):Root→Option TC
 |.slot t j=>match TS.slot F Γ t with
  |some (.val [] v)=>v.cells[j]?
  |_=>none
 |.obj b c=>(TS.box F Γ b).bind (·[c]?)
def atT(F Γ:TS)(p:Place):Option TC:=(CH F Γ p.root).bind (·.atS p.path)
def TC.len?:TC→Option Nat
 |.sl _ _ _ l=>some l.length
 |_=>none
def lnT(F Γ:TS)(p:Place):Option Nat:=(atT F Γ p).bind TC.len?
def Gr(F Γ:TS)(t:Nat):Option Bool:=match TS.slot F Γ t with
 |some (.val _ (.one (.bool b)))=>some b
 |_=>none
def gv(F Γ:TS):Gd→Bool
 |[]=>true
 |(t,w)::r=>(match Gr F Γ t with|some b=>b==w|none=>false)&&gv F Γ r
section
variable(μ:Nat→Nat)(ver:Root→Nat)(ln:Place→Option Nat)
def TSV.sv:TSV→SV→Prop
 |.one c,s=>∃a,s=.one a∧c.av μ ver ln a
 |.agg l,s=>∃m,s=.agg m∧avs μ ver ln l m
 |.clo f caps,s=>∃m,s=.one (.clo f m)∧avs μ ver ln caps m
def svs:List TSV→List SV→Prop
 |[],[]=>True
 |v::l,s::m=>v.sv μ ver ln s∧svs l m
 |_,_=>False
def TX.tv(gv:Gd→Bool):TX→TV→Prop
 |.val gd v,y=>∃s,y=.val (gv gd) s∧v.sv μ ver ln s
 |.tup l,y=>∃m,y=.tup m∧svs μ ver ln l m
 |.gone,_=>True
end
def TC.Bg:TC→Bool
 |.ref ..=>false
 |.adr ..=>false
 |_=>true
structure Sim(μ:Nat→Nat)(F Γ:TS)(st:St):Prop where
 sl:∀t x,TS.slot F Γ t=some x→x.tv μ st.ver (lnT F Γ) (gv F Γ) (st.sl t)
 bx:∀b l,TS.box F Γ b=some l→∃m,st.hp.get (μ b)=some m∧avs μ st.ver (lnT F Γ) l m∧μ b<st.hp.next∧l.all TC.Bg=true
 inj:∀b b' l l',TS.box F Γ b=some l→TS.box F Γ b'=some l'→μ b=μ b'→b=b'
 ss:∀t,(look F.sl t).isSome=true→look Γ.sl t=none
 sb:∀b,(look F.bx b).isSome=true→look Γ.bx b=none
def TC.sift(qr qa:Place→Bool)(m:Nat→Bool):TC→TC
 |.ref p tt e w=>if qr p then .dead else .ref p tt e w
 |.adr p tt e i c=>if qa p then .dead else .adr p tt e i c
 |.box b c=>if m b then .dead else .box b c
 |.boxd b c n i=>if m b then .dead else .boxd b c n i
 |c=>c
def TC.hit(qr qa:Place→Bool)(m:Nat→Bool):TC→Bool
 |.ref p _ _ _=>qr p
 |.adr p _ _ _ _=>qa p
 |.box b _=>m b
 |.boxd b _ _ _=>m b
 |_=>false
def TSV.sift(qr qa:Place→Bool)(m:Nat→Bool):TSV→TSV
 |.one c=>.one (c.sift qr qa m)
 |.agg l=>.agg (l.map (TC.sift qr qa m))
 |.clo f caps=>.clo f (caps.map (TC.sift qr qa m))
def TSV.hit(qr qa:Place→Bool)(m:Nat→Bool):TSV→Bool
 |.one c=>c.hit qr qa m
 |.agg l=>l.any (TC.hit qr qa m)
 |.clo _ caps=>caps.any (TC.hit qr qa m)
def TX.sift(qr qa:Place→Bool)(m:Nat→Bool):TX→TX
 |.val gd v=>.val gd (v.sift qr qa m)
 |.tup l=>.tup (l.map (TSV.sift qr qa m))
 |.gone=>.gone
def TX.hit(qr qa:Place→Bool)(m:Nat→Bool):TX→Bool
 |.val _ v=>v.hit qr qa m
 |.tup l=>l.any (TSV.hit qr qa m)
 |.gone=>false
def TX.guards(t:Nat):TX→Bool
 |.val gd _=>gd.any fun p=>Nat.beq p.1 t
 |.tup _=>false
 |.gone=>false
def TS.hit(Γ:TS)(qr qa:Place→Bool)(m:Nat→Bool):Bool:=Γ.sl.any (fun p=>p.2.hit qr qa m)||Γ.bx.any (fun p=>p.2.any (TC.hit qr qa m))
def TS.sift(Γ:TS)(qr qa:Place→Bool)(m:Nat→Bool):TS:=⟨Γ.sl.map fun p=>(p.1,p.2.sift qr qa m),Γ.bx.map fun p=>(p.1,p.2.map (TC.sift qr qa m))⟩
def TS.guards(Γ:TS)(t:Nat):Bool:=Γ.sl.any fun p=>p.2.guards t
def TS.upd(F Γ:TS)(qr qa:Place→Bool)(m:Nat→Bool)(ns:List (Nat×TX))(nb:List (Nat×List TC)):Option TS:=
 bif F.hit qr qa m||ns.any (fun p=>(look F.sl p.1).isSome||F.guards p.1||Γ.guards p.1)||nb.any (fun p=>(look F.bx p.1).isSome)then none
 else bif Γ.hit qr qa m then some ⟨ns++(Γ.sift qr qa m).sl,nb++(Γ.sift qr qa m).bx⟩
 else some ⟨ns++Γ.sl,nb++Γ.bx⟩
section
variable{qr qa:Place→Bool}{m:Nat→Bool}
theorem TC.IY{c:TC}(h:c.hit qr qa m=false):c.sift qr qa m=c:=by
 cases c<;>simp_all [TC.hit,TC.sift]
theorem Jc{l:List TC}(h:l.any (TC.hit qr qa m)=false):l.map (TC.sift qr qa m)=l:=by
 induction l<;>grind [TC.IY]
theorem TSV.IY{v:TSV}(h:v.hit qr qa m=false):v.sift qr qa m=v:=by
 cases v with
 |one c=>simp only[TSV.sift,TC.IY h]
 |agg l=>simp only[TSV.sift,Jc h]
 |clo f l=>simp only[TSV.sift,Jc h]
theorem TX.IY{x:TX}(h:x.hit qr qa m=false):x.sift qr qa m=x:=by
 cases x with
 |val gd v=>simp only[TX.sift,TSV.IY h]
 |tup l=>
  simp only[TX.sift,TX.tup.injEq];simp only[TX.hit]at h
  induction l<;>grind [TSV.IY]
 |gone=>rfl
theorem TC.AbK(c:TC):c.sift qr qa m=c∨c.sift qr qa m=.dead:=by
 cases c<;>grind [TC.sift]
theorem TC.Ri{c:TC}(h:c.Bg=true):(c.sift qr qa m).Bg=true:=by
 rcases c.AbK (qr:=qr) (qa:=qa) (m:=m)with e|e<;>rw[e]
 ·exact h
 ·rfl
theorem TC.K1(c:TC)(p:List Stp)(n:Nat)(h:((c.sift qr qa m).atS p).bind TC.len?=some n):(c.atS p).bind TC.len?=some n:=by
 rcases c.AbK (qr:=qr) (qa:=qa) (m:=m)with e|e<;>rw[e]at h
 ·exact h
 ·cases p<;>simp[TC.atS,TC.len?]at h
variable{μ μ':Nat→Nat}{ver ver':Root→Nat}{ln ln':Place→Option Nat}{F Γ Γ':TS}
structure Tr(qr qa:Place→Bool)(m:Nat→Bool)(μ μ':Nat→Nat)(ver ver':Root→Nat)(ln ln':Place→Option Nat):Prop where
 mu:∀b,m b=false→μ' b=μ b
 rr:∀p,qr p=false→p.mu μ'=p.mu μ∧ver' (p.mu μ').root=ver (p.mu μ).root∧∀n,ln' p=some n→ln p=some n
 ra:∀p,qa p=false→p.mu μ'=p.mu μ∧ver' (p.mu μ').root=ver (p.mu μ).root
theorem Tr.av(T:Tr qr qa m μ μ' ver ver' ln ln'){c:TC}{a:AV}(h:c.av μ ver ln a):(c.sift qr qa m).av μ' ver' ln' a:=by
 cases c with
 |box b c=>
  simp only[TC.sift];split
  ·trivial
  ·rename_i hm;have:=T.mu b zg
   grind [TC.av]
 |boxd b c n i=>
  simp only[TC.sift];split
  ·trivial
  ·rename_i hm;have:=T.mu b zg
   grind [TC.av]
 |ref p tt e w=>
  simp only[TC.sift];split
  ·trivial
  ·rename_i hq;obtain⟨h1,h2,h3⟩:=T.rr p zg
   cases w<;>grind [TC.av]
 |adr p tt e i c=>
  simp only[TC.sift];split
  ·trivial
  ·rename_i hq
   obtain⟨h1,h2⟩:=T.ra p (by simpa using hq)<;>grind [TC.av]
 |_=>exact h
theorem Tr.avs(T:Tr qr qa m μ μ' ver ver' ln ln'):∀{l:List TC} {k:List AV},avs μ ver ln l k→VS.avs μ' ver' ln' (l.map (TC.sift qr qa m)) k
 |[],[],_=>trivial
 |c::l,a::k,h=>⟨T.av h.1,T.avs h.2⟩
 |[],_::_,h=>h.elim
 |_::_,[],h=>h.elim
theorem Tr.sv(T:Tr qr qa m μ μ' ver ver' ln ln'){v:TSV}{s:SV}(h:v.sv μ ver ln s):(v.sift qr qa m).sv μ' ver' ln' s:=by
 cases v with
 |one c=>obtain⟨a,e,h⟩:=h;exact⟨a,e,T.av h⟩
 |agg l=>obtain⟨a,e,h⟩:=h;exact⟨a,e,T.avs h⟩
 |clo f l=>obtain⟨a,e,h⟩:=h;exact⟨a,e,T.avs h⟩
theorem Tr.svs(T:Tr qr qa m μ μ' ver ver' ln ln'):∀{l:List TSV} {k:List SV},svs μ ver ln l k→VS.svs μ' ver' ln' (l.map (TSV.sift qr qa m)) k
 |[],[],_=>trivial
 |c::l,a::k,h=>⟨T.sv h.1,T.svs h.2⟩
 |[],_::_,h=>h.elim
 |_::_,[],h=>h.elim
theorem Tr.tv(T:Tr qr qa m μ μ' ver ver' ln ln'){g g':Gd→Bool}{x:TX}{y:TV}(hg:∀gd v,x=.val gd v→g' gd=g gd)(h:x.tv μ ver ln g y):(x.sift qr qa m).tv μ' ver' ln' g' y:=by
 cases x with
 |val gd v=>
  obtain⟨s,e,h⟩:=h;have hgd:=hg gd v rfl;exact⟨s,zg,T.sv h⟩
 |tup l=>obtain⟨k,e,h⟩:=h;exact⟨k,e,T.svs h⟩
 |gone=>trivial
theorem MX{ns:List (Nat×TX)}{nb:List (Nat×List TC)}(hu:TS.upd F Γ qr qa m ns nb=some Γ')(hss:∀t,(look F.sl t).isSome=true→look Γ.sl t=none)(t:Nat):
  TS.slot F Γ' t=match look ns t with|some x=>some x|none=>(TS.slot F Γ t).map (TX.sift qr qa m):=by
 unfold TS.upd at hu
 cases hc:(F.hit qr qa m||ns.any (fun p=>(look F.sl p.1).isSome||F.guards p.1||Γ.guards p.1)||nb.any (fun p=>(look F.bx p.1).isSome))with
 |true=>grind
 |false=>
  rw[hc]at hu;simp only[Qb8]at hc;obtain⟨⟨hF,hns⟩,hnb⟩:=hc
  have fr:∀x,look F.sl t=some x→x.sift qr qa m=x:=by
   intro x hx;refine TX.IY ?_;have:=Fc hx
   grind [TS.hit]
  have main:∀L:List (Nat×TX),look L t=(look Γ.sl t).map (TX.sift qr qa m)→(match look (ns++L) t with|some x=>some x|none=>look F.sl t)=match look ns t with|some x=>some x|none=>(TS.slot F Γ t).map (TX.sift qr qa m):=by
   intro L hL;rw[Bj]
   cases hn:look ns t with
   |some x=>rfl
   |none=>
    rw[hL];unfold TS.slot
    cases hg:look Γ.sl t with
    |some x=>rfl
    |none=>
     cases hf:look F.sl t<;>grind
  cases hh:Γ.hit qr qa m with
  |true=>
   rw[hh]at hu;cases hu;exact main _ (HT _ _ _)
  |false=>
   rw[hh]at hu;cases hu;refine main _ ?_
   cases hg:look Γ.sl t with
   |none=>rfl
   |some x=>
    have:=Fc hg
    grind [TS.hit,TX.IY]
theorem G0{ns:List (Nat×TX)}{nb:List (Nat×List TC)}(hu:TS.upd F Γ qr qa m ns nb=some Γ')(b:Nat):
  TS.box F Γ' b=match look nb b with|some x=>some x|none=>(TS.box F Γ b).map (List.map (TC.sift qr qa m)):=by
 unfold TS.upd at hu
 cases hc:(F.hit qr qa m||ns.any (fun p=>(look F.sl p.1).isSome||F.guards p.1||Γ.guards p.1)||nb.any (fun p=>(look F.bx p.1).isSome))with
 |true=>grind
 |false=>
  rw[hc]at hu;simp only[Qb8]at hc;obtain⟨⟨hF,hns⟩,hnb⟩:=hc
  have fr:∀x,look F.bx b=some x→x.map (TC.sift qr qa m)=x:=by
   intro x hx;refine Jc ?_;have:=Fc hx
   grind [TS.hit]
  have main:∀L:List (Nat×List TC),look L b=(look Γ.bx b).map (List.map (TC.sift qr qa m))→(match look (nb++L) b with|some x=>some x|none=>look F.bx b)=match look nb b with|some x=>some x|none=>(TS.box F Γ b).map (List.map (TC.sift qr qa m)):=by
   intro L hL;rw[Bj]
   cases hn:look nb b with
   |some x=>rfl
   |none=>
    rw[hL];unfold TS.box
    cases hg:look Γ.bx b with
    |some x=>rfl
    |none=>
     cases hf:look F.bx b<;>grind
  cases hh:Γ.hit qr qa m with
  |true=>
   rw[hh]at hu;cases hu;exact main _ (HT _ _ _)
  |false=>
   rw[hh]at hu;cases hu;refine main _ ?_
   cases hg:look Γ.bx b with
   |none=>rfl
   |some x=>
    have:=Fc hg
    grind [TS.hit,Jc]
theorem Aau{ns:List (Nat×TX)}{nb:List (Nat×List TC)}(hu:TS.upd F Γ qr qa m ns nb=some Γ'):
  (∀t x,look ns t=some x→look F.sl t=none∧F.guards t=false∧Γ.guards t=false)∧(∀b l,look nb b=some l→look F.bx b=none)∧
  (∀t,look Γ'.sl t=none↔look ns t=none∧look Γ.sl t=none)∧(∀b,look Γ'.bx b=none↔look nb b=none∧look Γ.bx b=none):=by
 unfold TS.upd at hu
 cases hc:(F.hit qr qa m||ns.any (fun p=>(look F.sl p.1).isSome||F.guards p.1||Γ.guards p.1)||nb.any (fun p=>(look F.bx p.1).isSome))with
 |true=>grind
 |false=>
  rw[hc]at hu;simp only[Qb8]at hc;obtain⟨⟨hF,hns⟩,hnb⟩:=hc;refine⟨?_,?_,?_,?_⟩
  ·intro t x hx;have:=List.any_eq_false.1 hns (t,x) (Fc hx);simp_all
  ·intro b l hx;have:=List.any_eq_false.1 hnb (b,l) (Fc hx);simp_all
  ·intro t
   have e:∀L:List (Nat×TX),(look L t=none↔look Γ.sl t=none)→(look (ns++L) t=none↔look ns t=none∧look Γ.sl t=none):=by
    grind [Bj,look]
   cases hh:Γ.hit qr qa m<;>rw[hh]at hu<;>cases hu
   ·grind
   ·refine e _ ?_;show look (Γ.sl.map fun p=>(p.1,p.2.sift qr qa m)) t=none↔_;simp_all [HT]
  ·intro t
   have e:∀L:List (Nat×List TC),(look L t=none↔look Γ.bx t=none)→(look (nb++L) t=none↔look nb t=none∧look Γ.bx t=none):=by
    grind [Bj,look]
   cases hh:Γ.hit qr qa m<;>rw[hh]at hu<;>cases hu
   ·grind
   ·refine e _ ?_;show look (Γ.bx.map fun p=>(p.1,p.2.map (TC.sift qr qa m))) t=none↔_;simp_all [HT]
theorem Ym{x:TX}:(match some (x.sift qr qa m)with|some (.val _ (.one (.bool b)))=>some b|_=>none)=(match some x with|some (.val _ (.one (.bool b)))=>some b|_=>none:Option Bool):=by
 cases x with
 |tup l=>rfl
 |gone=>rfl
 |val gd v=>
  cases v with
  |one c=>
   have e:=c.AbK (qr:=qr) (qa:=qa) (m:=m)
   cases c with
   |bool b=>rfl
   |_=>rcases e with e|e<;>simp only[TX.sift,TSV.sift,e]
  |_=>rfl
theorem Ub{Γ Γ':TS}{t0:Nat→Prop}(hs:∀t,¬t0 t→Gr F Γ' t=Gr F Γ t):∀gd:Gd,(∀p∈gd,¬t0 p.1)→gv F Γ' gd=gv F Γ gd
 |[],_=>rfl
 |(t,w)::r,h=>by
  simp only[gv];rw[hs t (h (t,w) zsz),Ub hs r (fun p hp=>h p zg)]
theorem Sim.upd{st st':St}{ns:List (Nat×TX)}{nb:List (Nat×List TC)}(h:Sim μ F Γ st)(hu:TS.upd F Γ qr qa m ns nb=some Γ')(T:Tr qr qa m μ μ' st.ver st'.ver (lnT F Γ) (lnT F Γ'))
  (hsl:∀t,look ns t=none→st'.sl t=st.sl t)
  (hns:∀t x,look ns t=some x→x.tv μ' st'.ver (lnT F Γ') (gv F Γ') (st'.sl t))
  (hhp:∀b l,look nb b=none→TS.box F Γ b=some l→st'.hp.get (μ b)=st.hp.get (μ b))
  (hnb:∀b l,look nb b=some l→∃k,st'.hp.get (μ' b)=some k∧VS.avs μ' st'.ver (lnT F Γ') l k∧μ' b<st'.hp.next∧l.all TC.Bg=true)
  (hm:∀b,m b=true→(look nb b).isSome=true)
  (hinj:∀b b' l l',look nb b=some l→TS.box F Γ' b'=some l'→μ' b=μ' b'→b=b')
  (hnx:st.hp.next≤st'.hp.next):Sim μ' F Γ' st':=by
 obtain⟨f1,f2,f3,f4⟩:=Aau hu;have hslot:=MX hu h.ss;have hbox:=G0 hu
 have hgv:∀gd:Gd,(∀p∈gd,look ns p.1=none)→gv F Γ' gd=gv F Γ gd:=by
  intro gd hgd;refine Ub (t0:=fun t=>look ns t≠none) ?_ gd (fun p hp=>zg);intro t ht
  have ht:look ns t=none:=zg
  unfold Gr;rw[hslot t,ht]
  cases hx:TS.slot F Γ t with
  |none=>rfl
  |some x=>exact Ym
 have mfalse:∀b,look nb b=none→m b=false:=by
  grind
 refine⟨?_,?_,?_,?_,?_⟩
 ·intro t x hx;rw[hslot t]at hx
  cases hn:look ns t with
  |some y=>grind
  |none=>
   rw[hn]at hx;simp only[Qa0]at hx;obtain⟨x0,hx0,rfl⟩:=hx;rw[hsl t hn];refine T.tv ?_ (h.sl t x0 hx0);rintro gd v rfl
   refine hgv gd fun p hp=>?_
   cases hl:look ns p.1 with
   |none=>rfl
   |some y=>
    exfalso;obtain⟨_,g1,g2⟩:=f1 p.1 y hl
    have hmem:(∃k,(k,TX.val gd v)∈Γ.sl)∨(∃k,(k,TX.val gd v)∈F.sl):=by
     unfold TS.slot at hx0
     cases hg:look Γ.sl t with
     |some x1=>rw[hg]at hx0;cases hx0;exact .inl ⟨t,Fc hg⟩
     |none=>rw[hg]at hx0;exact .inr ⟨t,Fc hx0⟩
    have bad:∀(L:List (Nat×TX)) k,(k,TX.val gd v)∈L→(L.any fun q=>q.2.guards p.1)=true:=by
     intro L k hk;refine List.any_eq_true.2 ⟨(k,.val gd v),hk,?_⟩;simp only[TX.guards];refine List.any_eq_true.2 ⟨p,hp,zsz⟩
    rcases hmem with⟨k,hk⟩|⟨k,hk⟩
    ·rw[show Γ.guards p.1=true from bad _ k hk]at g2;cases g2
    ·rw[show F.guards p.1=true from bad _ k hk]at g1;cases g1
 ·intro b l hl;rw[hbox b]at hl
  cases hn:look nb b with
  |some y=>grind
  |none=>
   rw[hn]at hl;simp only[Qa0]at hl;obtain⟨l0,hl0,rfl⟩:=hl;obtain⟨k,q1,q2,q3,q4⟩:=h.bx b l0 hl0;have e:=T.mu b (mfalse b hn)
   refine⟨k,by rw[e,hhp b l0 hn hl0];exact q1,T.avs q2,by rw[e];exact Qa6 q3 hnx,?_⟩<;>grind [TC.Ri]
 ·intro b b' l l' hb hb' he
  cases hn:look nb b with
  |some y=>grind
  |none=>
   cases hn':look nb b' with
   |some y=>grind
   |none=>
    rw[hbox b,hn]at hb;rw[hbox b',hn']at hb';simp only[Qa0]at hb hb';obtain⟨l0,hl0,_⟩:=hb;obtain⟨l1,hl1,_⟩:=hb';refine h.inj b b' l0 l1 hl0 hl1 ?_;rw[←T.mu b (mfalse b hn),←T.mu b' (mfalse b' hn')];exact he
 ·intro t ht;refine(f3 t).2 ⟨?_,h.ss t ht⟩
  cases hn:look ns t<;>grind
 ·intro b hb;refine(f4 b).2 ⟨?_,h.sb b hb⟩
  cases hn:look nb b<;>grind
end
end Go.VS
namespace Go.VS
structure Ob where
 p:Prop
 d:Decidable p
def R(α:Type):Type:=Option (List Ob×α)
namespace R
def pure{α:Type}(a:α):R α:=some ([],a)
def need(p:Prop)[d:Decidable p]:R Unit:=some ([⟨p,d⟩],())
def fail{α:Type}:R α:=none
def bind{α β:Type}(x:R α)(f:α→R β):R β:=
 match x with
 |none=>none
 |some (p,a)=>match f a with
  |none=>none
  |some (q,b)=>some (p++q,b)
instance:Monad R where
 pure:=R.pure
 bind:=R.bind
def AbW:List Ob→Prop
 |[]=>True
 |p::ps=>p.p∧AbW ps
theorem UC:∀(ps qs:List Ob),AbW (ps++qs)↔AbW ps∧AbW qs
 |[],qs=>by simp[AbW]
 |p::ps,qs=>by simp[AbW,UC ps qs,and_assoc]
def ok{α:Type}(x:R α)(a:α):Prop:=∃ps,x=some (ps,a)∧AbW ps
theorem Ai{α β:Type}{x:R α}{f:α→R β}{b:β}:(x>>=f).ok b↔∃a,x.ok a∧(f a).ok b:=by
 show(R.bind x f).ok b↔_;unfold R.bind ok
 grind [UC]
theorem Aj{α:Type}{a b:α}:(Pure.pure a:R α).ok b↔a=b:=by
 constructor
 ·rintro⟨ps,h,_⟩;cases h;rfl
 ·rintro rfl;exact⟨[],rfl,trivial⟩
theorem IW{p:Prop}[d:Decidable p]{u:Unit}:(R.need p).ok u↔p:=by
 constructor
 ·rintro⟨ps,h,h2⟩;cases h;exact h2.1
 ·intro h;exact⟨[⟨p,d⟩],rfl,h,trivial⟩
theorem Ag{α:Type}{a:α}:(R.fail:R α).ok a↔False:=by
 constructor
 ·rintro⟨ps,h,_⟩;cases h
 grind
def Ep{α:Type}:Option α→R α
 |some a=>Pure.pure a
 |none=>R.fail
theorem Cp{α:Type}{x:Option α}{a:α}:(Ep x).ok a↔x=some a:=by
 cases x<;>grind [Ep,Ag,Aj]
end R
def L6:Value→TC
 |.int k n=>.int k n
 |.bool b=>.bool b
 |.string s=>.str s.data.toList
 |.slice none 0 0=>.nil
 |v=>.lit v
def gsub(gd g:Gd):Bool:=gd.all fun p=>g.any fun q=>Nat.beq p.1 q.1&&(bif p.2 then q.2 else !q.2)
def Z9(p:Place):TC→TC
 |.sl .own tt e _=>.ref p tt e none
 |c=>c
def Aaa(mk:Nat→Place):Nat→List TC→List TC
 |_,[]=>[]
 |j,c::l=>Z9 (mk j) c::Aaa mk (j+1) l
def TSV.peek(n:Nat):TSV→TSV
 |.one c=>.one (Z9 ⟨.slot n 0,[]⟩ c)
 |.agg l=>.agg (Aaa (fun j=>⟨.slot n j,[]⟩) 0 l)
 |.clo f l=>.clo f l
def atC:TC→List Stp→R TC
 |c,[]=>pure c
 |.sl .own tt e l,s::r=>if s.k=e.size then do
   R.need (s.i<l.length)
   match(e.ex tt (l.getD s.i e.dflt))[s.c]?with
   |some c=>atC c r
   |none=>R.fail
  else R.fail
 |_,_=>R.fail
def AlE:List TC→Option (IntKind×List Int)
 |[]=>none
 |[.int k n]=>some (k,[n])
 |.int k n::l=>match AlE l with
  |some (k',ns)=>if k=k' then some (k,n::ns)else none
  |none=>none
 |_=>none
def AnU:List TC→Option (List (List UInt8))
 |[]=>some []
 |.str s::l=>match AnU l with
  |some ns=>some (s::ns)
  |none=>none
 |_=>none
def AbI(l:List TC)(i:Nat):Option TC:=match AlE l with
 |some (k,ns)=>some (.int k (ns.getD i 0))
 |none=>match AnU l with
  |some ns=>some (.str (ns.getD i []))
  |none=>none
def mkT(agg:Bool)(l:List TC):TSV:=bif agg then .agg l else .one (l.headD .dead)
def VM(l:List TC)(c:Nat):List TC→List TC
 |[]=>l
 |a::as=>VM (l.set c a) (c+1) as
def eqC:CK→TC→TC→Option Bool
 |.int,.int k a,.int k' b=>if k=k' then some (a==b)else none
 |.str,.str a,.str b=>some (a==b)
 |.bool,.bool a,.bool b=>some (a==b)
 |_,_,_=>none
def AmV:List CK→List TC→List TC→Option Bool
 |[],[],[]=>some true
 |k::ks,a::l,b::m=>match eqC k a b,AmV ks l m with
  |some x,some y=>some (x&&y)
  |_,_=>none
 |_,_,_=>none
def Zr{α:Type}(lo hi:Option Int)(l:List α):List α:=match lo,hi with
 |none,none=>l
 |some a,none=>l.drop a.toNat
 |none,some b=>l.take b.toNat
 |some a,some b=>(l.take b.toNat).drop a.toNat
section
variable(F Γ:TS)
def gimp:Gd→Prop→Prop
 |[],p=>p
 |(t,w)::r,p=>match Gr F Γ t with
  |some b=>b=w→gimp r p
  |none=>p
def AoS{p:Prop}(d:Decidable p):(g:Gd)→Decidable (gimp F Γ g p)
 |[]=>d
 |(
   t,w)::r=>show Decidable (match Gr F Γ t with
  |some b=>b=w→gimp F Γ r p
  |none=>p)from match Gr F Γ t with
  |some b=>(match decEq b w,AoS d r with
   |.isTrue _,.isTrue h=>.isTrue fun _=>h
   |.isTrue e,.isFalse h=>.isFalse fun k=>h (k e)
   |.isFalse e,_=>.isTrue fun k=>(e k).elim)
  |none=>d
instance{p:Prop}[d:Decidable p](g:Gd):Decidable (gimp F Γ g p):=AoS F Γ d g
def HV(g:Gd)(p:Prop)[Decidable p]:R Unit:=R.need (gimp F Γ g p)
def Rm(g:Gd):Opd→R TSV
 |.c v=>pure (.one (L6 v))
 |.f nm=>pure (.clo (nm,false) [])
 |.t n=>match TS.slot F Γ n with
  |some (.val gd v)=>bif gsub gd g then pure (v.peek n)else R.fail
  |_=>R.fail
def JJ(g:Gd)(x:Opd):R TC:=do
 match←Rm F Γ g x with
 |.one c=>pure c
 |_=>R.fail
def AbU(g:Gd)(x:Opd):R Int:=do
 match←Rm F Γ g x with
 |.one (.int _ n)=>pure n
 |_=>R.fail
def Zq(g:Gd)(x:Opd):R Bool:=do
 match←Rm F Γ g x with
 |.one (.bool b)=>pure b
 |_=>R.fail
def AjB(g:Gd)(x:Opd):R (List TC):=do
 match←Rm F Γ g x with
 |.agg l=>pure l
 |_=>R.fail
def atR(p:Place):R TC:=match CH F Γ p.root with
 |some c=>atC c p.path
 |none=>R.fail
def Ake(g:Gd)(op:BinOp)(k k':IntKind)(a b:Int):R TC:=
 match op with
 |.add=>if k=k' then pure (.int k (k.wrap (a+b)))else R.fail
 |.sub=>if k=k' then pure (.int k (k.wrap (a -b)))else R.fail
 |.mul=>if k=k' then pure (.int k (k.wrap (a*b)))else R.fail
 |.quo=>if k=k' then do HV F Γ g (b≠0);pure (.int k (k.wrap (a.tdiv b)))else R.fail
 |.rem=>if k=k' then do HV F Γ g (b≠0);pure (.int k (a.tmod b))else R.fail
 |.and=>if k=k' then pure (.int k (k.wrap (Qa8 k.bits a&&&Qa8 k.bits b).toNat))else R.fail
 |.or=>if k=k' then pure (.int k (k.wrap (Qa8 k.bits a|||Qa8 k.bits b).toNat))else R.fail
 |.xor=>if k=k' then pure (.int k (k.wrap (Qa8 k.bits a^^^Qa8 k.bits b).toNat))else R.fail
 |.andNot=>if k=k' then pure (.int k (k.wrap (Qa8 k.bits a&&&~~~Qa8 k.bits b).toNat))else R.fail
 |.eql=>if k=k' then pure (.bool (a==b))else R.fail
 |.neq=>if k=k' then pure (.bool (a !=b))else R.fail
 |.lss=>if k=k' then pure (.bool (a<b))else R.fail
 |.leq=>if k=k' then pure (.bool (a≤b))else R.fail
 |.gtr=>if k=k' then pure (.bool (a>b))else R.fail
 |.geq=>if k=k' then pure (.bool (a≥b))else R.fail
 |.shl=>do HV F Γ g (0≤b);pure (.int k (k.wrap (a*2^(min b.toNat k.bits))))
 |.shr=>do HV F Γ g (0≤b);pure (.int k (a.fdiv (2^(min b.toNat k.bits))))
def Akf(g:Gd)(op:BinOp)(a b:List UInt8):R TC:=
 match op with
 |.add=>do HV F Γ g (a.length+b.length≤9223372036854775807);pure (.str (a++b))
 |.eql=>pure (.bool (a==b))
 |.neq=>pure (.bool (!(a==b)))
 |.lss=>pure (.bool (Op.bytesLess a b))
 |.leq=>pure (.bool (Op.bytesLess a b||a==b))
 |.gtr=>pure (.bool (!(Op.bytesLess a b||a==b)))
 |.geq=>pure (.bool (!(Op.bytesLess a b)))
 |_=>R.fail
def Anm(g:Gd):Option Opd→R (Option Int)
 |none=>pure none
 |some x=>do let n←AbU F Γ g x;pure (some n)
def Ae5(g:Gd)(n:Nat)(lo hi:Option Opd):R (Option Int×Option Int):=do
 let h←Anm F Γ g hi
 let l←Anm F Γ g lo
 match l,h with
 |none,none=>pure (l,h)
 |some a,none=>do HV F Γ g (0≤a∧a≤n);pure (l,h)
 |none,some b=>do HV F Γ g (0≤b∧b≤n);pure (l,h)
 |some a,some b=>do HV F Γ g (0≤a∧a≤b∧b≤n);pure (l,h)
def Un(g:Gd)(cells:List TC):List (Nat×Nat×Opd)→R (List TC)
 |[]=>pure cells
 |(off,n,x)::r=>do
  let v←Rm F Γ g x
  match v with
  |.clo _ _=>R.fail
  |_=>if v.cells.length=n then Un g (VM cells off v.cells) r else R.fail
def Acg(g:Gd):List Opd→R (List TC)
 |[]=>pure []
 |x::r=>do
  let a←JJ F Γ g x
  let l←Acg g r
  pure (a::l)
def TC.BD:TC→Bool
 |.sl .brw _ _ _=>false
 |.sl _ tt _ _=>TT.BD tt
 |.ref ..=>false
 |.adr ..=>false
 |.iadr ..=>false
 |.iadrd ..=>false
 |.dead=>false
 |_=>true
where TT.BD:TT→Bool
 |.leaf=>true
 |.node .brw _=>false
 |.node _ e=>TT.BD e
 |.pair a b=>TT.BD a&&TT.BD b
def Ahk(g:Gd)(agg:Bool)(n:Nat)(p:Place)(k i c:Nat):TC→R TSV
 |.sl .own tt e' l=>if e'.size=k∧c+n≤k then(do
   HV F Γ g (i<l.length)
   pure (mkT agg (Aaa (fun j=>⟨p.root,p.path++[⟨i,k,c+j⟩]⟩) 0 (((e'.ex tt (l.getD i e'.dflt)).drop c).take n))))
  else R.fail
 |_=>R.fail
def loadT(g:Gd)(agg:Bool)(n:Nat):TC→R TSV
 |.box b c=>match TS.box F Γ b with
  |some l=>if c+n≤l.length then pure (mkT agg (Aaa (fun j=>⟨.obj b (c+j),[]⟩) 0 ((l.drop c).take n)))else R.fail
  |none=>R.fail
 |.boxd b c m i=>match TS.box F Γ b with
  |some l=>match AbI ((l.drop c).take m) i with
   |some d=>if n=1∧agg=false∧c+m≤l.length then(do HV F Γ g (i<m);pure (.one d))else R.fail
   |none=>R.fail
  |none=>R.fail
 |.adr p _ e i c=>do
  let d←atR F Γ p
  Ahk F Γ g agg n p e.size i c d
 |.iadr tt e l i c=>if c+n≤e.size then(do
   HV F Γ g (i<l.length)
   pure (mkT agg (((e.ex tt (l.getD i e.dflt)).drop c).take n)))
  else R.fail
 |.iadrd tt e l i c m j=>match AbI (((e.ex tt (l.getD i e.dflt)).drop c).take m) j with
  |some d=>if n=1∧agg=false∧c+m≤e.size then(do HV F Γ g (i<l.length∧j<m);pure (.one d))else R.fail
  |none=>R.fail
 |_=>R.fail
def Arh(p:Place)(tt:TT)(e:BT)(lo0 n:Nat):Option Int→Option Int→TSV
 |none,none=>.one (.ref p tt e (some (lo0,n)))
 |some a,none=>.one (.ref p tt e (some (lo0+a.toNat,n -a.toNat)))
 |none,some b=>.one (.ref p tt e (some (lo0,b.toNat)))
 |some a,some b=>.one (.ref p tt e (some (lo0+a.toNat,b.toNat -a.toNat)))
def Ap0(p:Place)(tt:TT)(e:BT)(n:Nat):Option Int→Option Int→TSV
 |none,none=>.one (.ref p tt e none)
 |some a,none=>.one (.ref p tt e (some (a.toNat,n -a.toNat)))
 |none,some b=>.one (.ref p tt e (some (0,b.toNat)))
 |some a,some b=>.one (.ref p tt e (some (a.toNat,b.toNat -a.toNat)))
def Ap8(g:Gd)(k:Nat)(lo hi:Option Opd)(p:Place)(tt:TT)(e:BT):Option (Nat×Nat)→TC→R TSV
 |none,.sl .own _ _ l0=>if e.size=k then(do
   let(l,h)←Ae5 F Γ g l0.length lo hi
   pure (Ap0 p tt e l0.length l h))
  else R.fail
 |some (lo0,n),.sl .own _ _ _=>if e.size=k then(do
   let(l,h)←Ae5 F Γ g n lo hi
   pure (Arh p tt e lo0 n l h))
  else R.fail
 |_,_=>R.fail
def AlI(g:Gd)(k:Nat)(lo hi:Option Opd):TC→R TSV
 |.ref p tt e w=>do
  let d←atR F Γ p
  Ap8 F Γ g k lo hi p tt e w d
 |.sl τ tt e l=>if τ≠.own∧e.size=k then(do
   let(a,b)←Ae5 F Γ g l.length lo hi
   pure (.one (.sl τ tt e (Zr a b l))))
  else R.fail
 |.nil=>do
  let _←Ae5 F Γ g 0 lo hi
  pure (.one .nil)
 |_=>R.fail
def ApA(g:Gd)(k:Nat)(i:Int)(p:Place)(tt:TT)(e:BT):Option (Nat×Nat)→TC→R TSV
 |none,.sl .own _ _ l=>if e.size=k then(do HV F Γ g (0≤i∧i<l.length);pure (.one (.adr p tt e i.toNat 0)))else R.fail
 |some (lo,n),.sl .own _ _ _=>if e.size=k then(do HV F Γ g (0≤i∧i<n);pure (.one (.adr p tt e (lo+i.toNat) 0)))else R.fail
 |_,_=>R.fail
def Am3(g:Gd)(k:Nat)(i:Int):TC→R TSV
 |.ref p tt e w=>do
  let d←atR F Γ p
  ApA F Γ g k i p tt e w d
 |.sl τ tt e l=>if τ≠.own∧e.size=k then(do HV F Γ g (0≤i∧i<l.length);pure (.one (.iadr tt e l i.toNat 0)))else R.fail
 |_=>R.fail
def AoU(n k:Nat)(i:Int):TC→R TSV
 |.box b c=>if k=1 then pure (.one (.boxd b c n i.toNat))else R.fail
 |.iadr tt e l j c=>if k=1 then pure (.one (.iadrd tt e l j c n i.toNat))else R.fail
 |_=>R.fail
def AiA:TC→R TC
 |.ref p _ _ none=>do
  let d←atR F Γ p
  match d with
  |.sl .own _ _ l=>pure (.int .i64 l.length)
  |_=>R.fail
 |.ref _ _ _ (some (_,n))=>pure (.int .i64 n)
 |.sl _ _ _ l=>pure (.int .i64 l.length)
 |.nil=>pure (.int .i64 0)
 |_=>R.fail
def Aph(g:Gd)(op:BinOp):TC→TC→R TC
 |.int k a,.int k' b=>Ake F Γ g op k k' a b
 |.str a,.str b=>Akf F Γ g op a b
 |_,_=>R.fail
def unT:UnOp→TC→R TC
 |.neg,.int k n=>pure (.int k (k.wrap (0 -n)))
 |.xor,.int k n=>pure (.int k (k.wrap (Qa8 k.bits (if k.signed then-1 else k.max)^^^Qa8 k.bits n).toNat))
 |.not,.bool b=>pure (.bool !b)
 |_,_=>R.fail
def AkA(n:Int):List UInt8:=(Utf8.encode n).data.toList
def Aki(w:Option (Nat×Nat)):TC→R TC
 |.sl .own _ (.int .u8) l=>(match w with
  |none=>pure (.str (strOf l))
  |some (lo,n)=>(do
   R.need (lo+n≤l.length)
   pure (.str (strOf ((l.drop lo).take n)))))
 |_=>R.fail
def AoN:Cv→TC→R TC
 |.toInt k,.int _ n=>pure (.int k (k.wrap n))
 |.ident,.str s=>pure (.str s)
 |.ofInt,.int _ n=>pure (.str (AkA n))
 |.bytesToStr,.ref p _ (.int .u8) w=>do
  let d←atR F Γ p
  Aki w d
 |.bytesToStr,.sl _ _ (.int .u8) l=>pure (.str (strOf l))
 |.bytesToStr,.nil=>pure (.str [])
 |_,_=>R.fail
def AoZ:TSV→R TSV
 |.one (.box b c)=>pure (.one (.box b c))
 |.one (.boxd b c n i)=>pure (.one (.boxd b c n i))
 |.one (.adr p tt e i c)=>pure (.one (.adr p tt e i c))
 |.one (.iadr tt e l i c)=>pure (.one (.iadr tt e l i c))
 |.clo f l=>pure (.clo f l)
 |_=>R.fail
def AkG(off:Nat):TC→R TSV
 |.box b c=>pure (.one (.box b (c+off)))
 |.adr p tt e i c=>pure (.one (.adr p tt e i (c+off)))
 |.iadr tt e l i c=>pure (.one (.iadr tt e l i (c+off)))
 |_=>R.fail
def mmT(mx:Bool):TC→TC→R TC
 |.int k a,.int _ b=>pure (.int k (bif mx then(if b>a then b else a)else(if b<a then b else a)))
 |_,_=>R.fail
def Arj(g:Gd)(lo hi:Option Opd):TC→R TSV
 |.str s=>do
  let(l,h)←Ae5 F Γ g s.length lo hi
  pure (.one (.str (Zr l h s)))
 |_=>R.fail
def AqY(g:Gd)(i:Int):TC→R TSV
 |.str s=>do
  HV F Γ g (0≤i∧i<s.length)
  pure (.one (.int .u8 (s.getD i.toNat 0).toNat))
 |_=>R.fail
def AoW:TC→R TSV
 |.str s=>pure (.one (.int .i64 s.length))
 |_=>R.fail
def Iw(g:Gd):AOp→R TSV
 |.mv x=>Rm F Γ g x
 |.pick c a b=>match c with
  |.t n=>do
   let cb←Zq F Γ g (.t n)
   let av←Zq F Γ ((n,true)::g) a
   let bv←Zq F Γ ((n,false)::g) b
   pure (.one (.bool (bif cb then av else bv)))
  |_=>R.fail
 |.build zero parts=>do
  let l←Un F Γ g (zero.map L6) parts
  pure (.agg l)
 |.load agg n x=>do
  let c←JJ F Γ g x
  loadT F Γ g agg n c
 |.nilc x=>do
  let v←Rm F Γ g x
  AoZ v
 |.bin op x y=>do
  let a←JJ F Γ g x
  let b←JJ F Γ g y
  let c←Aph F Γ g op a b
  pure (.one c)
 |.eqB ne x y=>do
  let a←Zq F Γ g x
  let b←Zq F Γ g y
  pure (.one (.bool (bif ne then !(a==b)else(a==b))))
 |.eqA ne ks x y=>do
  let l←AjB F Γ g x
  let m←AjB F Γ g y
  let b←R.Ep (AmV ks l m)
  pure (.one (.bool (bif ne then !b else b)))
 |.un op x=>do
  let a←JJ F Γ g x
  let c←unT op a
  pure (.one c)
 |.conv c x=>do
  let a←JJ F Γ g x
  let c←AoN F Γ c a
  pure (.one c)
 |.slS x lo hi=>do
  let c←JJ F Γ g x
  Arj F Γ g lo hi c
 |.slK k x lo hi=>do
  let c←JJ F Γ g x
  AlI F Γ g k lo hi c
 |.fAddr off x=>do
  let c←JJ F Γ g x
  AkG off c
 |.fld agg off n x=>do
  let l←AjB F Γ g x
  if off+n≤l.length then pure (mkT agg ((l.drop off).take n))else R.fail
 |.ixA k x i=>do
  let i←AbU F Γ g i
  let c←JJ F Γ g x
  Am3 F Γ g k i c
 |.ixAr n k x i=>do
  let i←AbU F Γ g i
  HV F Γ g (0≤i∧i<n)
  let c←JJ F Γ g x
  AoU n k i c
 |.ixS x i=>do
  let i←AbU F Γ g i
  let c←JJ F Γ g x
  AqY F Γ g i c
 |.ixV agg n k x i=>do
  let i←AbU F Γ g i
  let l←AjB F Γ g x
  let d←R.Ep (AbI (l.take n) i.toNat)
  if k=1∧agg=false∧n≤l.length then(do HV F Γ g (0≤i∧i<n);pure (.one d))else R.fail
 |.lenK x=>do
  let c←JJ F Γ g x
  let d←AiA F Γ c
  pure (.one d)
 |.lenS x=>do
  let c←JJ F Γ g x
  AoW c
 |.lenC n=>pure (.one (.int .i64 n))
 |.mm mx x y=>do
  let a←JJ F Γ g x
  let b←JJ F Γ g y
  let c←mmT mx a b
  pure (.one c)
 |.mkf f caps=>do
  let l←Acg F Γ g caps
  if l.all TC.BD then pure (.clo f l)else R.fail
 |.mkI t x=>do
  let a←JJ F Γ g x
  match a with
  |.int k n=>pure (.one (.lit (.iface t (.int k n))))
  |_=>R.fail
 |_=>R.fail
end
end Go.VS
namespace Go.VS
theorem M.Ab{α:Type}{a:α}{K:α→Prop}(h:K a):(Pure.pure a:M α).holds K:=by trivial
section
variable{μ:Nat→Nat}{ver:Root→Nat}{ln:Place→Option Nat}{F Γ:TS}{st:St}
theorem AkS:∀gd:Gd,gv F Γ gd=true↔∀p∈gd,Gr F Γ p.1=some p.2
 |[]=>by simp[gv]
 |(t,w)::r=>by
  simp only[gv,Qa2,AkS r,List.forall_mem_cons]<;>grind
theorem ZV{gd g:Gd}(h:gsub gd g=true)(hg:gv F Γ g=true):gv F Γ gd=true:=by
 rw[AkS]at hg⊢;intro p hp;have h1:=List.all_eq_true.1 h p hp;obtain⟨q,hq,h2⟩:=List.any_eq_true.1 h1;simp only[Qa2]at h2
 grind [Nat.eq_of_beq_eq_true]
theorem PD:∀{g:Gd} {p:Prop},gimp F Γ g p→gv F Γ g=true→p
 |[],p,h,_=>h
 |(t,w)::r,p,h,hg=>by
  simp only[gimp]at h;simp only[gv,Qa2]at hg
  cases hs:Gr F Γ t with
  |none=>grind
  |some b=>
   rw[hs]at h hg;simp only[beq_iff_eq]at hg;exact PD (h hg.1) hg.2
theorem Cj{g:Gd}{p:Prop}[Decidable p]{u:Unit}(h:(HV F Γ g p).ok u)(hg:gv F Γ g=true):p:=PD (R.IW.1 h) hg
theorem Mz(v:Value):(L6 v).av μ ver ln (.lit v):=by
 unfold L6
 split<;>grind [TC.av]
theorem AgX:∀(p:List Stp) {c d:TC},(atC c p).ok d→c.atS p=some d
 |[],c,d,h=>by
  have h:(Pure.pure c:R TC).ok d:=by trivial
  rw[R.Aj]at h;subst h;rfl
 |s::r,c,d,h=>by
  cases c with
  |sl τ tt e l=>
   cases τ with
   |own=>
    simp only[atC]at h;split at h
    case isFalse=>grind [R.Ag]
    rename_i hk;rw[R.Ai]at h;obtain⟨_,h1,h⟩:=h;have hi:=R.IW.1 h1;split at h
    case h_2=>grind [R.Ag]
    rename_i c' hc;have:=AgX r h
    simp only[TC.atS,if_pos hk]<;>grind
   |_=>exact(R.Ag.1 h).elim
  |_=>exact(R.Ag.1 h).elim
theorem Aj0:∀(p:List Stp) {c d:TC} {a:AV},c.atS p=some d→c.av μ ver ln a→∃b,a.at p=some b∧d.av μ ver ln b
 |[],c,d,a,h,ha=>by
  have h:c=d:=by cases c<;>first|exact Qc9 h|(rename_i τ _ _ _;cases τ<;>exact Qc9 h)
  subst h;exact⟨a,by rfl,ha⟩
 |s::r,c,d,a,h,ha=>by
  cases c with
  |sl τ tt e l=>
   cases τ with
   |own=>
    simp only[TC.atS]at h;split at h
    case isFalse=>cases h
    rename_i hk;rw[Qa3]at h;obtain⟨c',hx,h⟩:=h;rw[Qa3]at hx;obtain⟨x,hx,hc⟩:=hx;obtain⟨a',ha',hav⟩:=Jy (Fb (μ:=μ) (ver:=ver) (ln:=ln) e tt x) hc;obtain⟨b,hb,hbv⟩:=Aj0 r h hav;refine⟨b,?_,hbv⟩;have ha:a=.sl .own e.size (l.map (e.enc tt)):=ha
    grind [AV.at]
   |_=>trivial
  |_=>simp[TC.atS]at h
theorem Wy:∀(p q:List Stp) (c:TC),c.atS (p++q)=(c.atS p).bind (·.atS q)
 |[],q,c=>by rfl
 |s::r,q,c=>by
  cases c with
  |sl τ tt e l=>
   cases τ with
   |own=>
    simp only[List.cons_append,TC.atS];split
    ·cases hx:l[s.i]?with
     |none=>simp
     |some x=>
      simp only[Qa5]
      cases hc:(e.ex tt x)[s.c]?with
      |none=>simp
      |some c'=>simp[Wy r q c']
    ·rfl
   |_=>rfl
  |_=>rfl
variable(h:Sim μ F Γ st)
include h
theorem Yd{r:Root}{c:TC}(hr:CH F Γ r=some c):∃a,st.root (r.mu μ)=some a∧c.av μ st.ver (lnT F Γ) a:=by
 cases r with
 |slot t j=>
  simp only[CH]at hr;split at hr
  case h_2=>cases hr
  rename_i v hv;obtain⟨s,hs,hsv⟩:=h.sl t _ hv;simp only[gv]at hs
  cases v with
  |one c0=>
   obtain⟨a,rfl,ha⟩:=hsv<;>grind [TSV.cells,Root.mu,St.root,TV.cell,SV.cells]
  |agg l=>
   obtain⟨k,rfl,ha⟩:=hsv
   obtain⟨a,h1,h2⟩:=Jy ha hr<;>grind [Root.mu,St.root,TV.cell,SV.cells]
  |clo f l=>trivial
 |obj b c0=>
  simp only[CH]at hr;rw[Qa3]at hr;obtain⟨l,hl,hc⟩:=hr
  obtain⟨k,q1,q2,_⟩:=h.bx b l hl<;>grind [Jy,Root.mu,St.root]
theorem Apg{p:Place}{d:TC}(hp:atT F Γ p=some d):∃a,st.at (p.mu μ)=some a∧d.av μ st.ver (lnT F Γ) a:=by
 unfold atT at hp;rw[Qa3]at hp;obtain⟨c,hc,hp⟩:=hp;obtain⟨a,ha,hav⟩:=Yd h hc
 obtain⟨b,hb,hbv⟩:=Aj0 p.path hp hav<;>grind [St.at,Place.mu]
omit h in
theorem AaE{p:Place}{d:TC}(hp:(atR F Γ p).ok d):atT F Γ p=some d:=by
 unfold atR at hp;unfold atT;split at hp
 ·rename_i c hc;rw[hc,Qa5];exact AgX p.path hp
 ·exact(R.Ag.1 hp).elim
theorem LO{p:Place}{tt:TT}{e:BT}{l:List e.D}(hp:(atR F Γ p).ok (.sl .own tt e l)):st.at (p.mu μ)=some (.sl .own e.size (l.map (e.enc tt)))∧lnT F Γ p=some l.length:=by
 have h1:=AaE hp;obtain⟨a,h2,h3⟩:=Apg h h1;have h3:a=_:=h3
 grind [lnT,TC.len?]
omit h in
theorem X0{p:Place}{c:TC}{a:AV}(ha:c.av μ ver ln a)(hl:∀τ tt e l,c=.sl τ tt e l→∀n,ln p=some n→n=l.length):
  (Z9 p c).av μ ver ln (seen (fun k n=>.ref (p.mu μ) (ver (p.mu μ).root) k 0 n) a):=by
 cases c with
 |sl τ tt e l=>
  have ha:a=_:=ha;subst ha
  cases τ with
  |own=>
   exact⟨_,rfl,fun n hn=>by rw[hl _ _ _ _ rfl n hn];simp⟩
  |imm=>exact rfl
  |brw=>exact rfl
 |dead=>exact trivial
 |ref p' tt e w=>
  cases w with
  |none=>
   obtain⟨m,rfl,hm⟩:=ha;exact⟨m,rfl,hm⟩
  |some x=>obtain⟨lo,n⟩:=x;simp only[TC.av]at ha;subst ha;exact rfl
 |_=>first|(have ha:a=_:=ha;subst ha;exact rfl)|(simp only[TC.av]at ha;subst ha;exact rfl)
omit h in
theorem AdB{mk:Nat→Place}{mkA:Nat→Nat→Nat→AV}(hmk:∀j k n,mkA j k n=.ref ((mk j).mu μ) (ver ((mk j).mu μ).root) k 0 n):
  ∀{cs:List TC} {as:List AV} (j:Nat),avs μ ver ln cs as→(∀i τ tt e l,cs[i]?=some (.sl τ tt e l)→∀n,ln (mk (j+i))=some n→n=l.length)→avs μ ver ln (Aaa mk j cs) (Jd mkA j as)
 |[],[],j,_,_=>trivial
 |c::cs,a::as,j,ha,hl=>by
  refine⟨?_,AdB hmk (j+1) ha.2 (fun i τ tt e l hi n hn=>hl (i+1) τ tt e l (by simpa using hi) n (by rw[show j+(i+1)=j+1+i by omega];exact hn))⟩
  have:=X0 (p:=mk j) ha.1 (fun τ tt e l hc n hn=>hl 0 τ tt e l (by simp[hc]) n (by simpa using hn))
  have e:seen (fun k n=>.ref ((mk j).mu μ) (ver ((mk j).mu μ).root) k 0 n) a=(match(generalizing:=false) a with|.sl .own k xs=>mkA j k xs.length|a=>a):=by
   cases a with
   |sl τ k xs=>cases τ<;>simp only[seen,hmk]
   |_=>rfl
  rw[e]at this;exact this
 |[],_::_,_,ha,_=>ha.elim
 |_::_,[],_,ha,_=>ha.elim
omit h in
theorem X1{mk:Nat→Place}{mkA:Nat→Nat→Nat→AV}(hmk:∀j k n,mkA j k n=.ref ((mk j).mu μ) (ver ((mk j).mu μ).root) k 0 n):
  ∀{cs:List TC} {as:List AV} (j:Nat),avs μ ver ln cs as→cs.all TC.Bg=true→(∀i τ tt e l,cs[i]?=some (.sl τ tt e l)→∀n,ln (mk (j+i))=some n→n=l.length)→avs μ ver ln (Aaa mk j cs) (HY mkA j as)
 |[],[],j,_,_,_=>trivial
 |c::cs,a::as,j,ha,hs,hl=>by
  simp only[Qc1,Qa2]at hs;refine⟨?_,X1 hmk (j+1) ha.2 hs.2 (fun i τ tt e l hi n hn=>hl (i+1) τ tt e l (by simpa using hi) n (by rw[show j+(i+1)=j+1+i by omega];exact hn))⟩
  have:=X0 (p:=mk j) ha.1 (fun τ tt e l hc n hn=>hl 0 τ tt e l (by simp[hc]) n (by simpa using hn))
  have e:(∃p v k lo n,a=.ref p v k lo n)∨(∃p v k i n,a=.adr p v k i n)∨seen (fun k n=>.ref ((mk j).mu μ) (ver ((mk j).mu μ).root) k 0 n) a=(match(generalizing:=false) a with|.sl .own k xs=>mkA j k xs.length|a=>XS a):=by
   cases a with
   |sl τ k xs=>cases τ<;>simp only[seen,hmk,XS]<;>simp
   |ref p v k lo n=>exact .inl ⟨_,_,_,_,_,rfl⟩
   |adr p v k i n=>exact .inr (.inl ⟨_,_,_,_,_,rfl⟩)
   |_=>exact .inr (.inr rfl)
  rcases e with⟨p,v,k,lo,n,rfl⟩|⟨p,v,k,i,n,rfl⟩|e
  ·cases c with
   |ref=>simp[TC.Bg]at hs
   |dead=>exact trivial
   |adr=>simp[TC.Bg]at hs
   |_=>exfalso;have h0:=ha.1;simp[TC.av]at h0
  ·cases c with
   |adr=>simp[TC.Bg]at hs
   |dead=>exact trivial
   |ref=>simp[TC.Bg]at hs
   |_=>exfalso;have h0:=ha.1;simp[TC.av]at h0
  ·rw[e]at this;exact this
 |[],_::_,_,ha,_,_=>ha.elim
 |_::_,[],_,ha,_,_=>ha.elim
omit h in
theorem Kq:∀(t:BT) (tt:TT) (x:t.D),(t.ex tt x).all TC.Bg=true
 |.int _,_,_=>rfl
 |.bool,_,_=>rfl
 |.str,_,_=>rfl
 |.unit,_,_=>rfl
 |.sl _,_,_=>rfl
 |.pair a b,tt,x=>by simp only[BT.ex,List.all_append,Kq a,Kq b,Bool.and_self]
theorem Gj{g:Gd}{b:Bool}(hg:b=true→gv F Γ g=true){x:Opd}{v:TSV}(hx:(Rm F Γ g x).ok v):(st.use b x).holds fun s=>v.sv μ st.ver (lnT F Γ) s:=by
 cases x with
 |c u=>
  simp only[Rm]at hx;rw[R.Aj]at hx;subst hx;simp only[St.use];exact M.Ab ⟨_,rfl,Mz u⟩
 |f nm=>
  simp only[Rm]at hx;rw[R.Aj]at hx;subst hx;simp only[St.use];exact M.Ab ⟨[],rfl,trivial⟩
 |t n=>
  simp only[Rm]at hx;split at hx
  case h_2=>grind [R.Ag]
  rename_i gd v0 hs
  cases hsub:gsub gd g with
  |false=>grind [R.Ag]
  |true=>
   rw[hsub]at hx;have hx:=R.Aj.1 hx;subst hx;obtain⟨s,heq,hv⟩:=h.sl n _ hs;simp only[St.use,heq,M.Aa,M.Ak];refine⟨fun hb=>ZV hsub (hg hb),M.Ab ?_⟩
   have hroot:∀(j:Nat) (τ tt e l),v0.cells[j]?=some (.sl τ tt e l)→∀m,lnT F Γ ⟨.slot n j,[]⟩=some m→m=l.length:=by
    intro j τ tt e l hj m hm;simp only[lnT,atT,CH,hs]at hm
    cases gd with
    |nil=>
     simp only[hj,Qa5]at hm
     have e1:(TC.sl τ tt e l).atS []=some (TC.sl τ tt e l):=by rfl
     grind [TC.len?]
    |cons q gd=>grind
   clear hsub
   cases v0 with
   |one c=>
    obtain⟨a,rfl,ha⟩:=hv;refine⟨_,rfl,?_⟩;have:=X0 (p:=⟨.slot n 0,[]⟩) ha (fun τ tt e l hc m hm=>hroot 0 τ tt e l (by simp[TSV.cells,hc]) m hm);trivial
   |agg l=>
    obtain⟨k,rfl,ha⟩:=hv;exact⟨_,rfl,AdB (mk:=fun j=>⟨.slot n j,[]⟩) (fun j k n'=>rfl) 0 ha (fun i τ tt e l' hi m hm=>hroot i τ tt e l' hi m zg)⟩
   |clo f l=>obtain⟨k,rfl,ha⟩:=hv;exact⟨k,rfl,ha⟩
theorem Di{g:Gd}{b:Bool}(hg:b=true→gv F Γ g=true){x:Opd}{c:TC}(hx:(JJ F Γ g x).ok c):(st.CJ b x).holds fun a=>c.av μ st.ver (lnT F Γ) a:=by
 unfold JJ at hx;rw[R.Ai]at hx;obtain⟨v,h1,h2⟩:=hx;split at h2
 case h_2=>grind [R.Ag]
 rename_i c';obtain rfl:=R.Aj.1 h2;unfold St.CJ;rw[M.Aa]
 refine M.Ah (Gj h hg h1) fun s hs=>?_
 obtain⟨a,rfl,ha⟩:=hs;trivial
theorem K6{g:Gd}{b:Bool}(hg:b=true→gv F Γ g=true){x:Opd}{n:Int}(hx:(AbU F Γ g x).ok n):(st.H9 b x).holds (·=n):=by
 unfold AbU at hx;rw[R.Ai]at hx;obtain⟨v,h1,h2⟩:=hx;split at h2
 case h_2=>grind [R.Ag]
 rename_i k c';obtain rfl:=R.Aj.1 h2;unfold St.H9;rw[M.Aa]
 refine M.Ah (Gj h hg h1) fun s hs=>?_
 obtain⟨a,rfl,ha⟩:=hs;have ha:a=_:=ha
 grind [M.Ab]
theorem MY{g:Gd}{b:Bool}(hg:b=true→gv F Γ g=true){x:Opd}{n:Bool}(hx:(Zq F Γ g x).ok n):(st.IZ b x).holds (·=n):=by
 unfold Zq at hx;rw[R.Ai]at hx;obtain⟨v,h1,h2⟩:=hx;split at h2
 case h_2=>grind [R.Ag]
 rename_i c';obtain rfl:=R.Aj.1 h2;unfold St.IZ;rw[M.Aa]
 refine M.Ah (Gj h hg h1) fun s hs=>?_
 obtain⟨a,rfl,ha⟩:=hs;have ha:a=_:=ha
 grind [M.Ab]
theorem Th{g:Gd}{b:Bool}(hg:b=true→gv F Γ g=true){x:Opd}{l:List TC}(hx:(AjB F Γ g x).ok l):(st.use b x).holds fun s=>∃m,s=.agg m∧avs μ st.ver (lnT F Γ) l m:=by
 unfold AjB at hx;rw[R.Ai]at hx;obtain⟨v,h1,h2⟩:=hx;split at h2
 case h_2=>grind [R.Ag]
 rename_i c';obtain rfl:=R.Aj.1 h2;exact Gj h hg h1
end
end Go.VS
namespace Go.VS
section
variable{μ:Nat→Nat}{ver:Root→Nat}{ln:Place→Option Nat}{F Γ:TS}{st:St}
theorem Jz{cs:List TC}{as:List AV}(h:avs μ ver ln cs as)(c n:Nat):avs μ ver ln ((cs.drop c).take n) ((as.drop c).take n):=Kl (Kk h c) n
theorem Aho{cs:List TC}{as:List AV}(agg:Bool)(h:avs μ ver ln cs as):(mkT agg cs).sv μ ver ln (Abm agg as):=by
 cases agg with
 |true=>exact⟨as,rfl,h⟩
 |false=>
  refine⟨as.headD .dead,rfl,?_⟩
  match cs,as,h with
  |[],[],_=>trivial
  |c::cs,a::as,h=>exact h.1
theorem TF:∀{cs:List TC} {as:List AV},cs.all TC.Bg=true→avs μ ver ln cs as→avs μ ver ln cs (as.map XS)
 |[],[],_,_=>trivial
 |c::cs,a::as,hs,h=>by
  simp only[Qc1,Qa2]at hs;refine⟨?_,TF hs.2 h.2⟩;have h1:=h.1
  cases a with
  |ref=>cases c<;>first|exact trivial|(exfalso;simp[TC.av]at h1;done)|grind [TC.Bg]
  |adr=>cases c<;>first|exact trivial|(exfalso;simp[TC.av]at h1;done)|grind [TC.Bg]
  |_=>exact h1
 |[],_::_,_,h=>h.elim
 |_::_,[],_,h=>h.elim
theorem GH{l:List TC}(h:l.all TC.Bg=true)(c n:Nat):((l.drop c).take n).all TC.Bg=true:=by
 grind
theorem Aal:∀{l:List TC} {k:IntKind} {ns:List Int},AlE l=some (k,ns)→∀i,i<l.length→l[i]?=some (.int k (ns.getD i 0))
 |[],k,ns,h,i,hi=>by cases h
 |[c],k,ns,h,i,hi=>by
  cases c<;>grind [AlE]
 |c::d::l,k,ns,h,i,hi=>by
  cases c with
  |int k' n=>
   simp only[AlE]at h;split at h
   case h_2=>cases h
   rename_i k2 ns2 h2;split at h
   case isFalse=>cases h
   rename_i hk;subst hk;simp only[Qa1,Prod.mk.injEq]at h;obtain⟨rfl,rfl⟩:=h
   cases i with
   |zero=>rfl
   |succ i=>simpa using Aal h2 i zg
  |_=>cases h
theorem Aam:∀{l:List TC} {ns:List (List UInt8)},AnU l=some ns→∀i,i<l.length→l[i]?=some (.str (ns.getD i []))
 |[],ns,h,i,hi=>zg
 |c::l,ns,h,i,hi=>by
  cases c with
  |str s=>
   simp only[AnU]at h;split at h
   case h_2=>cases h
   rename_i ns2 h2;simp only[Qa1]at h;subst h
   cases i with
   |zero=>rfl
   |succ i=>simpa using Aam h2 i zg
  |_=>cases h
theorem Ur{l:List TC}{i:Nat}{d:TC}(h:AbI l i=some d)(hi:i<l.length):l[i]?=some d:=by
 grind [AbI,Aal,Aam]
theorem Pj:∀{vs:List TC} {as:List AV} {cs:List TC} {l:List AV} (c:Nat),avs μ ver ln cs l→avs μ ver ln vs as→avs μ ver ln (VM cs c vs) (setCells l c as)
 |[],[],cs,l,c,h,_=>h
 |v::vs,a::as,cs,l,c,h,hv=>Pj (c+1) (VQ h c hv.1) hv.2
 |[],_::_,_,_,_,_,h=>h.elim
 |_::_,[],_,_,_,_,h=>h.elim
theorem AkE{k:CK}{c d:TC}{r:Bool}(h:eqC k c d=some r){a b:AV}(ha:c.av μ ver ln a)(hb:d.av μ ver ln b):QP k a b=some r:=by
 unfold eqC at h;split at h
 ·have ha:a=_:=ha;have hb:b=_:=hb;subst ha;subst hb;exact h
 ·have ha:a=_:=ha;have hb:b=_:=hb
  grind [QP]
 ·have ha:a=_:=ha;have hb:b=_:=hb;subst ha;subst hb;exact h
 grind
theorem ZJ:∀{ks:List CK} {l m:List TC} {r:Bool},AmV ks l m=some r→∀{a b:List AV},avs μ ver ln l a→avs μ ver ln m b→EZ ks a b=some r
 |[],[],[],r,h,[],[],_,_=>h
 |k::ks,c::l,d::m,r,h,a::as,b::bs,ha,hb=>by
  simp only[AmV]at h;split at h
  case h_2=>cases h
  rename_i x y h1 h2;simp only[EZ,AkE h1 ha.1 hb.1,ZJ h2 ha.2 hb.2];exact h
 |[],[],[],_,_,[],_::_,_,h=>h.elim
 |[],[],[],_,_,_::_,_,h,_=>h.elim
 |[],_::_,_,_,h,_,_,_,_=>by cases h
 |[],[],_::_,_,h,_,_,_,_=>by cases h
 |_::_,[],_,_,h,_,_,_,_=>by cases h
 |_::_,_::_,[],_,h,_,_,_,_=>by cases h
 |_::_,_::_,_::_,_,_,[],_,h,_=>h.elim
 |_::_,_::_,_::_,_,_,_::_,[],_,h=>h.elim
theorem Ah4{g:Gd}(hg:gv F Γ g=true){op:BinOp}{k k':IntKind}{x y:Int}{c:TC}(h:(Ake F Γ g op k k' x y).ok c):
  ∃p v,Ab9 op (.int k x) (.int k' y) true=some (p,v)∧p∧c.av μ ver ln (.lit v):=by
 unfold Ake at h
 cases op<;>simp only[Ab9]at h⊢
 case shl=>rw[R.Ai]at h;obtain⟨_,h1,h⟩:=h;obtain rfl:=R.Aj.1 h;exact⟨_,_,rfl,fun _=>Cj h1 hg,rfl⟩
 case shr=>rw[R.Ai]at h;obtain⟨_,h1,h⟩:=h;obtain rfl:=R.Aj.1 h;exact⟨_,_,rfl,fun _=>Cj h1 hg,rfl⟩
 case quo=>
  split at h
  case isFalse=>grind [R.Ag]
  rename_i hk;rw[R.Ai]at h;obtain⟨_,h1,h⟩:=h;obtain rfl:=R.Aj.1 h;exact⟨_,_,if_pos hk,fun _=>Cj h1 hg,rfl⟩
 case rem=>
  split at h
  case isFalse=>grind [R.Ag]
  rename_i hk;rw[R.Ai]at h;obtain⟨_,h1,h⟩:=h;obtain rfl:=R.Aj.1 h;exact⟨_,_,if_pos hk,fun _=>Cj h1 hg,rfl⟩
 all_goals
  split at h
  case isFalse=>exact(R.Ag.1 h).elim
  rename_i hk;obtain rfl:=R.Aj.1 h;exact⟨_,_,if_pos hk,trivial,rfl⟩
theorem Ah5{g:Gd}(hg:gv F Γ g=true){op:BinOp}{x y:List UInt8}{c:TC}(h:(Akf F Γ g op x y).ok c):
  ∃p v,Ab9 op (.string ⟨x.toArray⟩) (.string ⟨y.toArray⟩) true=some (p,v)∧p∧c.av μ ver ln (.lit v):=by
 unfold Akf at h
 cases op<;>simp only[Ab9]at h⊢
 case add=>
  rw[R.Ai]at h;obtain⟨_,h1,h⟩:=h;obtain rfl:=R.Aj.1 h;refine⟨_,_,rfl,fun _=>?_,?_⟩
  ·have:=Cj h1 hg;trivial
  ·simp[TC.av]
 all_goals first
  |(exact(R.Ag.1 h).elim;done)
  |(obtain rfl:=R.Aj.1 h;exact⟨_,_,rfl,trivial,by simp[TC.av]⟩)
theorem Ah6{g:Gd}(hg:gv F Γ g=true){op:BinOp}{x y c:TC}(h:(Aph F Γ g op x y).ok c){a b:AV}(ha:x.av μ ver ln a)(hb:y.av μ ver ln b):
  ∃u w p v,a=.lit u∧b=.lit w∧Ab9 op u w true=some (p,v)∧p∧c.av μ ver ln (.lit v):=by
 unfold Aph at h;split at h
 ·obtain⟨p,v,h1,h2,h3⟩:=Ah4 (μ:=μ) (ver:=ver) (ln:=ln) hg h;exact⟨_,_,p,v,ha,hb,h1,h2,h3⟩
 ·obtain⟨p,v,h1,h2,h3⟩:=Ah5 (μ:=μ) (ver:=ver) (ln:=ln) hg h;exact⟨_,_,p,v,ha,hb,h1,h2,h3⟩
 grind [R.Ag]
def loN:Option Int→Nat
 |none=>0
 |some a=>a.toNat
def hiN(n:Nat):Option Int→Nat
 |none=>n
 |some b=>b.toNat
variable(h:Sim μ F Γ st)
include h
theorem Adv{g:Gd}(hg:gv F Γ g=true){x:Option Opd}{r:Option Int}(hx:(Anm F Γ g x).ok r):(x=none∧r=none)∨∃y n,x=some y∧r=some n∧(st.H9 true y).holds (·=n):=by
 cases x<;>grind [Anm,R.Aj,R.Ai,K6]
theorem RP{g:Gd}(hg:gv F Γ g=true){n:Nat}{lo hi:Option Opd}{l r:Option Int}(hx:(Ae5 F Γ g n lo hi).ok (l,r)):
  (I8 st true n lo hi).holds (·=(loN l,hiN n r))∧loN l≤hiN n r∧hiN n r≤n:=by
 unfold Ae5 at hx;rw[R.Ai]at hx;obtain⟨r',h1,hx⟩:=hx;rw[R.Ai]at hx;obtain⟨l',h2,hx⟩:=hx
 have key:l'=l∧r'=r∧(∀b,r=some b→0≤b∧b≤n)∧(∀a,l=some a→0≤a∧a≤hiN n r):=by
  grind [R.Aj,R.Ai,Cj,hiN]
 obtain⟨rfl,rfl,k1,k2⟩:=key
 have hh:(AkW st true n hi).holds (·=hiN n r'):=by
  rcases Adv h hg h1 with⟨rfl,rfl⟩|⟨y,b,rfl,rfl,hb⟩
  ·trivial
  ·simp only[AkW,M.Aa];refine M.Ah hb ?_;rintro _ rfl;rw[M.Ak];obtain⟨q1,q2⟩:=k1 _ rfl;exact⟨fun _=>⟨q1,zm⟩,M.Ab rfl⟩
 have hl:(AiH st true (hiN n r') lo).holds (·=loN l'):=by
  rcases Adv h hg h2 with⟨rfl,rfl⟩|⟨y,b,rfl,rfl,hb⟩
  ·trivial
  ·simp only[AiH,M.Aa];refine M.Ah hb ?_;rintro _ rfl;rw[M.Ak];obtain⟨q1,q2⟩:=k2 _ rfl;exact⟨fun _=>⟨q1,zm⟩,M.Ab rfl⟩
 grind [I8,M.Aa,M.Ah,M.Ab,loN,hiN]
theorem Z8{g:Gd}(hg:gv F Γ g=true):∀{ps:List (Nat×Nat×Opd)} {cells r:List TC} {as:List AV},(Un F Γ g cells ps).ok r→avs μ st.ver (lnT F Γ) cells as→(JF st true as ps).holds fun l=>avs μ st.ver (lnT F Γ) r l
 |[],cells,r,as,hx,ha=>by
  grind [Un,R.Aj,JF,M.Ab]
 |(off,n,x)::ps,cells,r,as,hx,ha=>by
  simp only[Un]at hx;rw[R.Ai]at hx;obtain⟨v,h1,hx⟩:=hx;simp only[JF,M.Aa]
  refine M.Ah (Gj h (fun _=>hg) h1) fun s hs=>?_
  have key:∀l:List TC,avs μ st.ver (lnT F Γ) l s.cells→(if l.length=n then Un F Γ g (VM cells off l) ps else R.fail).ok r→M.holds (if s.cells.length=n then JF st true (setCells as off s.cells) ps else M.fail) fun l=>avs μ st.ver (lnT F Γ) r l:=by
   intro l hl hx;have e:=Cd hl;split at hx
   case isFalse=>grind [R.Ag]
   rename_i hn;rw[if_pos zg];exact Z8 hg hx (Pj off ha hl)
  cases v with
  |one c=>obtain⟨a,rfl,hc⟩:=hs;exact key [c] ⟨hc,trivial⟩ hx
  |agg l=>obtain⟨k,rfl,hc⟩:=hs;exact key l hc hx
  |clo f l=>grind [R.Ag]
theorem Ach{g:Gd}(hg:gv F Γ g=true):∀{xs:List Opd} {r:List TC},(Acg F Γ g xs).ok r→(QO st true xs).holds fun l=>avs μ st.ver (lnT F Γ) r l
 |[],r,hx=>by
  simp only[Acg]at hx;obtain rfl:=R.Aj.1 hx;trivial
 |x::xs,r,hx=>by
  simp only[Acg]at hx;rw[R.Ai]at hx;obtain⟨c,h1,hx⟩:=hx;rw[R.Ai]at hx;obtain⟨l,h2,hx⟩:=hx;obtain rfl:=R.Aj.1 hx;simp only[QO,M.Aa]
  refine M.Ah (Di h (fun _=>hg) h1) fun a ha=>?_
  refine M.Ah (Ach hg h2) fun m hm=>?_
  trivial
end
end Go.VS
namespace Go.VS
theorem SB{α β:Type}(f:α→β)(l:List α)(i:Nat)(d:α)(d':β)(h:i<l.length):(l.map f).getD i d'=f (l.getD i d):=by
 grind
theorem Abq{α:Type}{l:List α}{i:Nat}{a:α}(h:l[i]?=some a):(l.drop i).take 1=[a]:=by
 grind [List.getElem?_eq_some_iff,List.drop_eq_getElem_cons,Qc4]
theorem An9{α β:Type}(f:α→β)(xs:List α)(l r:Option Int)(h1:loN l≤hiN xs.length r)(h2:hiN xs.length r≤xs.length):
  window (loN l) (hiN xs.length r -loN l) (xs.map f)=(Zr l r xs).map f:=by
 have key:(Zr l r xs)=(xs.drop (loN l)).take (hiN xs.length r -loN l):=by
  cases l with
  |none=>cases r<;>grind [Zr,loN,hiN]
  |some a=>cases r with
   |none=>grind [Zr,loN,hiN,Qb7]
   |some b=>grind [Zr,loN,hiN,Qc6]
 rw[key];unfold window;split
 ·grind
 ·simp
theorem LG{tt:TT}:∀l:List Int,bytesOf (l.map ((BT.int .u8).enc tt))=some l
 |[]=>rfl
 |n::l=>by
  show bytesOf ([.lit (.int .u8 n)]::l.map ((BT.int .u8).enc tt))=some (n::l);rw[bytesOf,LG l];rfl
section
variable{μ:Nat→Nat}{ver:Root→Nat}{ln:Place→Option Nat}
theorem RT:∀(t:BT) (tt:TT) (_:TC.BD.TT.BD tt=true) (x:t.D),(t.enc tt x).all AV.free=true
 |.int _,_,_,_=>rfl
 |.bool,_,_,_=>rfl
 |.str,_,_,_=>rfl
 |.unit,_,_,_=>rfl
 |.sl e,tt,h,l=>by
  have h1:tt.tag≠.brw∧TC.BD.TT.BD tt.elt=true:=by
   cases tt<;>grind [TT.tag,TC.BD.TT.BD,TT.elt]
  have h2:HR (l.map (e.enc tt.elt))=true:=by
   rw[T8,List.all_map,List.all_eq_true];intro x _;exact RT e _ h1.2 x
  simp only[BT.enc,Qc1,List.all_nil,Bool.and_true]
  cases ht:tt.tag with
  |brw=>grind
  |_=>exact h2
 |.pair a b,tt,h,x=>by
  have h1:TC.BD.TT.BD tt.fst=true∧TC.BD.TT.BD tt.snd=true:=by
   cases tt<;>grind [TC.BD.TT.BD,TT.fst,TT.snd]
  simp only[BT.enc,List.all_append,RT a _ h1.1,RT b _ h1.2,Bool.and_self]
theorem AkN{c:TC}(h:c.BD=true){a:AV}(ha:c.av μ ver ln a):a.free=true:=by
 cases c with
 |ref=>cases h
 |adr=>cases h
 |iadr=>cases h
 |iadrd=>cases h
 |dead=>cases h
 |sl τ tt e l=>
  have ha:a=_:=ha;subst ha
  have h2:τ≠.brw∧TC.BD.TT.BD tt=true:=by grind [TC.BD]
  have h3:HR (l.map (e.enc tt))=true:=by
   grind [T8,RT]
  cases τ with
  |brw=>grind
  |_=>exact h3
 |_=>(have ha:a=_:=ha);subst ha;rfl
theorem Ag9:∀{l:List TC},l.all TC.BD=true→∀{as:List AV},avs μ ver ln l as→as.all AV.free=true
 |[],_,[],_=>rfl
 |c::l,h,a::as,ha=>by
  simp only[Qc1,Qa2]at h⊢;exact⟨AkN h.1 ha.1,Ag9 h.2 ha.2⟩
 |[],_,_::_,h=>h.elim
 |_::_,_,[],h=>h.elim
end
section
variable{μ:Nat→Nat}{F Γ:TS}{st:St}(h:Sim μ F Γ st)
include h
theorem AiB{p:Place}{s:Stp}{tt:TT}{e:BT}{l:List e.D}(hp:atT F Γ p=some (.sl .own tt e l))(hk:s.k=e.size)(hi:s.i<l.length){τ2:Tag}{tt2:TT}{e2:BT}{l2:List e2.D}
  (hc:(e.ex tt (l.getD s.i e.dflt))[s.c]?=some (.sl τ2 tt2 e2 l2)) {n:Nat} (hn:lnT F Γ ⟨p.root,p.path++[s]⟩=some n):n=l2.length:=by
 unfold lnT atT at hn;unfold atT at hp
 cases hr:CH F Γ p.root with
 |none=>grind
 |some c=>
  rw[hr,Qa5]at hp;simp only[hr,Qa5,Wy,hp]at hn;simp only[TC.atS,if_pos hk,Qc4 hi,Qa5]at hn
  have e1:l.getD s.i e.dflt=l[s.i]:=zg
  rw[e1]at hc;rw[hc]at hn
  have e3:(TC.sl τ2 tt2 e2 l2).atS []=some (.sl τ2 tt2 e2 l2):=by rfl
  grind [TC.len?]
theorem Ak6{g:Gd}(hg:gv F Γ g=true){agg:Bool}{n:Nat}{c:TC}{v:TSV}(hx:(loadT F Γ g agg n c).ok v){x:Opd}(ha:(st.CJ true x).holds fun a=>c.av μ st.ver (lnT F Γ) a):
  (st.BL true (.load agg n x)).holds fun s=>v.sv μ st.ver (lnT F Γ) s:=by
 simp only[St.BL,M.Aa]
 refine M.Ah ha fun a ha=>?_
 cases c with
 |box b c=>
  have ha:a=_:=ha;subst ha;simp only[loadT]at hx;split at hx
  case h_2=>grind [R.Ag]
  rename_i l hl;split at hx
  case isFalse=>grind [R.Ag]
  rename_i hc;obtain rfl:=R.Aj.1 hx;obtain⟨k,q1,q2,q3,q4⟩:=h.bx b l hl;simp only[q1,M.Aa,M.Ak];have hlen:=Cd q2;refine⟨zm,M.Ab ?_⟩;rw[sub_eq k c n k.length rfl];refine Aho agg (X1 (mk:=fun j=>⟨.obj b (c+j),[]⟩) (fun j k' n'=>rfl) 0 (Jz q2 c n) (GH q4 c n) ?_);intro i τ tt e l' hi m hm;simp only[Nat.zero_add,lnT,atT,CH,hl,Qa5]at hm
  have hi2:l[c+i]?=some (.sl τ tt e l'):=by
   grind
  rw[hi2]at hm
  have e3:(TC.sl τ tt e l').atS []=some (.sl τ tt e l'):=by rfl
  grind [TC.len?]
 |boxd b c m i=>
  have ha:a=_:=ha;subst ha;simp only[loadT]at hx;split at hx
  case h_2=>grind [R.Ag]
  rename_i l hl;split at hx
  case h_2=>grind [R.Ag]
  rename_i d hd;split at hx
  case isFalse=>grind [R.Ag]
  rename_i hc;obtain⟨rfl,rfl,hc⟩:=hc;rw[R.Ai]at hx;obtain⟨_,h1,hx⟩:=hx;have hi:=Cj h1 hg;obtain rfl:=R.Aj.1 hx;obtain⟨k,q1,q2,q3,q4⟩:=h.bx b l hl;simp only[q1,M.Aa,M.Ak];have hlen:=Cd q2;refine⟨zm,M.Ab ?_⟩;rw[sub_eq k _ _ k.length rfl];have hsel:=Ur hd zg;rw[Qb6 hi,List.getElem?_drop]at hsel
  obtain⟨a,ha,hav⟩:=Jy q2 hsel;have e1:=Abq ha;rw[e1];refine⟨_,rfl,?_⟩;simp only[HY,List.headD]
  cases a with
  |sl τ k' xs=>
   grind [AbI,TC.av]
  |ref=>
   grind [AbI,TC.av]
  |adr=>
   grind [AbI,TC.av]
  |_=>exact hav
 |adr p tt0 e i c=>
  have ha:a=_:=ha;subst ha;simp only[loadT]at hx;rw[R.Ai]at hx;obtain⟨d,h1,hx⟩:=hx
  cases d with
  |sl τ tt e' l=>
   cases τ with
   |own=>
    simp only[Ahk]at hx;split at hx
    case isFalse=>grind [R.Ag]
    rename_i hk;obtain⟨hk,hc⟩:=hk;rw[R.Ai]at hx;obtain⟨_,h2,hx⟩:=hx;have hi:=Cj h2 hg;obtain rfl:=R.Aj.1 hx;obtain⟨q1,q2⟩:=LO h h1;have q0:=AaE h1;simp only[q1,M.Aa,M.Ak];refine⟨trivial,hk,fun _=>zg,hc,M.Ab ?_⟩;rw[SB (e'.enc tt) l i e'.dflt [] hi,sub_eq _ c n _ (by rw[D3,hk])]
    refine Aho agg (X1 (mk:=fun j=>⟨p.root,p.path++[⟨i,e.size,c+j⟩]⟩) (fun j k' n'=>rfl) 0 (Jz (Fb e' tt _) c n) (GH (Kq _ _ _) c n) ?_);intro j τ tt2 e2 l' hj m hm;rw[Nat.zero_add]at hm
    have hj2:(e'.ex tt (l.getD i e'.dflt))[c+j]?=some (.sl τ tt2 e2 l'):=by
     grind
    exact AiB h (s:=⟨i,e.size,c+j⟩) q0 hk.symm hi hj2 hm
   |_=>exact(R.Ag.1 hx).elim
  |_=>exact(R.Ag.1 hx).elim
 |iadr tt e l i c=>
  have ha:a=_:=ha;subst ha;simp only[loadT]at hx;split at hx
  case isFalse=>grind [R.Ag]
  rename_i hc;rw[R.Ai]at hx;obtain⟨_,h2,hx⟩:=hx;have hi:=Cj h2 hg;obtain rfl:=R.Aj.1 hx;simp only[M.Aa,M.Ak];refine⟨fun _=>zg,hc,M.Ab ?_⟩
  rw[SB (e.enc tt) l i e.dflt [] hi,sub_eq _ c n _ (D3 _ _ _)]<;>grind [Aho,TF,GH,Kq,Jz,Fb]
 |iadrd tt e l i c m j=>
  have ha:a=_:=ha;subst ha;simp only[loadT]at hx;split at hx
  case h_2=>grind [R.Ag]
  rename_i d hd;split at hx
  case isFalse=>grind [R.Ag]
  rename_i hc;obtain⟨rfl,rfl,hc⟩:=hc;rw[R.Ai]at hx;obtain⟨_,h2,hx⟩:=hx;obtain⟨hi,hj⟩:=Cj h2 hg;obtain rfl:=R.Aj.1 hx;simp only[M.Aa,M.Ak];refine⟨fun _=>zg,zm,M.Ab ?_⟩;rw[SB (e.enc tt) l i e.dflt [] hi,sub_eq _ _ _ _ (D3 _ _ _)];have hsel:=Ur hd (by grind [CZ]);rw[Qb6 hj,List.getElem?_drop]at hsel
  have q2:=Fb (μ:=μ) (ver:=st.ver) (ln:=lnT F Γ) e tt (l.getD i e.dflt);obtain⟨a,ha,hav⟩:=Jy q2 hsel;have e1:=Abq ha;rw[e1];refine⟨_,rfl,?_⟩
  have hsol:d.Bg=true∧d≠.dead:=by
   unfold AbI at hd;split at hd
   ·cases hd;exact⟨rfl,zsz⟩
   ·split at hd
    ·cases hd;exact⟨rfl,zsz⟩
    grind
  have:=TF (cs:=[d]) (as:=[a]) (μ:=μ) (ver:=st.ver) (ln:=lnT F Γ) zg ⟨hav,trivial⟩;exact this.1
 |_=>exact(R.Ag.1 hx).elim
theorem AnX{g:Gd}(hg:gv F Γ g=true){k:Nat}{lo hi:Option Opd}{c:TC}{v:TSV}(hx:(AlI F Γ g k lo hi c).ok v){x:Opd}(ha:(st.CJ true x).holds fun a=>c.av μ st.ver (lnT F Γ) a):
  (st.BL true (.slK k x lo hi)).holds fun s=>v.sv μ st.ver (lnT F Γ) s:=by
 simp only[St.BL,M.Aa]
 refine M.Ah ha fun a ha=>?_
 cases c with
 |ref p tt e w=>
  simp only[AlI]at hx;rw[R.Ai]at hx;obtain⟨d,h1,hx⟩:=hx
  cases d with
  |sl τ tt' e' l0=>
   cases τ with
   |own=>
    obtain⟨q1,q2⟩:=LO h h1
    cases w with
    |none=>
     have ha:a=_:=Pc ha q2;subst ha;simp only[Ap8]at hx;split at hx
     case isFalse=>grind [R.Ag]
     rename_i hk;rw[R.Ai]at hx;obtain⟨⟨l,r⟩,h2,hx⟩:=hx;obtain rfl:=R.Aj.1 hx;obtain⟨b1,b2,b3⟩:=RP h hg h2;simp only[q1,M.Aa,M.Ak];refine⟨trivial,hk,M.Ah b1 ?_⟩;rintro _ rfl;refine M.Ab ?_;subst hk
     cases l with
     |none=>cases r with
      |none=>
       refine⟨_,rfl,?_⟩<;>grind [loN,hiN]
      |some b=>exact⟨_,rfl,by rfl⟩
     |some a=>cases r with
      |none=>exact⟨_,rfl,by simp[TC.av,loN,hiN]⟩
      |some b=>exact⟨_,rfl,by simp[TC.av,loN,hiN]⟩
    |some y=>
     obtain⟨lo0,n⟩:=y;have ha:a=_:=ha;subst ha;simp only[Ap8]at hx;split at hx
     case isFalse=>grind [R.Ag]
     rename_i hk;rw[R.Ai]at hx;obtain⟨⟨l,r⟩,h2,hx⟩:=hx;obtain rfl:=R.Aj.1 hx;obtain⟨b1,b2,b3⟩:=RP h hg h2;simp only[q1,M.Aa,M.Ak];refine⟨trivial,hk,M.Ah b1 ?_⟩;rintro _ rfl;refine M.Ab ?_;subst hk
     cases l with
     |none=>cases r with
      |none=>exact⟨_,rfl,by rfl⟩
      |some b=>exact⟨_,rfl,by rfl⟩
     |some a=>cases r with
      |none=>exact⟨_,rfl,by rfl⟩
      |some b=>exact⟨_,rfl,by rfl⟩
   |_=>cases w with
    |none=>exact(R.Ag.1 hx).elim
    |some y=>exact(R.Ag.1 hx).elim
  |_=>cases w with
   |none=>exact(R.Ag.1 hx).elim
   |some y=>exact(R.Ag.1 hx).elim
 |sl τ tt e l=>
  have ha:a=_:=ha;subst ha;simp only[AlI]at hx;split at hx
  case isFalse=>grind [R.Ag]
  rename_i hk;obtain⟨hτ,hk⟩:=hk;rw[R.Ai]at hx;obtain⟨⟨r1,r2⟩,h2,hx⟩:=hx;obtain rfl:=R.Aj.1 hx;obtain⟨b1,b2,b3⟩:=RP h hg h2;simp only[M.Aa,M.Ak,List.length_map];refine⟨hk,hτ,M.Ah b1 ?_⟩;rintro _ rfl
  refine M.Ab ⟨_,rfl,?_⟩<;>grind [TC.av,An9]
 |nil=>
  have ha:a=_:=ha;subst ha;simp only[AlI]at hx;rw[R.Ai]at hx;obtain⟨⟨r1,r2⟩,h2,hx⟩:=hx;obtain rfl:=R.Aj.1 hx;obtain⟨b1,b2,b3⟩:=RP h hg h2;simp only[M.Aa];refine M.Ah b1 ?_;rintro _ rfl;exact M.Ab ⟨_,rfl,rfl⟩
 |_=>exact(R.Ag.1 hx).elim
theorem Am4{g:Gd}(hg:gv F Γ g=true){k:Nat}{n:Int}{c:TC}{v:TSV}(hx:(Am3 F Γ g k n c).ok v){x i:Opd}(hi:(st.H9 true i).holds (·=n))(ha:(st.CJ true x).holds fun a=>c.av μ st.ver (lnT F Γ) a):
  (st.BL true (.ixA k x i)).holds fun s=>v.sv μ st.ver (lnT F Γ) s:=by
 simp only[St.BL,M.Aa];refine M.Ah hi ?_;rintro _ rfl
 refine M.Ah ha fun a ha=>?_
 cases c with
 |ref p tt e w=>
  simp only[Am3]at hx;rw[R.Ai]at hx;obtain⟨d,h1,hx⟩:=hx
  cases d with
  |sl τ tt' e' l0=>
   cases τ with
   |own=>
    obtain⟨q1,q2⟩:=LO h h1
    cases w with
    |none=>
     have ha:a=_:=Pc ha q2;subst ha;simp only[ApA]at hx;split at hx
     case isFalse=>grind [R.Ag]
     rename_i hk;rw[R.Ai]at hx;obtain⟨_,h2,hx⟩:=hx;have hb:=Cj h2 hg;obtain rfl:=R.Aj.1 hx;simp only[q1,M.Aa,M.Ak]
     refine⟨trivial,hk,fun _=>hb,M.Ab ⟨_,rfl,?_⟩⟩<;>grind [TC.av]
    |some y=>
     obtain⟨lo0,n0⟩:=y;have ha:a=_:=ha;subst ha;simp only[ApA]at hx;split at hx
     case isFalse=>grind [R.Ag]
     rename_i hk;rw[R.Ai]at hx;obtain⟨_,h2,hx⟩:=hx;have hb:=Cj h2 hg;obtain rfl:=R.Aj.1 hx;simp only[q1,M.Aa,M.Ak]
     refine⟨trivial,hk,fun _=>hb,M.Ab ⟨_,rfl,?_⟩⟩<;>grind [TC.av]
   |_=>cases w with
    |none=>exact(R.Ag.1 hx).elim
    |some y=>exact(R.Ag.1 hx).elim
  |_=>cases w with
   |none=>exact(R.Ag.1 hx).elim
   |some y=>exact(R.Ag.1 hx).elim
 |sl τ tt e l=>
  have ha:a=_:=ha;subst ha;simp only[Am3]at hx;split at hx
  case isFalse=>grind [R.Ag]
  rename_i hk;obtain⟨hτ,hk⟩:=hk;rw[R.Ai]at hx;obtain⟨_,h2,hx⟩:=hx;have hb:=Cj h2 hg;obtain rfl:=R.Aj.1 hx;simp only[M.Aa,M.Ak,List.length_map];refine⟨hk,hτ,fun _=>hb,M.Ab ⟨_,rfl,?_⟩⟩;subst hk;rfl
 |_=>exact(R.Ag.1 hx).elim
theorem Ang{c d:TC}(hx:(AiA F Γ c).ok d){a:AV}(ha:c.av μ st.ver (lnT F Γ) a):(Anf a).holds fun n=>d=.int .i64 n:=by
 cases c with
 |ref p tt e w=>
  cases w with
  |none=>
   simp only[AiA]at hx;rw[R.Ai]at hx;obtain⟨d',h1,hx⟩:=hx
   cases d' with
   |sl τ tt' e' l0=>
    cases τ with
    |own=>
     obtain⟨q1,q2⟩:=LO h h1;have ha:a=_:=Pc ha q2;subst ha;obtain rfl:=R.Aj.1 hx;trivial
    |_=>grind [R.Ag]
   |_=>exact(R.Ag.1 hx).elim
  |some y=>
   obtain⟨lo,n⟩:=y;have ha:a=_:=ha;subst ha;simp only[AiA]at hx;obtain rfl:=R.Aj.1 hx;trivial
 |sl τ tt e l=>
  have ha:a=_:=ha
  grind [AiA,R.Aj,Anf,M.Ab]
 |nil=>
  have ha:a=_:=ha;subst ha;simp only[AiA]at hx;obtain rfl:=R.Aj.1 hx;trivial
 |_=>exact(R.Ag.1 hx).elim
theorem Ag5{g:Gd}(hg:gv F Γ g=true){op:AOp}{v:TSV}(hx:(Iw F Γ g op).ok v):(st.BL true op).holds fun s=>v.sv μ st.ver (lnT F Γ) s:=by
 have hg':true=true→gv F Γ g=true:=fun _=>hg
 cases op with
 |mv x=>exact Gj h hg' hx
 |pick c a b=>
  cases c with
  |t n=>
   simp only[Iw]at hx;rw[R.Ai]at hx;obtain⟨cb,h1,hx⟩:=hx;rw[R.Ai]at hx;obtain⟨av,h2,hx⟩:=hx;rw[R.Ai]at hx;obtain⟨bv,h3,hx⟩:=hx;obtain rfl:=R.Aj.1 hx
   have hslot:Gr F Γ n=some cb:=by
    unfold Zq at h1;rw[R.Ai]at h1;obtain⟨v,h4,h5⟩:=h1;unfold Gr;simp only[Rm]at h4;split at h4
    case h_2=>grind [R.Ag]
    rename_i gd v0 hs;rw[hs]
    cases hsub:gsub gd g with
    |false=>grind [R.Ag]
    |true=>
     rw[hsub]at h4;have h4:=R.Aj.1 h4;subst h4;split at h5
     case h_2=>grind [R.Ag]
     rename_i b0 hb0;obtain rfl:=R.Aj.1 h5
     cases v0 with
     |one c0=>
      cases c0 with
      |bool b1=>grind [TSV.peek,Z9,TSV.one.injEq,TC.bool.injEq]
      |sl τ tt e l=>cases τ<;>simp[TSV.peek,Z9]at hb0
      |_=>simp[TSV.peek,Z9]at hb0
     |agg l=>trivial
     |clo f l=>trivial
   simp only[St.BL,M.Aa]
   refine M.Ah (MY h hg' h1) fun x0 e0=>?_
   rw[e0];clear e0 x0;refine M.Ah (MY h (b:=true&&cb) ?_ h2) ?_
   ·grind [gv]
   rintro _ rfl;refine M.Ah (MY h (b:=true&&!cb) ?_ h3) ?_
   ·grind [gv]
   rintro _ rfl;exact M.Ab ⟨_,rfl,rfl⟩
  |c v=>exact(R.Ag.1 hx).elim
  |f nm=>exact(R.Ag.1 hx).elim
 |build zero parts=>
  simp only[Iw]at hx;rw[R.Ai]at hx;obtain⟨l,h1,hx⟩:=hx;obtain rfl:=R.Aj.1 hx;simp only[St.BL,M.Aa]
  have hz:∀zs:List Value,avs μ st.ver (lnT F Γ) (zs.map L6) (zs.map .lit):=by
   intro zs
   induction zs with
   |nil=>trivial
   |cons z zs ih=>exact⟨Mz z,ih⟩
  refine M.Ah (Z8 h hg h1 (hz zero)) fun as ha=>M.Ab ⟨as,rfl,ha⟩
 |load agg n x=>
  grind [Iw,R.Ai,Ak6,Di]
 |nilc x=>
  simp only[Iw]at hx;rw[R.Ai]at hx;obtain⟨c,h1,hx⟩:=hx;have h2:=Gj h hg' h1;simp only[St.BL,St.CJ,M.Aa]
  refine M.Ah h2 fun s hs=>?_
  unfold AoZ at hx;split at hx
  ·obtain rfl:=R.Aj.1 hx;obtain⟨a,rfl,ha⟩:=hs;rw[M.Ae];have ha:a=_:=ha;subst ha;exact M.Ab ⟨_,rfl,rfl⟩
  ·obtain rfl:=R.Aj.1 hx;obtain⟨a,rfl,ha⟩:=hs;rw[M.Ae];have ha:a=_:=ha;subst ha;exact M.Ab ⟨_,rfl,rfl⟩
  ·obtain rfl:=R.Aj.1 hx;obtain⟨a,rfl,ha⟩:=hs;rw[M.Ae];have ha:a=_:=ha;subst ha;exact M.Ab ⟨_,rfl,rfl⟩
  ·obtain rfl:=R.Aj.1 hx;obtain⟨a,rfl,ha⟩:=hs;rw[M.Ae];have ha:a=_:=ha;subst ha;exact M.Ab ⟨_,rfl,rfl⟩
  ·obtain rfl:=R.Aj.1 hx;obtain⟨k,rfl,ha⟩:=hs;rw[M.Ae];exact M.Ab ⟨k,rfl,ha⟩
  grind [R.Ag]
 |bin op x y=>
  simp only[Iw]at hx;rw[R.Ai]at hx;obtain⟨c,h1,hx⟩:=hx;rw[R.Ai]at hx;obtain⟨d,h2,hx⟩:=hx;rw[R.Ai]at hx;obtain⟨r,h3,hx⟩:=hx;obtain rfl:=R.Aj.1 hx;simp only[St.BL,M.Aa]
  have k1:=Gj (v:=.one c) h hg' (by
   unfold JJ at h1;rw[R.Ai]at h1;obtain⟨v,q1,q2⟩:=h1;split at q2
   ·obtain rfl:=R.Aj.1 q2;exact q1
   grind [R.Ag])
  have k2:=Gj (v:=.one d) h hg' (by
   unfold JJ at h2;rw[R.Ai]at h2;obtain⟨v,q1,q2⟩:=h2;split at q2
   ·obtain rfl:=R.Aj.1 q2;exact q1
   grind [R.Ag])
  refine M.Ah k1 fun s hs=>?_
  refine M.Ah k2 fun s' hs'=>?_
  obtain⟨a,rfl,ha⟩:=hs;obtain⟨b,rfl,hb⟩:=hs';obtain⟨u,w,p,v,rfl,rfl,e1,e2,e3⟩:=Ah6 hg h3 ha hb;simp only[M.Aa];rw[M.OW];exact⟨p,v,e1,e2,M.Ab ⟨_,rfl,e3⟩⟩
 |eqB ne x y=>
  simp only[Iw]at hx;rw[R.Ai]at hx;obtain⟨c,h1,hx⟩:=hx;rw[R.Ai]at hx;obtain⟨d,h2,hx⟩:=hx;obtain rfl:=R.Aj.1 hx;simp only[St.BL,M.Aa];refine M.Ah (MY h hg' h1) ?_;rintro _ rfl;refine M.Ah (MY h hg' h2) ?_;rintro _ rfl;refine M.Ab ⟨_,rfl,?_⟩
  cases ne<;>rfl
 |eqA ne ks x y=>
  simp only[Iw]at hx;rw[R.Ai]at hx;obtain⟨c,h1,hx⟩:=hx;rw[R.Ai]at hx;obtain⟨d,h2,hx⟩:=hx;rw[R.Ai]at hx;obtain⟨r,h3,hx⟩:=hx;obtain rfl:=R.Aj.1 hx;have h3:=R.Cp.1 h3;simp only[St.BL,M.Aa]
  refine M.Ah (Th h hg' h1) fun s hs=>?_
  refine M.Ah (Th h hg' h2) fun s' hs'=>?_
  obtain⟨a,rfl,ha⟩:=hs;obtain⟨b,rfl,hb⟩:=hs';simp only[M.Aa];rw[M.Dh];refine⟨r,ZJ h3 ha hb,M.Ab ⟨_,rfl,?_⟩⟩
  cases ne<;>rfl
 |mkI t x=>
  simp only[Iw]at hx;rw[R.Ai]at hx;obtain⟨c,h1,hx⟩:=hx;split at hx
  case h_2=>grind [R.Ag]
  obtain rfl:=R.Aj.1 hx;simp only[St.BL,M.Aa]
  refine M.Ah (Di h hg' h1) fun a ha=>?_
  have ha:a=_:=ha;subst ha;exact M.Ab ⟨_,rfl,rfl⟩
 |un op x=>
  simp only[Iw]at hx;rw[R.Ai]at hx;obtain⟨c,h1,hx⟩:=hx;rw[R.Ai]at hx;obtain⟨d,h2,hx⟩:=hx;obtain rfl:=R.Aj.1 hx;simp only[St.BL,M.Aa]
  refine M.Ah (Di h hg' h1) fun a ha=>?_
  unfold unT at h2;split at h2
  ·obtain rfl:=R.Aj.1 h2;have ha:a=_:=ha;subst ha;simp only[M.Aa];rw[M.Dh];exact⟨_,rfl,M.Ab ⟨_,rfl,rfl⟩⟩
  ·obtain rfl:=R.Aj.1 h2;have ha:a=_:=ha;subst ha;simp only[M.Aa];rw[M.Dh];exact⟨_,rfl,M.Ab ⟨_,rfl,rfl⟩⟩
  ·obtain rfl:=R.Aj.1 h2;have ha:a=_:=ha;subst ha;simp only[M.Aa];rw[M.Dh];exact⟨_,rfl,M.Ab ⟨_,rfl,rfl⟩⟩
  grind [R.Ag]
 |conv cv x=>
  simp only[Iw]at hx;rw[R.Ai]at hx;obtain⟨c,h1,hx⟩:=hx;rw[R.Ai]at hx;obtain⟨d,h2,hx⟩:=hx;obtain rfl:=R.Aj.1 hx;simp only[St.BL,M.Aa]
  refine M.Ah (Di h hg' h1) fun a ha=>?_
  unfold AoN at h2;split at h2
  ·obtain rfl:=R.Aj.1 h2;have ha:a=_:=ha;subst ha;exact M.Ab ⟨_,rfl,rfl⟩
  ·obtain rfl:=R.Aj.1 h2;have ha:a=_:=ha;subst ha;exact M.Ab ⟨_,rfl,rfl⟩
  ·obtain rfl:=R.Aj.1 h2;have ha:a=_:=ha;subst ha;exact M.Ab ⟨_,rfl,by rfl⟩
  ·rw[R.Ai]at h2;obtain⟨d',h3,h2⟩:=h2;rename_i p tt w;unfold Aki at h2;split at h2
   case h_2=>grind [R.Ag]
   rename_i tt' l;obtain⟨q1,q2⟩:=LO h h3
   cases w with
   |none=>
    obtain rfl:=R.Aj.1 h2;have ha:a=_:=Pc ha q2;subst ha;simp only[St.whole,q1,M.Aa];rw[M.Ak,M.Ak,M.Ak,M.Ak];refine⟨by trivial,by trivial,by trivial,zsz,?_⟩;rw[M.Ae,M.Dh];refine⟨l,?_,M.Ab ⟨_,rfl,rfl⟩⟩
    grind [MZ,Qb7,LG]
   |some y=>
    obtain⟨lo,n⟩:=y;simp only at h2;rw[R.Ai]at h2;obtain⟨_,h4,h2⟩:=h2;have h4:=R.IW.1 h4;obtain rfl:=R.Aj.1 h2;have ha:a=_:=ha;subst ha;simp only[St.whole,q1,M.Aa];rw[M.Ak,M.Ak,M.Ak,M.Ak];refine⟨by trivial,by trivial,by trivial,zg,?_⟩;rw[M.Ae,M.Dh];refine⟨_,?_,M.Ab ⟨_,rfl,rfl⟩⟩
    rw[MZ,←List.map_drop,←List.map_take]<;>grind [LG]
  ·obtain rfl:=R.Aj.1 h2;have ha:a=_:=ha;subst ha;simp only[St.whole,M.Aa];rw[M.Ak];refine⟨rfl,?_⟩;rw[M.Ae,M.Dh];exact⟨_,LG _,M.Ab ⟨_,rfl,rfl⟩⟩
  ·obtain rfl:=R.Aj.1 h2;have ha:a=_:=ha;subst ha;simp only[St.whole,M.Aa];rw[M.Ae,M.Dh];exact⟨[],rfl,M.Ab ⟨_,rfl,rfl⟩⟩
  grind [R.Ag]
 |slS x lo hi=>
  simp only[Iw]at hx;rw[R.Ai]at hx;obtain⟨c,h1,hx⟩:=hx;simp only[St.BL,M.Aa]
  refine M.Ah (Di h hg' h1) fun a ha=>?_
  unfold Arj at hx;split at hx
  case h_2=>grind [R.Ag]
  rename_i s;have ha:a=_:=ha;subst ha;rw[R.Ai]at hx;obtain⟨⟨l,r⟩,h2,hx⟩:=hx;obtain rfl:=R.Aj.1 hx;obtain⟨b1,b2,b3⟩:=RP h hg h2
  have e:(⟨s.toArray⟩:ByteArray).size=s.length:=by rfl
  simp only[M.Aa,e];refine M.Ah b1 ?_;rintro _ rfl;refine M.Ab ⟨_,rfl,?_⟩;simp only[TC.av,AV.lit.injEq,Value.string.injEq];refine ByteArray.ext ?_
  have key:Zr l r s=(s.take (hiN s.length r)).drop (loN l):=by
   cases l with
   |none=>cases r<;>grind [Zr,loN,hiN]
   |some a=>cases r<;>grind [Zr,loN,hiN]
  grind [Array.toList_inj,ByteArray.data_extract,List.extract_eq_take_drop,Qc6]
 |slK k x lo hi=>
  grind [Iw,R.Ai,AnX,Di]
 |fAddr off x=>
  simp only[Iw]at hx;rw[R.Ai]at hx;obtain⟨c,h1,hx⟩:=hx;simp only[St.BL,M.Aa]
  refine M.Ah (Di h hg' h1) fun a ha=>?_
  unfold AkG at hx;split at hx
  ·obtain rfl:=R.Aj.1 hx;have ha:a=_:=ha;subst ha;exact M.Ab ⟨_,rfl,rfl⟩
  ·obtain rfl:=R.Aj.1 hx;have ha:a=_:=ha;subst ha;exact M.Ab ⟨_,rfl,rfl⟩
  ·obtain rfl:=R.Aj.1 hx;have ha:a=_:=ha;subst ha;exact M.Ab ⟨_,rfl,rfl⟩
  grind [R.Ag]
 |fld agg off n x=>
  simp only[Iw]at hx;rw[R.Ai]at hx;obtain⟨l,h1,hx⟩:=hx;split at hx
  case isFalse=>grind [R.Ag]
  rename_i hc;obtain rfl:=R.Aj.1 hx;simp only[St.BL,M.Aa]
  refine M.Ah (Th h hg' h1) fun s hs=>?_
  grind [Cd,M.Aa,M.Ak,M.Ab,sub_eq,Aho,Jz]
 |ixA k x i=>
  grind [Iw,R.Ai,Am4,K6,Di]
 |ixAr n k x i=>
  simp only[Iw]at hx;rw[R.Ai]at hx;obtain⟨m,h1,hx⟩:=hx;rw[R.Ai]at hx;obtain⟨_,h2,hx⟩:=hx;rw[R.Ai]at hx;obtain⟨c,h3,hx⟩:=hx;have hb:=Cj h2 hg;simp only[St.BL,M.Aa];refine M.Ah (K6 h hg' h1) ?_;rintro _ rfl;rw[M.Ak];refine⟨fun _=>hb,M.Ah (Di h hg' h3) fun a ha=>?_⟩;unfold AoU at hx;split at hx
  ·split at hx
   case isFalse=>grind [R.Ag]
   rename_i hk;obtain rfl:=R.Aj.1 hx;have ha:a=_:=ha;subst ha hk;exact M.Ab ⟨_,rfl,by simp[TC.av]⟩
  ·split at hx
   case isFalse=>grind [R.Ag]
   rename_i hk;obtain rfl:=R.Aj.1 hx;have ha:a=_:=ha;subst ha hk;exact M.Ab ⟨_,rfl,by simp[TC.av]⟩
  grind [R.Ag]
 |ixS x i=>
  simp only[Iw]at hx;rw[R.Ai]at hx;obtain⟨m,h1,hx⟩:=hx;rw[R.Ai]at hx;obtain⟨c,h3,hx⟩:=hx;simp only[St.BL,M.Aa];refine M.Ah (K6 h hg' h1) ?_;rintro _ rfl
  refine M.Ah (Di h hg' h3) fun a ha=>?_
  unfold AqY at hx;split at hx
  case h_2=>grind [R.Ag]
  rename_i s;have ha:a=_:=ha;subst ha;rw[R.Ai]at hx;obtain⟨_,h2,hx⟩:=hx;have hb:=Cj h2 hg;obtain rfl:=R.Aj.1 hx;simp only[M.Aa,M.Ak];refine⟨fun _=>by trivial,M.Ab ⟨_,rfl,by rfl⟩⟩
 |ixV agg n k x i=>
  simp only[Iw]at hx;rw[R.Ai]at hx;obtain⟨m,h1,hx⟩:=hx;rw[R.Ai]at hx;obtain⟨l,h2,hx⟩:=hx;rw[R.Ai]at hx;obtain⟨d,h3,hx⟩:=hx;have h3:=R.Cp.1 h3;split at hx
  case isFalse=>grind [R.Ag]
  rename_i hc;obtain⟨rfl,rfl,hc⟩:=hc;rw[R.Ai]at hx;obtain⟨_,h4,hx⟩:=hx;have hb:=Cj h4 hg;obtain rfl:=R.Aj.1 hx;simp only[St.BL,M.Aa]
  refine M.Ah (K6 h hg' h1) fun x0 e0=>?_
  rw[e0];clear e0 x0
  refine M.Ah (Th h hg' h2) fun s hs=>?_
  obtain⟨as,rfl,ha⟩:=hs;have hlen:=Cd ha;simp only[M.Aa,M.Ak];refine⟨fun _=>hb,zm,M.Ab ?_⟩;rw[sub_eq _ _ _ _ rfl,Nat.mul_one]
  have hlt:m.toNat<n:=zm
  have hsel:=Ur h3 zg;rw[Qb6 hlt]at hsel;obtain⟨a,ha1,ha2⟩:=Jy ha hsel;rw[Abq ha1];exact⟨a,rfl,ha2⟩
 |lenK x=>
  simp only[Iw]at hx;rw[R.Ai]at hx;obtain⟨c,h1,hx⟩:=hx;rw[R.Ai]at hx;obtain⟨d,h2,hx⟩:=hx;obtain rfl:=R.Aj.1 hx;simp only[St.BL,M.Aa]
  refine M.Ah (Di h hg' h1) fun a ha=>?_
  refine M.Ah (Ang h h2 ha) ?_;rintro n rfl;exact M.Ab ⟨_,rfl,rfl⟩
 |lenS x=>
  simp only[Iw]at hx;rw[R.Ai]at hx;obtain⟨c,h1,hx⟩:=hx;simp only[St.BL,M.Aa]
  refine M.Ah (Di h hg' h1) fun a ha=>?_
  unfold AoW at hx;split at hx
  case h_2=>grind [R.Ag]
  rename_i s;have ha:a=_:=ha;subst ha;obtain rfl:=R.Aj.1 hx;exact M.Ab ⟨_,rfl,by rfl⟩
 |lenC n=>
  simp only[Iw]at hx;obtain rfl:=R.Aj.1 hx;exact M.Ab ⟨_,rfl,rfl⟩
 |mm mx x y=>
  simp only[Iw]at hx;rw[R.Ai]at hx;obtain⟨c,h1,hx⟩:=hx;rw[R.Ai]at hx;obtain⟨d,h2,hx⟩:=hx;rw[R.Ai]at hx;obtain⟨r,h3,hx⟩:=hx;obtain rfl:=R.Aj.1 hx;simp only[St.BL,M.Aa]
  refine M.Ah (Di h hg' h1) fun a ha=>?_
  refine M.Ah (Di h hg' h2) fun b hb=>?_
  unfold mmT at h3;split at h3
  case h_2=>grind [R.Ag]
  have ha:a=_:=ha;have hb:b=_:=hb;subst ha hb;obtain rfl:=R.Aj.1 h3;refine M.Ab ⟨_,rfl,?_⟩
  cases mx<;>rfl
 |mkf f caps=>
  simp only[Iw]at hx;rw[R.Ai]at hx;obtain⟨l,h1,hx⟩:=hx;split at hx
  case isFalse=>grind [R.Ag]
  rename_i hf;obtain rfl:=R.Aj.1 hx;simp only[St.BL,M.Aa]
  refine M.Ah (Ach h hg h1) fun as ha=>?_
  rw[M.Ak];exact⟨Ag9 hf ha,M.Ab ⟨as,rfl,ha⟩⟩
 |_=>exact(R.Ag.1 hx).elim
end
end Go.VS
