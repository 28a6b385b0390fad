/- AutomatonClosed, walked on the machine. -/
import Derived.Test.YtopngokkgogolaaProg
import Derived.Test.YtopngokkgogolaaKKY
import Derived.Test.YtopngokkgogolaaKKRW
import Derived.Test.YtopngokkgogolaaKSpL05e
import Derived.Test.YtopngokkgogolaaKSpLaw05
import Derived.Test.YtopngokkgogolaaKSpInts
import Derived.Test.YtopngokkgogolaaFwD
import Derived.WalkSmall
import Derived.Deep.QuietTactic
import Derived.BigQuiet
import Derived.Deep.RegionLaw
set_option linter.unusedVariables false
set_option linter.unusedSimpArgs false
namespace Go.VS
open Go.RowKit Go
theorem Vo{P:Program}(w:World)(base:Nat)(t ty e:TypeId)(i:TypeInfo)(z:Value)(size bytes:Nat)(ht:P.underlying t=some (.slice e))(hi:P.info? e=some i)(hz:i.zero=some z)
  (hsize:i.size=size) (hby:i.bytes=bytes) (hzs:z.cells.size=size) (hsz:0<size)
  (v:Value) (n:Nat) (xs:List Value) (hown:w.ownsRow base e size v n xs)
  (a:Addr) (m c:Nat) (news:List Value) (hl:news.length=m*size) (hnews:∀j u,news[j]?=some u→w.cell? (a.add j)=some u) (h1:∀u∈news,u.oneCell'=true)
  (h63:n+m≤maxLen) (hbytes:(n+m)*bytes≤140737488355328) (hbase:base≤w.heap.size):
  ∃v' w',(Builtin.append_ #[t,t] ty #[v,.slice (some a) m c]).run P w=.ok v' w'∧w'.ownsRow base e size v' (n+m) (xs++news)∧w.grownBy w' v.ownBlock∧w'.ownsRow base e size v n xs:=by
 obtain⟨v',w',hr,h2,h3,_⟩:=run_append_own (P:=P) w base t ty e i z size bytes ht hi hz hsize hby hzs hsz v n xs hown a m c news hl hnews h1 h63 hbytes hbase
 refine⟨v',w',hr,h2,h3,?_⟩
 subst hsize
 subst hby
 have hown0:=hown
 rcases hown.2 with h|⟨g,cap,cur,rfl,hbg,hg,hnc,hcm,hcs,htake⟩
 ·exact⟨hown.1,.inl h⟩
 ·have hsmall:n+m≤9223372036854775807:=by simp only[maxLen]at h63;omega
  by_cases hroom:n+m≤cap
  ·have hfit:n*i.size+news.length≤cur.size:=by rw[hl,hcs,←Nat.add_mul];exact Nat.mul_le_mul_right _ hroom
   have hr2:=run_append_room (P:=P) w t ty e i ht hi g n cap cur hg a m c news hl hnews h1 hroom hfit
   have e2:=hr.symm.trans hr2
   injection e2 with _ e2
   subst e2
   refine⟨hown.1,.inr ⟨g,cap,_,rfl,hbg,setRow_heap w g cur _ e _ hg,hnc,hcm,?_,?_⟩⟩
   ·simp only[List.size_toArray,List.length_append,List.length_take,List.length_drop,Array.length_toList]
    omega
   ·rw[List.toList_toArray,List.append_assoc,List.take_append_of_le_length (by rw[List.length_take,Array.length_toList];omega),List.take_of_length_le (by rw[List.length_take];omega)]
    exact htake
  ·have holds:∀j u,xs[j]?=some u→w.cell? ((⟨g,0,none⟩:Addr).add j)=some u:=hown.cells (g:=g) rfl
   have hr2:=run_append_grow (P:=P) w t ty e i z ht hi hz ⟨g,0,none⟩ n cap xs hown.1 holds a m c news hl hnews (by omega) (by omega) (growslice_fits (by omega) hbytes)
   have e2:=hr.symm.trans hr2
   injection e2 with _ e2
   subst e2
   exact World.ownsRow.alloc (w:=w.drew) hown0 _
end Go.VS
namespace Go.Proofs.Try
open Go.RowKit Go.VS Go
def JG(w:World)(B:Nat)(v:Value)(l:List Int):Prop:=w.ownsRow B 3 1 v l.length (l.map (Value.int .i64))
theorem N0{w:World}{B:Nat}{v:Value}{l:List Int}(h:JG w B v l)(o:Obj):JG (w.alloc o) B v l:=World.ownsRow.alloc h o
theorem Kc{w w':World}{B:Nat}{v:Value}{l:List Int}(h:JG w B v l)(hb:Below w.heap.size w w'):JG w' B v l:=by
 refine⟨h.1,?_⟩
 rcases h.2 with h|⟨g,cap,cur,h1,h2,h3,h4⟩
 ·exact .inl h
 ·have hlt:g<w.heap.size:=(Array.getElem?_eq_some_iff.1 h3).1
  exact .inr ⟨g,cap,cur,h1,h2,(hb.block g hlt).trans h3,h4⟩
theorem Wg(w:World)(B:Nat):JG w B (.slice none 0 0) []:=World.ownsRow_nil _ _ _ _
theorem below_grow{B:Nat}{w0 w w':World}{row:Option Nat}(hB:Below B w0 w)(hg:w.grownBy w' row)(hr:∀i,row=some i→B≤i)(hs:B≤w0.heap.size):Below B w0 w':=
 ⟨hg.os.trans hB.os,hg.tape.trans hB.tape,hg.output.trans hB.output,Nat.le_trans hB.size hg.size,fun i hi=>by
  have hs:=hB.size
  exact(hg.block i (by omega) (fun e1=>by have:=hr i e1.symm;omega)).trans (hB.block i hi)⟩
theorem RA{w:World}{B:Nat}{v:Value}{l:List Int}(h:JG w B v l):∀i,v.ownBlock=some i→B≤i:=fun i hi=>(World.ownsRow.lt h i hi).1
theorem PG(B:Nat){ops:Array Oper}{o:Oper}{a:Act}{w:World}{K:Act→World→Prop}{Q:Exit→Act→World→Prop}{E:Prop}{s x:Operand}{v:Value}{l:List Int}{g:Nat}{p:Int}
  (hgd:o.guard=none) (ho:o.op=.call {callee:=.builtin .append,args:=#[s,x],argTypes:=#[22,22]}) (hs:a.eval s=v) (hown:JG w B v l)
  (hx:a.eval x=.slice (some ⟨g,0,none⟩) 1 1) (hc0:w.cell? ⟨g,0,none⟩=some (.int .i64 p)) (hn:l.length≤100000000) (hB:B≤w.heap.size)
  (h:∀v' w',JG w' B v' (l++[p])→w.grownBy w' v.ownBlock→JG w' B v l→K (a.put o.dst v') w'):
  if Region.wanted o (yielded ops a.tmps)=true then Oper.wp prog o a w K Q else E:=by
 have hw:Region.wanted o (yielded ops a.tmps)=true:=by simp[Region.wanted,hgd]
 rw[if_pos hw]
 obtain⟨i0,hi,hz0,hz1,hz2⟩:=info_parts (P:=prog) (e:=3) (z:=.int .i64 0) (size:=1) (bytes:=8) (by kernel_rfl)
 obtain⟨v',w',hr,h2,h3,h4⟩:=Vo (P:=prog) w B 22 o.type 3 i0 (.int .i64 0) 1 8 underlying22 hi hz0 hz1 hz2 rfl (by decide) v l.length _ hown ⟨g,0,none⟩ 1 1 [.int .i64 p] rfl
  (fun j u hj=>by
   match j,hj with
   |0,hj=>
    have:Value.int .i64 p=u:=by simpa using hj
    subst this
    exact hc0
   |j+1,hj=>simp at hj)
  (fun u hu=>by
   simp only[List.mem_cons,List.not_mem_nil,or_false]at hu
   rcases hu with rfl
   rfl) (by unfold maxLen;omega) (by omega) hB
 unfold Oper.wp execOp
 simp only[ho,resolve,invoke,builtin,Sem.run_bind,Sem.run_pure,Result.andThen_ok,List.map_toArray,List.map_cons,List.map_nil,hs,hx,hr]
 refine h v' w' ?_ h3 h4
 unfold JG
 rw[List.length_append,List.map_append]
 exact h2
abbrev iAV(l:List Int):AV:=.sl .brw 1 (l.map ((BT.int .i64).enc .leaf))
abbrev sAV(l:List State):AV:=.sl .brw Ck.size (l.map (Ck.enc .leaf))
theorem TL(l:List Int):(iAV l).rdo=true:=by simp only[AV.rdo];exact Jh (e:=.int .i64) (fun x=>rfl) l
theorem XL(l:List State):(sAV l).rdo=true:=by simp only[AV.rdo];exact Jh (fun x=>MZ Ck _ rfl x) l
def Rd(w:World)(v:Value)(l:List Int):Prop:=∀C:Ctx,(∀b,b<w.heap.size→C.zb b∧C.zt b)→RV C w (iAV l) v []
def Si(w:World)(v:Value)(l:List State):Prop:=∀C:Ctx,(∀b,b<w.heap.size→C.zb b∧C.zt b)→RV C w (sAV l) v []
theorem Rd.below{w W:World}{v:Value}{l:List Int}(h:Rd w v l)(hB:Below w.heap.size w W):Rd W v l:=fun C hC=>RV.reads (fun b hb=>hC b (Nat.lt_of_lt_of_le hb hB.size)) (fun b hb=>hB.block b hb) (h C fun b hb=>hC b (Nat.lt_of_lt_of_le hb hB.size)) (TL l)
theorem Si.below{w W:World}{v:Value}{l:List State}(h:Si w v l)(hB:Below w.heap.size w W):Si W v l:=fun C hC=>RV.reads (fun b hb=>hC b (Nat.lt_of_lt_of_le hb hB.size)) (fun b hb=>hB.block b hb) (h C fun b hb=>hC b (Nat.lt_of_lt_of_le hb hB.size)) (XL l)
structure OC(w:World)(a:Option Addr)(l:List Int):Prop where
 at_:∀(k:Nat) (x:Int),l[k]?=some x→∃b off,a=some ⟨b,off,none⟩∧b<w.heap.size∧w.cell? ⟨b,off+k,none⟩=some (.int .i64 x)
theorem OC.below{w w':World}{a:Option Addr}{l:List Int}(h:OC w a l)(hb:Below w.heap.size w w'):OC w' a l:=
 ⟨fun k x hk=>by
  obtain⟨b,off,h1,h2,h3⟩:=h.at_ k x hk
  exact⟨b,off,h1,Nat.lt_of_lt_of_le h2 hb.size,(hb.cell (p:=⟨b,off+k,none⟩) h2).trans h3⟩⟩
theorem NH{C:Ctx}{w:World}{l:List Int}{v:Value}{f:List Nat}(h:RV C w (iAV l) v f):∃a c,v=.slice a l.length c∧OC w a l:=by
 obtain⟨a,c,hv,hat⟩:=QV (t:=.int .i64) rfl h
 refine⟨a,c,hv,⟨fun k x hx=>?_⟩⟩
 obtain⟨b,off,h1,h2,h3⟩:=hat k x hx
 exact⟨b,off,h1,h2,by have:=h3 0 (.int .i64 x) rfl;rw[show k*(BT.int IntKind.i64).size+0=k by show k*1+0=k;omega]at this;exact this⟩
theorem Rd.at{w:World}{v:Value}{l:List Int}(h:Rd w v l):∃a c,v=.slice a l.length c∧OC w a l:=NH (h (hctx prog fun _=>True) fun _ _=>⟨trivial,trivial⟩)
theorem Si.at{w:World}{v:Value}{l:List State}(h:Si w v l):∃a c,v=.slice a l.length c:=by
 have h:=h (hctx prog fun _=>True) fun _ _=>⟨trivial,trivial⟩
 rcases XK h with⟨hn,a,c,rfl⟩|⟨b,off,c,rfl,_⟩
 ·have hn:l=[]:=List.map_eq_nil_iff.1 hn
  subst hn
  exact⟨a,c,rfl⟩
 ·exact⟨some ⟨b,off,none⟩,c,by rw[List.length_map]⟩
theorem Xt(l:List Int):l.map (Value.int .i64)=(l.map (BT.int .i64).fl).flatten:=by
 induction l with
 |nil=>rfl
 |cons x l ih=>rw[List.map_cons,List.map_cons,List.flatten_cons,ih];rfl
theorem Jg{w:World}{B:Nat}{v:Value}{l:List Int}(h:JG w B v l):Rd w v l:=fun C hC=>by
 have hrow:w.ownsRow B 3 (BT.int .i64).size v l.length (l.map (BT.int .i64).fl).flatten:=by
  rw[←Xt]
  exact h
 exact(UY (t:=.int .i64) rfl hrow).1 C fun b _ hb=>(hC b hb).1
theorem MF{t:BT}(ht:t.flat=true){C:Ctx}{w:World}{l:List t.D}{v:Value}{f:List Nat}(h:RV C w (.sl .own t.size (l.map (t.enc .leaf))) v f){W:World}(hW:∀b∈f,b<w.heap.size→W.heap[b]?=w.heap[b]?){C':Ctx}(hz:∀b,b<w.heap.size→C'.zb b):RV C' W (.sl .brw t.size (l.map (t.enc .leaf))) v []:=by
 generalize ha:AV.sl .own t.size (l.map (t.enc .leaf))=q at h
 cases h with
 |own k' xs' b off cap cs e f' hb hs hc hm hk hr=>
  simp only[AV.sl.injEq]at ha
  obtain⟨_,rfl,rfl⟩:=ha
  have hlt:b<w.heap.size:=(Array.getElem?_eq_some_iff.1 hb).1
  have hcell:∀u∈(l.map t.fl).flatten,u.oneCell'=true:=fun u hu=>by
   obtain⟨m,hm,hu⟩:=List.mem_flatten.1 hu
   obtain⟨x,_,rfl⟩:=List.mem_map.1 hm
   exact I9 t x u hu
  refine .shr .brw _ _ b off cap cs e (0,0) (by decide) (hz b hlt) (fun h=>nomatch h) ((hW b (by simp) hlt).trans hb) (Nat.le_trans (Nat.add_le_add_left (Nat.mul_le_mul_right _ hc) _) hs) hc hk ?_
  rw[P1 ht]at hr⊢
  rw[MH hr]
  exact Lt hcell
 |shr τ k' xs' b' off' cap cs e fz ht z hi hb hs hc hk hr=>simp only[AV.sl.injEq]at ha;exact absurd ha.1.symm ht
 |slNil τ k'=>
  simp only[AV.sl.injEq,List.map_eq_nil_iff]at ha
  obtain⟨_,rfl,hn⟩:=ha
  rw[hn]
  exact .slNil _ _
 |shrE τ k' a cap ht=>simp only[AV.sl.injEq]at ha;exact absurd ha.1.symm ht
 |_=>cases ha
def RdB(B:Nat)(w:World)(v:Value)(l:List Int):Prop:=∀W:World,(∀b,B≤b→b<w.heap.size→W.heap[b]?=w.heap[b]?)→w.heap.size≤W.heap.size→Rd W v l
theorem RdB.rd{B:Nat}{w:World}{v:Value}{l:List Int}(h:RdB B w v l):Rd w v l:=h w (fun _ _ _=>rfl) (Nat.le_refl _)
def NR(n:Int)(l:List Int)(k:Nat):List Int:=(l.take k).map fun x=>CU x n
theorem UM{n:Int}{l:List Int}{k:Nat}(h:k<l.length):NR n l (k+1)=NR n l k++[CU l[k] n]:=by
 unfold NR
 rw[List.take_add_one,List.getElem?_eq_getElem h,List.map_append]
 rfl
theorem Xy{n:Int}(h0:1≤n)(h1:n≤9223372036854775807)(l:List Int)(k:Nat):∀x∈NR n l k,0≤x∧x<n:=by
 intro x hx
 obtain⟨y,_,rfl⟩:=List.mem_map.1 hx
 exact C8 h0 h1
theorem PZ{a:Auto}{fs:List Int}{st en:Bool}{l:List Int}(h:Dt a fs st en l):(∀k∈l,0≤k∧k<(a.1.length:Int))∧l.length≤a.1.length:=by
 refine⟨fun k hk=>?_,?_⟩
 ·obtain⟨i,h1,rfl,_⟩:=(MY h k).1 hk
  omega
 ·obtain⟨out,_,_,rfl⟩:=h
  exact QL _ _
theorem Pj(l:List Int)(x:Int)(hx:x∈l)(a:Option Addr)(c:Nat)(w:World)(hl:l.length≤1000000)(hv:OC w a l):Calls prog 9 #[.slice a l.length c,.int .i64 x] w fun e w'=>e=.returned (.bool true)∧w'=w:=by
 go_enter func9,ntmps9
 go_wp2
 go_loopw [5] (fun i wr=>∃k:Nat,k≤l.length∧i=.int .i64 k∧x∈l.drop k∧wr=w) (fun i _=>l.length -(Lib.intOf i).toNat)
 case atStart=>exact⟨0,Nat.zero_le _,rfl,hx,rfl⟩
 case round=>
  obtain⟨k,hk,hi,hd,hw⟩:=hrel
  subst hi hw
  by_cases hks:k<l.length
  ·obtain⟨b,off,rfl,_,c0⟩:=hv.at_ k l[k] (List.getElem?_eq_getElem hks)
   rw[List.drop_eq_getElem_cons hks,List.mem_cons]at hd
   generalize l[k]=y at c0 hd
   clear hx hv
   by_cases hxy:y=x
   ·subst hxy
    go_wp2
    go_ret
    first|exact⟨rfl,rfl⟩|rfl
   ·have hd:x∈l.drop (k+1):=hd.resolve_left fun h=>hxy h.symm
    have hne:¬(y:Int)=x:=hxy
    go_wp2
    go_roundw
    case rel=>exact⟨k+1,by omega,by simp,by simpa using hd⟩
    case measure=>simp only[Lib.intOf];omega
  ·rw[List.drop_of_length_le (by omega)]at hd
   cases hd
theorem OC.draws{w:World}{a:Option Addr}{l:List Int}(h:OC w a l)(n:Nat):OC (w.drewN n) a l:=⟨h.at_⟩
theorem QN(w:World)(n:Nat):Below w.heap.size w (w.drewN n):=⟨rfl,rfl,rfl,Nat.le_refl _,fun _ _=>rfl⟩
set_option maxHeartbeats 4000000 in
set_option maxRecDepth 1000000 in
theorem P0(fr:List Int)(rl:Nat)(n more:Int)(st en:Bool)(pr pf:Option Addr)(cr cf:Nat)(w:World)(a:Auto)(hfr:fr.length≤8)(hva:Valid a)(hfa:OC w pf fr)
  (hmade:Calls prog 5 #[.slice pr rl cr,.int .i64 n] w fun e w'=>Below w.heap.size w w'∧∃v,e=.returned (.agg #[v,.int .i64 a.2])∧Si w' v a.1)
  (hclo:∀W v vl l st en,Below w.heap.size w W→Si W v a.1→Rd W vl l→(∀k∈l,0≤k∧k<(a.1.length:Int))→l.length≤1000000→Calls prog 7 #[.agg #[v,.int .i64 a.2],vl,.bool st,.bool en] W fun e w'=>∃v' d,Dt a l st en d∧e=.returned (.tuple #[v',.int .i64 0])∧Below W.heap.size W w'∧RdB W.heap.size w' v' d)
  (hmod:∀W x,Below w.heap.size w W→Calls prog 6 #[.int .i64 x,.int .i64 a.1.length] W fun e w'=>e=.returned (.int .i64 (CU x a.1.length))∧Below W.heap.size W w')
  (hints:∀W v1 v2 l,Below w.heap.size w W→Rd W v1 l→Rd W v2 l→l.length≤1000000→Calls prog 8 #[v1,v2] W fun e w'=>e=.returned (.bool true)∧Below W.heap.size W w')
  (hawk:∀W,Below w.heap.size w W→Calls prog 4 #[] W fun e w'=>e=.returned (.bool true)∧Below W.heap.size W w'):
  Calls prog 3 #[.slice pr rl cr,.int .i64 n,.slice pf fr.length cf,.int .i64 more,.bool st,.bool en] w fun e w'=>e=.returned (.bool true)∧Below w.heap.size w w':=by
 have hlo:=hva.lo
 have hhi:=hva.hi
 have hgt:¬(fr.length:Int)>8:=by omega
 go_enter func3,ntmps3
 go_wp2_with (go_at_call 5;refine hmade.mono ?_;rintro e w1 ⟨hB1,v,rfl,hS1⟩;obtain⟨sa,sc,rfl⟩:=hS1.at)
 generalize hBt:w1.heap.size=Bt at*
 have hw2:(w1.alloc (.cells #[.slice sa a.1.length sc,.int .i64 a.2] 26)).heap.size=Bt+1:=by simp[hBt]
 have hBB:Below w.heap.size w (w1.alloc (.cells #[.slice sa a.1.length sc,.int .i64 a.2] 26)):=hB1.alloc hB1.size _
 have hA0:(w1.alloc (.cells #[.slice sa a.1.length sc,.int .i64 a.2] 26)).cell? ⟨Bt,0,none⟩=some (.slice sa a.1.length sc):=by rw[←hBt];simp
 have hA1:(w1.alloc (.cells #[.slice sa a.1.length sc,.int .i64 a.2] 26)).cell? ⟨Bt,1,none⟩=some (.int .i64 a.2):=by rw[←hBt];simp
 have hS2:=hS1.below ((Below.refl _ w1).alloc (Nat.le_refl _) (.cells #[.slice sa a.1.length sc,.int .i64 a.2] 26))
 generalize(w1.alloc (.cells #[.slice sa a.1.length sc,.int .i64 a.2] 26))=w2 at*
 have hf2:=hfa.below hBB
 clear hB1 hS1 hBt hmade
 go_loopw [14,15] (fun v i wr=>∃k:Nat,k≤fr.length∧i=.int .i64 k∧JG wr w2.heap.size v (NR a.1.length fr k)∧Below w2.heap.size w2 wr) (fun _ i _=>fr.length -(Lib.intOf i).toNat)
 case atStart=>exact⟨0,Nat.zero_le _,rfl,Wg _ _,Below.refl _ _⟩
 case round=>
  obtain⟨k,hk,hi,hown,hB⟩:=hrel
  subst hi
  have hsz:=hB.size
  by_cases hks:k<fr.length
  ·obtain⟨bf,off,rfl,lf,q0⟩:=hf2.at_ k fr[k] (List.getElem?_eq_getElem hks)
   have c0:=(hB.cell (p:=⟨bf,off+k,none⟩) lf).trans q0
   have c1:=(hB.cell (p:=⟨Bt,0,none⟩) (by simp;omega)).trans hA0
   have hnx:=UM (n:=a.1.length) hks
   have hln:(NR (a.1.length:Int) fr k).length≤8:=by unfold NR;rw[List.length_map,List.length_take];omega
   generalize NR (a.1.length:Int) fr k=L at hown hnx hln
   have hm:=hmod wr.drew fr[k] (hBB.trans (hB.drew.mono hBB.size))
   generalize fr[k]=x at c0 hnx hm
   clear q0 hclo hints hawk hf2 hfa hS2 hva hA0 hA1
   go_wp2_with fail
   go_region_law (first|(go_simp;go_at_call 6;refine hm.mono ?_;rintro e w4 ⟨rfl,hB4⟩;have hB5:=(hB.drew.trans (hB4.mono hsz)).alloc (Nat.le_trans hsz hB4.size) (.cells #[.int .i64 (CU x a.1.length)] 3);have hown5:JG (w4.alloc (.cells #[.int .i64 (CU x a.1.length)] 3)) w2.heap.size u14 L:=N0 (Kc (w:=wr.drew) hown hB4) _)|(refine PG w2.heap.size (p:=CU x a.1.length) (l:=L) (v:=u14) (g:=w4.heap.size) (by rfl) (by rfl) (by rfl) hown5 (by rfl) (by simp) (by omega) hB5.size ?_;intro v6 w6 hown6 hg6 hown6b))
   all_goals
    rw[←hnx]at hown6
    have hB6:=below_grow hB5 hg6 (RA hown5) (Nat.le_refl _)
    go_wp2
    go_roundw
   all_goals first|exact⟨k+1,by omega,by simp,hown6,hB6⟩|(simp only[Lib.intOf];omega)
  ·have hke:k=fr.length:=by omega
   subst hke
   have hLin:=Xy (n:=(a.1.length:Int)) (by omega) (by omega) fr fr.length
   have hLl:(NR (a.1.length:Int) fr fr.length).length≤8:=by unfold NR;rw[List.length_map,List.length_take];omega
   generalize NR (a.1.length:Int) fr fr.length=L at hown hLin hLl
   obtain⟨al,cl,rfl,hIL⟩:=(Jg hown).at
   have hBr:=hBB.trans (hB.mono hBB.size)
   have c0:=(hB.cell (p:=⟨Bt,0,none⟩) (by simp;omega)).trans hA0
   have c1:=(hB.cell (p:=⟨Bt,1,none⟩) (by simp;omega)).trans hA1
   have hSr:=hS2.below hB
   have hc1:=hclo wr _ _ L st en hBr hSr (Jg hown) hLin (by omega)
   have hc2:=fun W vx X (hB5:Below wr.heap.size wr W) (hX:Dt a L st en X) (hR:Rd W vx X)=>hclo W _ vx X st en (hBr.trans (hB5.mono hBr.size)) (hSr.below hB5) hR (PZ hX).1 (Nat.le_trans (PZ hX).2 (by omega))
   have honce:True:=trivial
   clear hf2 hfa
   go_wp2_with (first|(go_at_call 7;have hx:=honce;clear hx honce;refine hc1.mono ?_;rintro e w5 ⟨vx,X,hX,rfl,hB5,hRX⟩;have d0:=(hB5.cell (p:=⟨Bt,0,none⟩) (by simp;omega)).trans c0;have d1:=(hB5.cell (p:=⟨Bt,1,none⟩) (by simp;omega)).trans c1)|(go_at_call 7;refine(hc2 w5 vx X hB5 hX hRX.rd).mono ?_;rintro e w7 ⟨vy,Y,hY,rfl,hB7,hRY⟩))
   have hYX:=VI hX hY
   subst hYX
   have hB07:=hB5.trans (hB7.mono hB5.size)
   have hown7:JG w7.drew w2.heap.size (.slice al L.length cl) L:=Kc (w:=wr) hown hB07.drew
   have e0:w7.drew.cell? ⟨Bt,0,none⟩=some (.slice sa a.1.length sc):=(hB7.drew.cell (p:=⟨Bt,0,none⟩) (by have:=hB5.size;simp;omega)).trans d0
   have e1:w7.drew.cell? ⟨Bt,1,none⟩=some (.int .i64 a.2):=(hB7.drew.cell (p:=⟨Bt,1,none⟩) (by have:=hB5.size;simp;omega)).trans d1
   have hsz7:w2.heap.size≤w7.heap.size:=Nat.le_trans hsz hB07.size
   have hm:=hmod w7.drew more (hBr.trans (hB07.drew.mono hBr.size))
   have hp:=C8 (a:=more) (n:=(a.1.length:Int)) (by omega) (by omega)
   generalize CU more (a.1.length:Int)=p at hm hp
   have hLp:∀k∈L++[p],0≤k∧k<(a.1.length:Int):=fun k hk=>by
    rcases List.mem_append.1 hk with hk|hk
    ·exact hLin k hk
    ·rw[List.mem_singleton.1 hk];exact hp
   have hLpl:(L++[p]).length≤1000000:=by rw[List.length_append];simp;omega
   have hB27:=hB.trans (hB07.drew.mono hsz)
   clear hc1 hc2 hmod d0 d1 c0 c1 hY
   go_region_law (first|(go_simp;go_at_call 6;refine hm.mono ?_;rintro e w4 ⟨rfl,hB4⟩;have hB24:=(hB27.trans (hB4.mono hsz7)).alloc (Nat.le_trans hsz7 hB4.size) (.cells #[.int .i64 p] 3);have hown5:JG (w4.alloc (.cells #[.int .i64 p] 3)) w2.heap.size (.slice al L.length cl) L:=N0 (Kc (w:=w7.drew) hown7 hB4) _;have f0:=(hB4.cell (p:=⟨Bt,0,none⟩) (by simp;omega)).trans e0;have f1:=(hB4.cell (p:=⟨Bt,1,none⟩) (by simp;omega)).trans e1;have g0:=(((Below.refl _ w4).alloc (Nat.le_refl _) (.cells #[.int .i64 p] 3)).cell (p:=⟨Bt,0,none⟩) (by have:=hB4.size;simp at*;omega)).trans f0;have g1:=(((Below.refl _ w4).alloc (Nat.le_refl _) (.cells #[.int .i64 p] 3)).cell (p:=⟨Bt,1,none⟩) (by have:=hB4.size;simp at*;omega)).trans f1)|(refine PG w2.heap.size (p:=p) (l:=L) (v:=.slice al L.length cl) (g:=w4.heap.size) (by rfl) (by rfl) (by rfl) hown5 (by rfl) (by simp) (by omega) hB24.size ?_;intro v6 w6 hown6 hg6 hown6b;have hB26:=below_grow hB24 hg6 (RA hown5) (Nat.le_refl _);have k0:=(hB26.cell (p:=⟨Bt,0,none⟩) (by simp;omega)).trans hA0;have k1:=(hB26.cell (p:=⟨Bt,1,none⟩) (by simp;omega)).trans hA1)|(go_simp;go_at_call 7;refine(hclo w6 _ v6 (L++[p]) true true (hBB.trans (hB26.mono hBB.size)) (hS2.below hB26) (Jg hown6) hLp hLpl).mono ?_;rintro e w8 ⟨vz,Z,hZ,rfl,hB8,hRZ⟩))
   all_goals
    have hB28:=hB26.trans (hB8.mono hB26.size)
    have hB08:=hBB.trans (hB28.mono hBB.size)
    have hkeep:∀b,wr.heap.size≤b→b<w7.heap.size→w8.heap[b]?=w7.heap[b]?:=fun b h1 h2=>by
     have h3:b<w4.heap.size:=Nat.lt_of_lt_of_le h2 hB4.size
     have h4:b<(w4.alloc (.cells #[.int .i64 p] 3)).heap.size:=by simp;omega
     have h5:b<w6.heap.size:=Nat.lt_of_lt_of_le h4 hg6.size
     refine(hB8.block b h5).trans ((hg6.block b h4 fun e1=>?_).trans ((Below.heap_alloc w4 _ b h3).trans (hB4.block b h2)))
     have:=(World.ownsRow.lt hown b e1.symm).2
     omega
    have hRX8:Rd w8 vx Y:=hRX w8 (fun b h1 h2=>(hkeep b h1 (Nat.lt_of_lt_of_le h2 hB7.size)).trans (hB7.block b h2)) (Nat.le_trans hB7.size (Nat.le_trans hB4.size (Nat.le_trans (by simp) (Nat.le_trans hg6.size hB8.size))))
    have hRY8:Rd w8 vy Y:=hRY w8 (fun b h1 h2=>hkeep b (Nat.le_trans hB5.size h1) h2) (Nat.le_trans hB4.size (Nat.le_trans (by simp) (Nat.le_trans hg6.size hB8.size)))
    obtain⟨a9,c9,he,hIL8⟩:=((Jg hown6b).below hB8).at
    cases he
    obtain⟨ax,cx,rfl,hIX8⟩:=hRX8.at
    have hYl:=(PZ hX).2
    have hit:=hints w8 _ _ Y hB08 hRX8 hRY8 (by omega)
    obtain⟨az,cz,rfl,hIZ8⟩:=hRZ.rd.at
    have hh1:=fun W k (hW:Below w8.heap.size w8 W) (hk:k<L.length)=>Pj Y L[k] (VK hX (List.getElem_mem hk) (hLin _ (List.getElem_mem hk)).1 (hLin _ (List.getElem_mem hk)).2) ax cx W (by omega) (hIX8.below hW)
    have hh2:=fun W k (hW:Below w8.heap.size w8 W) (hk:k<Y.length)=>Pj Z Y[k] (VJ hX hZ (fun q hq=>List.mem_append_left _ hq) (List.getElem_mem hk)) az cz W (by have:=(PZ hZ).2;omega) (hIZ8.below hW)
    have hasc:=Xo hX
    clear hkeep hRY8 hRY hRX hRX8 hRZ hown6b hown6 hg6 k0 k1 f0 f1 g0 g1 hown5 hB24 hB4 hB27 hm hown7 e0 e1 hB7 hB5 hS2 hA0 hA1 hclo hints hIZ8 hB26 hB8 hLp hLpl
    go_wp2_with (go_at_call 8;refine hit.mono ?_;rintro e w9 ⟨rfl,hB9⟩)
    go_loopw [22] (fun i wq=>∃k:Nat,k≤L.length∧i=.int .i64 k∧Below w8.heap.size w8 wq) (fun i _=>L.length -(Lib.intOf i).toNat)
    case atStart=>exact⟨0,Nat.zero_le _,rfl,hB9⟩
    case round=>
     clear hB9 hit
     obtain⟨k,hk,hi,hBq⟩:=hrel
     subst hi
     by_cases hks:k<L.length
     ·obtain⟨bf,off,rfl,lf,q0⟩:=hIL8.at_ k L[k] (List.getElem?_eq_getElem hks)
      have c0:=(hBq.cell (p:=⟨bf,off+k,none⟩) lf).trans q0
      have hh:=hh1 wr k hBq hks
      generalize L[k]=x at c0 hh
      clear hh1 hh2 hIX8 hIL8 q0 hawk hLin hp hZ hX hIL
      go_wp2_with (go_at_call 9;refine hh.mono ?_;rintro e wA ⟨rfl,rfl⟩)
      go_roundw
      case rel=>exact⟨k+1,by omega,by simp,hBq⟩
      case measure=>simp only[Lib.intOf];omega
     ·have hke:k=L.length:=by omega
      subst hke
      go_wp2
      go_loopw [23] (fun i wr=>∃k:Nat,k≤Y.length∧i=.int .i64 k∧Below w8.heap.size w8 wr) (fun i _=>Y.length -(Lib.intOf i).toNat)
      case atStart=>exact⟨0,Nat.zero_le _,rfl,hBq⟩
      case round=>
       clear hBq
       obtain⟨k,hk,hi,hBq⟩:=hrel
       subst hi
       by_cases hks:k<Y.length
       ·obtain⟨bf,off,rfl,lf,q0⟩:=hIX8.at_ k Y[k] (List.getElem?_eq_getElem hks)
        have c0:=(hBq.cell (p:=⟨bf,off+k,none⟩) lf).trans q0
        have hbn:∀n,Below w8.heap.size w8 (wr.drewN n):=fun n=>hBq.trans ((QN wr n).mono hBq.size)
        have hh:=fun n=>hh2 (wr.drewN n) k (hbn n) hks
        cases k with
        |zero=>
         rw[Nat.add_zero]at c0
         generalize Y[0]=x at c0 hh
         clear hh1 hh2 hIX8 hIL8 q0 hawk hLin hp hZ hX hIL hasc
         go_wp2_with fail
         go_quiet ((go_at_call 9;exact Calls.quiet_of_same (hh _)))
         go_wp2
         go_roundw
         case rel=>exact⟨1,by omega,by simp,hbn _⟩
         case measure=>simp only[Lib.intOf];omega
        |succ m=>
         obtain⟨bf',off',he,lf',q1⟩:=hIX8.at_ m Y[m] (List.getElem?_eq_getElem (by omega))
         cases he
         have c1:=(hBq.cell (p:=⟨bf,off+m,none⟩) lf').trans q1
         have hlt:Y[m]<Y[m+1]:=(List.pairwise_iff_getElem.1 hasc) m (m+1) (by omega) hks (by omega)
         have hwr:IntKind.i64.wrap (((m+1:Nat):Int) -1)=(m:Int):=by rw[w64 (by omega) (by omega)];omega
         have hwr2:IntKind.i64.wrap ((m:Int)+1 -1)=(m:Int):=by rw[w64 (by omega) (by omega)];omega
         generalize Y[m+1]=x at c0 hh hlt
         generalize Y[m]=y at c1 hlt
         clear hh1 hh2 hIX8 hIL8 q0 q1 hawk hLin hp hZ hX hIL hasc
         have hnl:¬x≤y:=by omega
         have hm0:((m+1:Nat):Int)>0:=by omega
         go_wp2_with fail
         go_quiet ((go_at_call 9;exact Calls.quiet_of_same (hh _)))
         go_wp2
         go_roundw
         case rel=>exact⟨m+1+1,by omega,by simp,hbn _⟩
         case measure=>simp only[Lib.intOf];omega
       ·have hke:k=Y.length:=by omega
        subst hke
        have hak:=hawk _ (hB08.trans (hBq.mono hB08.size))
        go_wp2_with (go_at_call 4;refine hak.mono ?_;rintro e wA ⟨rfl,hBA⟩)
        go_ret
        refine⟨rfl,?_⟩
        exact(hB08.trans (hBq.mono hB08.size)).trans (hBA.mono (Nat.le_trans hB08.size hBq.size))
set_option maxHeartbeats 1000000 in
theorem QW(fl rl:Nat)(n more:Int)(st en:Bool)(pr pf:Option Addr)(cr cf:Nat)(w:World)(hfr:8<fl)
  (hawk:Calls prog 4 #[] w fun e w'=>e=.returned (.bool true)∧Below w.heap.size w w'):
  Calls prog 3 #[.slice pr rl cr,.int .i64 n,.slice pf fl cf,.int .i64 more,.bool st,.bool en] w fun e w'=>e=.returned (.bool true)∧Below w.heap.size w w':=by
 have hgt:(fl:Int)>8:=by omega
 go_enter func3,ntmps3
 go_wp2_with (go_at_call 4;refine hawk.mono ?_;rintro e w1 ⟨rfl,hB1⟩)
 go_ret
 exact⟨rfl,hB1⟩
end Go.Proofs.Try
