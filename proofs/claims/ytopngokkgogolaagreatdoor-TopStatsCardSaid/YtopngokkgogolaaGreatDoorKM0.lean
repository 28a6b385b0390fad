/- Contracts of the functions. -/
import Derived.Test.YtopngokkgogolaaGreatDoorKKShelf
import Derived.Test.YtopngokkgogolaaGreatDoorKS0
import Derived.Test.YtopngokkgogolaaGreatDoorFwD
import Derived.WalkSmall
import Derived.Lib.AppendIntMem
import Derived.Lib.IndexBytes
import Derived.Lib.SplitLaws
import Derived.RangeFuncBox
import Derived.RangeFuncLeaves
import Derived.WalkKit
import Derived.OwnWalkIn
import Derived.TacticsInMore
import Derived.LoopNIn
import Derived.LoopIn
import Derived.Maps.StringElems
import Derived.StringKeys
import Derived.Deep.QuietTactic
import Derived.BigQuiet
import Derived.Laws.Cover1
import Derived.Lib.Split
import Derived.Shelf.SlSortCmp.WholeK
import Derived.Sort.OwnSorted
import Derived.Shelf.SlSortCmp.NoneTotal
import Derived.Lib.SlicesCompact
import Derived.ArgAppend
import Derived.Deep.RegionHeld3
import Derived.Deep.DrawnRows
set_option linter.unusedVariables false
set_option linter.unusedSimpArgs false
set_option linter.unusedSectionVars false
set_option maxHeartbeats 4000000
set_option maxRecDepth 1000000
open List renaming getElem?_eq_getElem → Qa0, drop_eq_getElem_cons → Qa2, getD_eq_getElem?_getD → Qa4, length_append → Qa5, mem_cons_self → Qa7, mem_cons_of_mem → Qa8, append_nil → Qb0, getElem?_take_of_lt → Qb1, size_toArray → Qb2, length_cons → Qb3, drop_of_length_le → Qb4, cons_append → Qb6, not_mem_nil → Qb7, nil_append → Qb8, getElem?_map → Qb9, getElem_mem → Qc3, mem_cons → Qc4, getElem?_take_eq_none → Qc5, length_filterMap_le → Qc6, take_length → Qc7, length_take → Qc8, length_drop → Qc9, length_map → Qd0, flatten_append → Qd2, getElem?_append_right → Qd4, flatten_cons → Qd5, getElem?_append_left → Qd6, length_nil → Qd8, map_append → Qe0, take_of_length_le → Qe1, drop_zero → Qe3, count_cons_self → Qe4, map_cons → Qe7
open Nat renaming le_refl → Qa1, zero_le → Qa3, le_trans → Qa9, lt_of_lt_of_le → Qb5, succ_mul → Qc2, zero_add → Qd1, mul_le_mul → Qd3, mul_comm → Qd7, add_mul → Qe2
open Option.some renaming inj → Qa6
open Array renaming getElem?_toList → Qc0, getElem?_modify → Qc1, ext → Qd9, replicate_succ → Qe5, replicate_zero → Qe6, length_toList → Qe8
namespace Go.Proofs.Tryz
open Go.Shelf Go.RowKit Go.VS
theorem Am2:Aay (Pg.of prog):=by
 intro n h0 h1
 refine Fn.Alc (t:=.int .i64) (u:=.str) rfl rfl n (Lib.decDigits n.toNat) rfl fun f fn hf hn=>?_
 have hfi:f=172:=Ec (by kernel_rfl) hf hn;subst hfi;have hfe:=Qa6 (hf.symm.trans func172);subst hfe;refine⟨by kernel_rfl,by kernel_rfl,fun w hw=>?_⟩;have htab:Lib.TabIs prog w "internal/strconv.uint64pow10" .u64 Lib.pow10Tab:=hw.good.tab _ (List.mem_singleton.2 rfl) (by kernel_rfl);refine(Tryz.strconv_Itoa n (by omega) (by omega) w htab).mono ?_
 rintro e w' ⟨he,k,os,rfl⟩;refine⟨?_,?_⟩
 ·rw[he,Lib.itoa,if_neg zm];rfl
 ·exact Lib.below_grow _ w (Qa1 _) k os
end Go.Proofs.Tryz
namespace Go.Proofs.Tryz
open Go.Shelf Go.RowKit Go.VS
theorem Afg(kp:Value→Prop):G7 ⟨prog,kp⟩:=by
 intro s
 refine Fn.PK (S:=Ds) rfl rfl (s,[10]) ((s.count 10:Nat):Int) () rfl fun f fn hf hn=>?_
 have hfi:f=186:=Ec (P:=⟨prog,kp⟩) zk hf hn;subst hfi;have hfe:=Qa6 (hf.symm.trans func186);subst hfe;refine⟨zk,zk,fun w hw=>?_⟩
 exact(Tryz.strings_Count_one ⟨s.toArray⟩ 10 w).mono fun e w' ⟨he,hw'⟩=>⟨he,by rw[hw'];exact Below.refl _ _⟩
theorem Aek(kp:Value→Prop):FP ⟨prog,kp⟩:=by
 intro s hs
 refine Fn.PK (S:=CF) rfl rfl (s,[10]) (RW s) () rfl fun f fn hf hn=>?_
 have hfi:f=177:=Ec (P:=⟨prog,kp⟩) zk hf hn;subst hfi;have hfe:=Qa6 (hf.symm.trans func177);subst hfe;refine⟨zk,zk,fun w hw=>?_⟩
 exact(Tryz.strings_HasSuffix ⟨s.toArray⟩ ⟨#[10]⟩ w (by simp[ByteArray.size];omega)).mono fun e w' ⟨he,hw'⟩=>⟨he,by rw[hw'];exact Below.refl _ _⟩
theorem AjA(kp:Value→Prop):JM ⟨prog,kp⟩:=by
 intro s hs
 refine Fn.PK (S:=Dc) rfl rfl (s,[10]) (AgY s) () rfl fun f fn hf hn=>?_
 have hfi:f=184:=Ec (P:=⟨prog,kp⟩) zk hf hn;subst hfi;have hfe:=Qa6 (hf.symm.trans func184);subst hfe;refine⟨zk,zk,fun w hw=>?_⟩
 exact(Tryz.strings_TrimSuffix ⟨s.toArray⟩ ⟨#[10]⟩ w (by simp[ByteArray.size];omega)).mono fun e w' ⟨he,hw'⟩=>⟨he,by rw[hw'];exact Below.refl _ _⟩
theorem Sr:∀(l r:Bs),(∀b∈l,b≠10)→Lib.indexByte (l++10::r) 10=(l.length:Int)
 |[],r,h=>by simp[Lib.indexByte]
 |b::l,r,h=>by
  rw[Qb6,Lib.indexByte,if_neg (by simpa using h b (Qa7 ..)),Sr l r fun c hc=>h c (Qa8 _ hc)];rw[if_neg zsz];simp
theorem Abb:∀(l:Bs),(∀b∈l,b≠10)→Lib.indexByte l 10=-1
 |[],h=>rfl
 |b::l,h=>by
  rw[Lib.indexByte,if_neg (by simpa using h b (Qa7 ..)),Abb l fun c hc=>h c (Qa8 _ hc)];rfl
theorem Ad3:∀(l acc r:Bs),(∀b∈l,b≠10)→saN acc (l++10::r)=(acc++(l++[10]))::saN [] r
 |[],acc,r,h=>by rw[Qb8,saN,if_pos rfl];rfl
 |b::l,acc,r,h=>by
  rw[Qb6,saN,if_neg (h b (Qa7 ..)),Ad3 l _ r fun c hc=>h c (Qa8 _ hc)];simp
theorem AlC:∀(l acc:Bs),(∀b∈l,b≠10)→saN acc l=[acc++l]
 |[],acc,h=>by simp[saN]
 |b::l,acc,h=>by
  rw[saN,if_neg (h b (Qa7 ..)),AlC l _ fun c hc=>h c (Qa8 _ hc)];simp
theorem AoO:∀s:Bs,(∀b∈s,b≠10)∨∃l r,s=l++10::r∧∀b∈l,b≠10
 |[]=>.inl zsz
 |b::s=>by
  by_cases hb:b=10
  ·subst hb;exact .inr ⟨[],s,rfl,zsz⟩
  ·rcases AoO s with h|⟨l,r,rfl,h⟩
   ·refine .inl fun c hc=>?_
    rcases List.mem_cons.1 hc with rfl|hc
    ·exact hb
    ·exact h c hc
   ·refine .inr ⟨b::l,r,rfl,fun c hc=>?_⟩
    rcases List.mem_cons.1 hc with rfl|hc
    ·exact hb
    ·exact h c hc
theorem Ajs:∀(k:Nat) (s:Bs),s.count 10=k→Lib.splitK [10] 1 k s=saF s:=by
 intro k
 induction k with
 |zero=>
  intro s h
  have h:∀b∈s,b≠10:=fun b hb e=>by subst e;exact List.count_eq_zero.1 h hb
  unfold saF;rw[AlC s [] h];rfl
 |succ k ih=>
  intro s h
  rcases AoO s with hn|⟨l,r,rfl,hl⟩
  ·rw[List.count_eq_zero.2 fun hb=>hn 10 hb rfl]at h;cases h
  ·have e1:Lib.index (l++10::r) [10]=(l.length:Int):=by rw[Lib.index_one,Sr l r hl]
   have hc:r.count 10=k:=by
    rw[List.count_append,Qe4,List.count_eq_zero.2 fun hb=>hl 10 hb rfl]at h;omega
   unfold saF;rw[Ad3 l [] r hl,Lib.splitK,e1,if_neg zsz]
   have e2:((l.length:Int)).toNat=l.length:=zm
   rw[e2]
   have e3:List.take (l.length+1) (l++10::r)=l++[10]:=by
    rw[show l++10::r=(l++[10])++r by simp,List.take_append_of_le_length zsz,Qe1 zsz]
   have e4:List.drop (l.length+([10]:Bs).length) (l++10::r)=r:=by
    rw[show l++10::r=(l++[10])++r by simp,show l.length+([10]:Bs).length=(l++[10]).length by simp,List.drop_left]
   rw[e3,e4,ih r hc];rfl
theorem Ad2{C:Ctx}{w:World}:∀(l:List ByteArray),RVs C w ((l.map (·.data.toList)).map (BT.str.enc .leaf)).flatten (l.map Value.string) []
 |[]=>.nil
 |s::l=>by
  have h:=Ad2 (C:=C) (w:=w) l
  have e:(⟨s.data.toList.toArray⟩:ByteArray)=s:=by cases s;simp
  have h1:RV C w (.lit (.string ⟨s.data.toList.toArray⟩)) (.string s) []:=by rw[e];exact .lit _ rfl
  exact .cons _ _ [] _ _ [] h1 h
theorem Zn(kp:Value→Prop):Du ⟨prog,kp⟩:=by
 intro s hs
 refine Fn.ApJ (ps:=[.val false .str .leaf,.val false .str .leaf]) (t:=.str) (tt:=.node .own .leaf) rfl rfl (s,[10]) (saF s) () rfl fun f fn hf hn=>?_
 have hfi:f=119:=Ec (P:=⟨prog,kp⟩) zk hf hn;subst hfi;have hfe:=Qa6 (hf.symm.trans func119);subst hfe;refine⟨zk,zk,fun w hw=>?_⟩;obtain⟨m,hm⟩:=hw.good.ml 0 zk;have hcl:=List.count_le_length (a:=(10:UInt8)) (l:=s)
 have ecnt:Lib.countB ⟨s.toArray⟩ ⟨#[10]⟩=s.count 10:=by
  show Lib.count _ [10]=_;rw[Lib.count_one]
 have hsz:ByteArray.size ⟨s.toArray⟩=s.length:=by simp[ByteArray.size]
 have c:=Tryz.strings_genSplit ⟨s.toArray⟩ ⟨#[10]⟩ 1 (-1) (s.count 10+1) m w (by rw[hsz];omega) hm (Qa1 1) (Qa1 1) zdz zdz (by rw[if_pos zdz,ecnt,hsz];omega)
 rw[Nat.add_sub_cancel]at c;have hd:=Lib.splitB_data ⟨#[10]⟩ 1 (s.count 10) ⟨s.toArray⟩;generalize hB:Lib.splitB ⟨#[10]⟩ 1 (s.count 10) ⟨s.toArray⟩=B at c hd
 have hd:B.map (·.data.toList)=saF s:=by rw[hd];exact Ajs _ s rfl
 have hBl:B.length=(saF s).length:=by rw[←hd,Qd0]
 have hlen:(saF s).length=s.count 10+1:=by
  have:∀(s acc:Bs),(saN acc s).length=s.count 10+1:=by
   intro s
   induction s with
   |nil=>intro acc;rfl
   |cons b r ih=>
    intro acc;rw[saN]
    by_cases hb:b=10
    ·subst hb;rw[if_pos rfl,Qb3,ih,Qe4]
    ·rw[if_neg hb,ih,List.count_cons_of_ne (by simpa using hb)]
  exact this s []
 have hcells:Lib.cellsOf B (s.count 10+1)=(B.map Value.string).toArray:=by
  have:s.count 10+1=B.length:=zm
  rw[this];exact Lib.cellsOf_full _
 rw[hcells]at c;show Calls prog 119 #[.string ⟨s.toArray⟩,.string ⟨#[10]⟩] w _
 go_enter func119,ntmps119
 go_wp2_with (go_at_call 179;refine c.mono ?_)
 go_ret
 refine⟨(Below.refl _ w).alloc (Qa1 _) _,_,[w.heap.size],fun _=>False,rfl,?_,zsz,fun b hb=>?_,fun _ h=>h.elim⟩
 ·have hr:=Ad2 (C:=hctx (⟨prog,kp⟩:Pg).toProgram (fun _=>False)) (w:=w.alloc (.cells (B.map Value.string).toArray 9)) B;rw[hd]at hr
  have hl2:((saF s).map (BT.str.enc .leaf)).length=s.count 10+1:=by rw[Qd0,hlen]
  have key:=RV.own (C:=hctx (⟨prog,kp⟩:Pg).toProgram (fun _=>False)) (w:=w.alloc (.cells (B.map Value.string).toArray 9)) 1 ((saF s).map (BT.str.enc .leaf)) w.heap.size 0 (s.count 10+1) (B.map Value.string).toArray 9 [] (heap_alloc_new _ _) (by simp;omega) zm (by unfold maxLen;omega)
   (fun x hx=>by obtain⟨y,_,rfl⟩:=List.mem_map.1 hx;rfl) (by
    rw[Qe3,Qe1 (by simp;omega)]
    simpa using hr)
  rw[Qd0,hlen]at key;exact RVs.one key
 ·rw[List.mem_singleton.1 hb];exact⟨Qa1 _,zsz,fun h=>h⟩
end Go.Proofs.Tryz
namespace Go.VS
open Go.RowKit Go
theorem Gc{m l:Nat}{w W:World}{o:Obj}(h:Below m w W)(hl:m≤l):Below m w (W.putObj l o):=
 ⟨h.os,h.tape,h.output,by rw[World.putObj_size];exact h.size,fun b hb=>(World.putObj_heap_other zm).trans (h.block b hb)⟩
def ArA{α:Type}(I Ix:List α→World→Prop)(xs:List α)(W:World):Exit→Act→World→Prop
 |.normal,_,W'=>W'=W∧I xs W
 |.ret,_,W'=>KeepsOthers W W'∧Ix xs W'
 |_,_,_=>False
theorem Aoc{α:Type}{F:Fence}{n:Nat}{P:Program}{g:Operand}{ps:Array Tmp}{assign body:Code}{Q:Exit→Act→World→Prop}{a:Act}{w:World}(hro:F.round=none)(h1:1≤n)
  {gf:Nat} {lb:Array Value} (hg:a.eval g=.func (.func gf) #[] lb) (hFg:F.fn gf) (eg:∀args w,(callFunc gf args).run P w=.ok (.enter gf args) w) (enc:α→Value) (hps:ps.size=1)
  (I Ix:List α→World→Prop) (hIa:∀s W o,I s W→I s (W.alloc o)) (hIp:∀s W l o',I s W→w.heap.size≤l→I s (W.putObj l o')) (hXp:∀s W l o',Ix s W→w.heap.size≤l→Ix s (W.putObj l o'))
  (h0:I [] w) (a₁:α→Act)
  (hassign:∀(l:Nat) (x:α) (W:World) (K:Act→World→Prop),K (a₁ x) W→
   assign.wpIn (F.inRound l) (n -1 -1) P (Exit.then K (fun _ _ _=>False)) {tmps:=(ps.zip #[enc x]).foldl (fun t (p,v)=>t.setIfInBounds p v) a.tmps,defers:=[]} W)
  (hbody:∀(l:Nat) (pre:List α) (x:α) (W:World),I pre W→body.wpIn (F.inRound l) (n -1 -1) P (ArA I Ix (pre++[x]) W) (a₁ x) W)
  (S Sp:List α→Prop)
  (hit:∀(l:Nat) (J Jx:List α→World→Prop) (W:World),w.heap.size≤l→(∀pre W,J pre W→I pre W)→
   (∀pre W b v,J pre W→b<w.heap.size→I pre (W.setCell ⟨b,0,none⟩ v)→J pre (W.setCell ⟨b,0,none⟩ v))→
   (∀pre x W1,J pre W1→YieldAt F (n -1 -1) P l #[enc x] W1 fun e W'=>(e=.returned (.bool true)∧J (pre++[x]) W'∧Below w.heap.size W1 W')∨(e=.returned (.bool false)∧Jx (pre++[x]) W'))→
   J [] W→Below w.heap.size w W→CallsIn F (n -1) P gf (#[.func (.yield l) #[] #[]]++lb) W fun e W'=>(∃v,e=.returned v)∧((∃xs,S xs∧J xs W')∨(∃pre,Sp pre∧Jx pre W')))
  (hdone:∀(D:Nat) (xs:List α) (W:World),w.heap.size≤D→S xs→I xs W→W.heap[D]?=some (.deferred (some []))→Q .normal {a with defers:={target:=.collected D,args:=#[]}::a.defers} W)
  (hstop:∀(D:Nat) (pre:List α) (W:World),w.heap.size≤D→Sp pre→Ix pre W→W.heap[D]?=some (.deferred (some []))→Code.ret.wpIn F n P Q {a with defers:={target:=.collected D,args:=#[]}::a.defers} W):
  (Code.rangeFunc g ps assign body).wpIn F n P Q a w:=by
 refine wpIn_rangeFunc ?_;intro fn hfn;rw[hro]
 obtain⟨D,hD⟩:∃D,w.heap.size=D:=⟨_,rfl⟩
 obtain⟨rc,hrc⟩:∃rc:LoopState→Option Code→Loop,rc=fun st pe=>{state:=st,pending:=pe,fn,tmps:=a.tmps,params:=ps,assign,body,defers:=D}:=⟨_,rfl⟩
 obtain⟨W1,hW1⟩:∃W1,(w.alloc (.deferred (some []))).alloc (.loop (rc .ready none))=W1:=⟨_,rfl⟩
 have hnew:W1.heap[D+1]?=some (.loop (rc .ready none)):=by
  have:=World.alloc_heap_new (w.alloc (.deferred (some []))) (.loop (rc .ready none));rw[World.size_alloc,hW1,hD]at this;exact this
 have hdef:W1.heap[D]?=some (.deferred (some [])):=by
  rw[←hW1,Below.heap_alloc _ _ _ (by rw[World.size_alloc];omega),←hD]
  exact World.alloc_heap_new w _
 have hbw:Below w.heap.size w W1:=by
  rw[←hW1];exact((Below.refl _ w).alloc (Qa1 _) _).alloc zsz _
 have hi1:I [] W1:=by rw[←hW1];exact hIa _ _ _ (hIa _ _ _ h0)
 have hok:a.eval g=.func (.func gf) #[] lb:=hg;refine⟨D+1,[{target:=.collected D,args:=#[]}],W1,{target:=.fn (.func gf) lb,args:=#[.func (.yield (D+1)) #[] #[]]},W1,gf,#[.func (.yield (D+1)) #[] #[]]++lb,W1,?_,?_,?_,?_,fun _=>h1,?_⟩
 ·have:=run_enterLoop_outer (P:=P) (w:=w) fn a.tmps ps assign body;rw[this,←hW1,hrc,hD]
 ·simp only[resolve,hok];simp[go_sem]
 ·intro f' hf';simp[Target.leads]at hf';subst hf';exact hFg
 ·simp[invoke,go_sem,eg]
 refine(hit (D+1) (fun pre W=>I pre W∧W.heap[D+1]?=some (.loop (rc .ready none))∧W.heap[D]?=some (.deferred (some [])))
  (fun pre W=>Ix pre W∧W.heap[D+1]?=some (.loop (rc .done (some .ret)))∧W.heap[D]?=some (.deferred (some []))) W1 zm (fun _ _ h=>h.1) ?_ ?_ ⟨hi1,hnew,hdef⟩ hbw).mono ?_
 ·rintro pre W b v ⟨_,hl,hd⟩ hb hI;exact⟨hI,(Below.heap_setCell _ _ _ _ (show D+1≠b by omega)).trans hl,(Below.heap_setCell _ _ _ _ (show D≠b by omega)).trans hd⟩
 ·rintro pre x W ⟨hi,hl,hd⟩;have hlt:D+1<W.heap.size:=(Array.getElem?_eq_some_iff.1 hl).1;have hy:=run_yield (P:=P) (args:=#[enc x]) hl (by rw[hrc];exact hps.symm)
  rw[hrc]at hy;refine⟨fn,_,assign,body,hy,roundIn_of_wpIn hfn (hassign _ x W _ ⟨_,run_beginRound hl (by rw[hrc]),?_⟩)⟩
  obtain⟨V,hV⟩:∃V,W.putObj (D+1) (.loop {rc .ready none with state:=.busy})=V:=⟨_,rfl⟩
  have hVl:V.heap[D+1]?=some (.loop {rc .ready none with state:=.busy}):=by rw[←hV];exact World.putObj_heap_same hlt
  have hVd:V.heap[D]?=some (.deferred (some [])):=by rw[←hV];exact(World.putObj_heap_other zm).trans hd
  have hVi:I pre V:=by rw[←hV];exact hIp _ _ _ _ hi zm
  have hVb:Below w.heap.size W V:=by rw[←hV];exact Gc ⟨rfl,rfl,rfl,zm,fun _ _=>rfl⟩ zm
  rw[hV];refine wpIn_mono (hbody _ pre x V hVi) ?_;rintro e a3 V3 hp
  cases e with
  |normal=>
   obtain⟨rfl,hi3⟩:=hp;have hr:=run_endRound (P:=P) none hVl;refine⟨_,_,hr,.inl ⟨rfl,⟨hIp _ _ _ _ hi3 zm,?_,(World.putObj_heap_other zm).trans hVd⟩,Gc hVb zm⟩⟩;rw[World.putObj_heap_same (Array.getElem?_eq_some_iff.1 hVl).1,hrc];rfl
  |ret=>
   obtain⟨hk3,hx3⟩:=hp;have hl3:=hk3.same _ _ hVl rfl;have hr:=run_endRound (P:=P) (some .ret) hl3;refine⟨_,_,hr,.inr ⟨rfl,hXp _ _ _ _ hx3 zm,?_,(World.putObj_heap_other zm).trans (hk3.same _ _ hVd rfl)⟩⟩;rw[World.putObj_heap_same (Array.getElem?_eq_some_iff.1 hl3).1,hrc];rfl
  |_=>exact hp.elim
 ·rintro e W2 ⟨⟨v,rfl⟩,(⟨xs,hS,hi,hl,hd⟩|⟨pre,hSp,hx,hl,hd⟩)⟩
  ·have hr:=run_endLoop (P:=P) hl (by rw[hrc];simp)
   rw[hrc]at hr;exact⟨none,_,hr,hdone _ xs _ zm hS (hIp _ _ _ _ hi zm) ((World.putObj_heap_other zm).trans hd)⟩
  ·have hr:=run_endLoop (P:=P) hl (by rw[hrc];simp)
   rw[hrc]at hr;exact⟨some .ret,_,hr,hstop _ pre _ zm hSp (hXp _ _ _ _ hx zm) ((World.putObj_heap_other zm).trans hd)⟩
end Go.VS
namespace Go.Proofs.Tryz
open Go.Shelf Go.RowKit Go.VS Go
attribute [local go_sem] Oper.semAt_some
theorem index_hit(l r:Bs)(c:UInt8)(h:∀b∈l,b≠c):Lib.indexByte (l++c::r) c=(l.length:Int):=by
 induction l with
 |nil=>simp[Lib.indexByte]
 |cons b l ih=>
  rw[Qb6,Lib.indexByte,if_neg (by simpa using h b (Qa7 ..)),ih fun d hd=>h d (Qa8 _ hd)];rw[if_neg zsz];simp
theorem AfC(l:Bs)(c:UInt8)(h:∀b∈l,b≠c):Lib.indexByte l c=-1:=by
 induction l with
 |nil=>rfl
 |cons b l ih=>
  rw[Lib.indexByte,if_neg (by simpa using h b (Qa7 ..)),ih fun d hd=>h d (Qa8 _ hd)];rfl
theorem ZY:∀(l:Bs) (c:UInt8),decide (0≤Lib.indexByte l c)=decide (c∈l)
 |[],c=>by simp[Lib.indexByte]
 |b::l,c=>by
  have h:=ZY l c;have hg:=Lib.indexByte_ge l c
  by_cases hb:b=c
  ·subst hb;simp[Lib.indexByte]
  ·have e:(c∈b::l)↔c∈l:=by simp[Ne.symm hb]
   rw[decide_eq_decide]at h⊢;rw[e,←h,Lib.indexByte,if_neg (by simpa using hb)];split
   ·rename_i h1
    have h1:Lib.indexByte l c=-1:=by simpa using h1
    rw[h1]
   ·rename_i h1
    have h1:¬Lib.indexByte l c=-1:=by simpa using h1
    omega
structure AqN(n0:World)(B:Nat)(W:World):Prop where
 sep:W.cell? ⟨B+1,0,none⟩=some (.string ⟨#[47]⟩)
 str:∃r:ByteArray,W.cell? ⟨B,0,none⟩=some (.string r)
 frs:W.frozen? ⟨B,0,none⟩=false
 sv:W.cell? ⟨B+2,0,none⟩=some (.int .i64 0)
 bel:Below n0.heap.size n0 W
theorem Aef(n l B:Nat)(hn:1≤n)(s:ByteArray)(J Jx:List Bs→World→Prop)(W:World)(w0:World)(m:Nat)(hB:B+2<m)(hJi:∀pre W,J pre W→AqN w0 B W)
  (hJs:∀pre W v,J pre W→J pre (W.setCell ⟨B,0,none⟩ (.string v)))
  (hY:∀pre (x:Bs) W1,J pre W1→YieldAt Fence.wide (n -1) prog l #[.string ⟨x.toArray⟩] W1 fun e W'=>(e=.returned (.bool true)∧J (pre++[x]) W'∧Below m W1 W')∨(e=.returned (.bool false)∧Jx (pre++[x]) W'))
  (h0:J [] W) (hc:W.cell? ⟨B,0,none⟩=some (.string s)) (hs:s.size≤1000):
  CallsIn Fence.wide n prog 324 #[.func (.yield l) #[] #[],.pointer (some ⟨B+1,0,none⟩),.pointer (some ⟨B,0,none⟩),.pointer (some ⟨B+2,0,none⟩)] W fun e W'=>(∃v,e=.returned v)∧((∃xs,xs=spN [] s.data.toList∧J xs W')∨(∃pre,pre<+:spN [] s.data.toList∧Jx pre W')):=by
 refine callsIn_of_wp func324 rfl trivial ?_ rfl;simp only[ntmps324,Qb2,Qb3,Qd8,Nat.reduceAdd,Nat.reduceSub,Qe5,Qe6,List.push_toArray,List.append_toArray,Qb8,Qb6];have hi:=hJi _ _ h0;have x1:=hi.sep;have hfi:Fence.wide.fn 222:=trivial
 gi_wp2
 gi_loopw [7] (fun _ wr=>∃(pre:List Bs) (r:ByteArray),spN [] s.data.toList=pre++spN [] r.data.toList∧wr.cell? ⟨B,0,none⟩=some (.string r)∧r.size≤1000∧J pre wr) (fun _ wr=>match wr.cell? ⟨B,0,none⟩with|some (.string r)=>r.size|_=>0)
 case atStart=>exact⟨[],s,rfl,hc,hs,h0⟩
 case round=>
  obtain⟨pre,r,hsp,hcr,hrs,hJ⟩:=hrel;have hi:=hJi _ _ hJ;have x1:=hi.sep;have x2:=hi.sv;have x3:=hi.frs;have hidx:=Tryz.strings_Index_one r 47 wr
  rcases AoP r.data.toList with hno|⟨a,b,hab,hna⟩
  ·rw[AfC _ _ hno]at hidx;rw[AlJ _ _ hno,Qb8]at hsp;obtain⟨fn,tmps,assign,body,hy,hR⟩:=hY pre r.data.toList wr hJ;rw[show(⟨r.data.toList.toArray⟩:ByteArray)=r by cases r;simp]at hy
   gi_wp2_with (gi_at_call 222;refine(callsIn_wide.2 hidx).mono ?_;rintro e w' ⟨rfl,rfl⟩)
   refine hR.mono ?_;rintro e W3 (⟨rfl,hJ3,_⟩|⟨rfl,hJx3⟩)
   ·gi_wp2
    go_end0
    exact⟨⟨_,rfl⟩,.inl ⟨_,hsp.symm▸rfl,hsp▸hJ3⟩⟩
   ·gi_wp2
    go_end0
    exact⟨⟨_,rfl⟩,.inr ⟨_,hsp▸List.prefix_refl _,hJx3⟩⟩
  ·rw[hab,index_hit _ _ _ hna]at hidx
   have hsz:r.size=a.length+1+b.length:=by
    have:=congrArg List.length hab;simp only[Qa5,Qb3,Qe8]at this;show r.data.size=_;omega
   have c0:¬((a.length:Int)<0):=zm
   have c1:(0:Int)≤(a.length:Int):=zm
   have c2:(a.length:Int)≤(r.size:Int):=zm
   have c3:(0:Int)≤(a.length:Int)+1:=zm
   have c4:(a.length:Int)+1≤(r.size:Int):=zm
   have w1:IntKind.i64.wrap ((a.length:Int)+0)=(a.length:Int):=by rw[IntKind.wrap_i64];omega
   have w2:IntKind.i64.wrap ((a.length:Int)+1)=(a.length:Int)+1:=by rw[IntKind.wrap_i64];omega
   rw[hab,Aeb _ _ _ hna,Qb8]at hsp;obtain⟨fn,tmps,assign,body,hy,hR⟩:=hY pre a wr hJ
   have ea:(⟨a.toArray⟩:ByteArray)=r.extract 0 a.length:=by
    apply ByteArray.ext;apply Array.toList_inj.1;rw[Lib.extract_from_zero,hab];simp
   rw[ea]at hy
   gi_wp2_with (gi_at_call 222;refine(callsIn_wide.2 hidx).mono ?_;rintro e w' ⟨rfl,rfl⟩)
   refine hR.mono ?_;rintro e W3 (⟨rfl,hJ3,hb3⟩|⟨rfl,hJx3⟩)
   ·have hi3:=hJi _ _ hJ3;have y1:=hi3.sep;have y2:=hi3.frs;have y3:W3.cell? ⟨B,0,none⟩=some (.string r):=(hb3.cell (p:=⟨B,0,none⟩) (show B<m by omega)).trans hcr
    gi_wp2
    go_roundw
    case rel=>
     refine⟨pre++[a],r.extract (a.length+1) (a.length+1+b.length),?_,?_,?_,hJs _ _ _ hJ3⟩
     ·rw[hsp,←hsz,Lib.extract_to_end,hab,show a++47::b=(a++[47])++b by simp,show a.length+1=(a++[(47:UInt8)]).length by simp,List.drop_left];simp
     ·exact World.cell?_setCell_same' _ _ _ (by rw[y3];rfl)
     ·rw[ByteArray.size_extract];omega
    case measure=>
     rw[World.cell?_setCell_same' _ _ _ (by rw[y3];rfl),hcr]
     simp only[ByteArray.size_extract];omega
   ·gi_wp2
    refine bodyPost_ret (results_none rfl _ _ _) rfl ?_;exact⟨⟨_,rfl⟩,.inr ⟨_,⟨spN [] b,by rw[hsp];simp⟩,hJx3⟩⟩
theorem Yo(s p:ByteArray)(w:World):Calls prog 296 #[.string s,.string p,.int .i64 0] w fun e w'=>e=.returned (.func (.func 324) #[] #[.pointer (some ⟨w.heap.size+1,0,none⟩),.pointer (some ⟨w.heap.size,0,none⟩),.pointer (some ⟨w.heap.size+2,0,none⟩)])∧w'=((w.alloc (.cells #[.string s] 9)).alloc (.cells #[.string p] 9)).alloc (.cells #[.int .i64 0] 3):=by
 go_enter func296,ntmps296
 go_wp2
 go_ret
 exact⟨rfl,rfl⟩
theorem VN(s p:ByteArray)(w:World):Calls prog 273 #[.string s,.string p] w fun e w'=>e=.returned (.func (.func 324) #[] #[.pointer (some ⟨w.heap.size+1,0,none⟩),.pointer (some ⟨w.heap.size,0,none⟩),.pointer (some ⟨w.heap.size+2,0,none⟩)])∧w'=((w.alloc (.cells #[.string s] 9)).alloc (.cells #[.string p] 9)).alloc (.cells #[.int .i64 0] 3):=by
 go_enter func273,ntmps273
 go_wp2_with (go_at_call 296;refine(Yo _ _ _).mono ?_;rintro e w' ⟨rfl,rfl⟩)
 go_ret
 exact⟨rfl,rfl⟩
theorem My(W:World)(v:Value)(t:TypeId):(W.alloc (.cells #[v] t)).cell? ⟨W.heap.size,0,none⟩=some v∧(W.alloc (.cells #[v] t)).frozen? ⟨W.heap.size,0,none⟩=false:=by
 have h:=World.alloc_heap_new W (.cells #[v] t (0,0))
 constructor<;>simp only[World.cell?,World.frozen?,h]<;>rfl
theorem GI{W:World}{b:Nat}{v:Value}(o:Obj)(h:W.cell? ⟨b,0,none⟩=some v)(hb:b<W.heap.size):(W.alloc o).cell? ⟨b,0,none⟩=some v:=
 (World.cell?_of_block (Below.heap_alloc W o b hb)).trans h
theorem Kw{W:World}{b:Nat}{x:Bool}(o:Obj)(h:W.frozen? ⟨b,0,none⟩=x)(hb:b<W.heap.size):(W.alloc o).frozen? ⟨b,0,none⟩=x:=
 (World.frozen?_of_block (Below.heap_alloc W o b hb)).trans h
theorem AaL(n:Nat)(hn:8≤n)(s:Bs)(hs:s.length≤140737488351232)(w:World):
  CallsIn Fence.wide n prog 207 #[.string ⟨s.toArray⟩] w fun e w'=>e=.returned (.int .i64 (Gq s))∧Below w.heap.size w w':=by
 have h1:1≤n:=zm
 refine callsIn_of_wp_marks func207 rfl trivial ?_ rfl;simp only[ntmps207,Qb2,Qb3,Qd8,Nat.reduceAdd,Nat.reduceSub,Qe5,Qe6,List.push_toArray,List.append_toArray,Qb8,Qb6];have hf1:Fence.wide.fn 235:=trivial;have hf2:Fence.wide.fn 273:=trivial;generalize hRF:Gq s=RF
 have hsz:ByteArray.size ⟨s.toArray⟩=s.length:=by simp[ByteArray.size]
 have n0:=My w (.int .i64 0) 29
 by_cases hlen:(s.length:Int)>200
 ·have hz:RF=210:=by rw[←hRF];unfold Gq;rw[if_pos (.inl zm)]
  subst hz
  gi_wp2
  refine⟨.int .i64 210,?_,rfl,(Below.refl _ w).alloc (Qa1 _) _⟩;have hcl:=(My w (.int .i64 210) 29).1;simp[results,f207,go_sem,hcl]
 ·have hc:=Tryz.strings_Contains_one ⟨s.toArray⟩ 0 (w.alloc (.cells #[.int .i64 0] 29));rw[ZY]at hc;rw[show(⟨s.toArray⟩:ByteArray).data.toList=s from rfl]at hc
  by_cases hz0:(0:UInt8)∈s
  ·rw[decide_eq_true hz0]at hc
   have hz:RF=210:=by rw[←hRF];unfold Gq;rw[if_pos (.inr hz0)]
   subst hz
   gi_wp2_with (gi_at_call 235;refine(callsIn_wide.2 hc).mono ?_;rintro e w' ⟨rfl,rfl⟩)
   refine⟨.int .i64 210,?_,rfl,(Below.refl _ w).alloc (Qa1 _) _⟩;have hcl:=(My w (.int .i64 210) 29).1;simp[results,f207,go_sem,hcl]
  ·rw[decide_eq_false hz0]at hc;have hq:=VN ⟨s.toArray⟩ ⟨#[47]⟩ (w.alloc (.cells #[.int .i64 0] 29))
   gi_wp2_with (first|(gi_at_call 235;refine(callsIn_wide.2 hc).mono ?_;rintro e w' ⟨rfl,rfl⟩)|(gi_at_call 273;refine(callsIn_wide.2 hq).mono ?_;rintro e w' ⟨rfl,rfl⟩))
   have hb4:Below w.heap.size w ((((w.alloc (.cells #[.int .i64 0] 29)).alloc (.cells #[.string ⟨s.toArray⟩] 9)).alloc (.cells #[.string ⟨#[47]⟩] 9)).alloc (.cells #[.int .i64 0] 3)):=((((Below.refl _ w).alloc (Qa1 _) _).alloc zsz _).alloc (by simp;omega) _).alloc (by simp;omega) _
   have s1:(w.alloc (.cells #[.int .i64 0] 29)).heap.size=w.heap.size+1:=zsz
   have s2:((w.alloc (.cells #[.int .i64 0] 29)).alloc (.cells #[.string ⟨s.toArray⟩] 9)).heap.size=w.heap.size+1+1:=zsz
   have s3:(((w.alloc (.cells #[.int .i64 0] 29)).alloc (.cells #[.string ⟨s.toArray⟩] 9)).alloc (.cells #[.string ⟨#[47]⟩] 9)).heap.size=w.heap.size+1+2:=zsz
   have n1:=My (w.alloc (.cells #[.int .i64 0] 29)) (.string ⟨s.toArray⟩) 9;have n2:=My ((w.alloc (.cells #[.int .i64 0] 29)).alloc (.cells #[.string ⟨s.toArray⟩] 9)) (.string ⟨#[47]⟩) 9;have n3:=My (((w.alloc (.cells #[.int .i64 0] 29)).alloc (.cells #[.string ⟨s.toArray⟩] 9)).alloc (.cells #[.string ⟨#[47]⟩] 9)) (.int .i64 0) 3;rw[s1]at n1;rw[s2]at n2;rw[s3]at n3
   have m0:=GI (.cells #[.int .i64 0] 3) (GI (.cells #[.string ⟨#[47]⟩] 9) (GI (.cells #[.string ⟨s.toArray⟩] 9) n0.1 (by rw[s1];omega)) (by rw[s2];omega)) (by rw[s3];omega)
   have f0:=Kw (.cells #[.int .i64 0] 3) (Kw (.cells #[.string ⟨#[47]⟩] 9) (Kw (.cells #[.string ⟨s.toArray⟩] 9) n0.2 (by rw[s1];omega)) (by rw[s2];omega)) (by rw[s3];omega)
   have m1:=GI (.cells #[.int .i64 0] 3) (GI (.cells #[.string ⟨#[47]⟩] 9) n1.1 (by rw[s2];omega)) (by rw[s3];omega)
   have f1:=Kw (.cells #[.int .i64 0] 3) (Kw (.cells #[.string ⟨#[47]⟩] 9) n1.2 (by rw[s2];omega)) (by rw[s3];omega)
   have m2:=GI (.cells #[.int .i64 0] 3) n2.1 (by rw[s3];omega)
   have s4:((((w.alloc (.cells #[.int .i64 0] 29)).alloc (.cells #[.string ⟨s.toArray⟩] 9)).alloc (.cells #[.string ⟨#[47]⟩] 9)).alloc (.cells #[.int .i64 0] 3)).heap.size=w.heap.size+4:=zsz
   have hn3:=n3.1;clear n0 n1 n2 n3 s1 s2 s3;generalize((((w.alloc (.cells #[.int .i64 0] 29)).alloc (.cells #[.string ⟨s.toArray⟩] 9)).alloc (.cells #[.string ⟨#[47]⟩] 9)).alloc (.cells #[.int .i64 0] 3))=W4 at*;generalize hM:w.heap.size=M at*
   refine Aoc rfl h1 (gf:=324) (lb:=#[.pointer (some ⟨M+1+1,0,none⟩),.pointer (some ⟨M+1,0,none⟩),.pointer (some ⟨M+1+2,0,none⟩)]) rfl trivial (enters_of func324 zk rfl) (fun x:Bs=>Value.string ⟨x.toArray⟩) rfl
    (fun pre W=>AqN w (M+1) W∧(W.cell? ⟨M,0,none⟩=some (.int .i64 0)∧W.frozen? ⟨M,0,none⟩=false)∧∀y∈pre,UT y=true)
    (fun pre W=>W.cell? ⟨M,0,none⟩=some (.int .i64 210)∧Below M w W∧∃y∈pre,UT y=false)
    ?_ ?_ ?_ ?_ (fun x=>{tmps:=#[.string ⟨s.toArray⟩,undef,.pointer (some ⟨M,0,none⟩),.string ⟨x.toArray⟩,.string ⟨s.toArray⟩,.int .i64 (s.length:Int),.bool false,.bool false,.string ⟨s.toArray⟩,.bool false,.bool false,.string ⟨s.toArray⟩,.func (.func 324) #[] #[.pointer (some ⟨M+1+1,0,none⟩),.pointer (some ⟨M+1,0,none⟩),.pointer (some ⟨M+1+2,0,none⟩)],.string ⟨x.toArray⟩,undef,undef,undef,undef,undef,undef,undef,undef,undef,undef],defers:=[]})
    ?_ ?_ (fun xs=>xs=spN [] s) (fun pre=>pre<+:spN [] s) ?_ ?_ ?_
   ·rintro pre W o ⟨hR,hC,hG⟩;have b0:=World.block_lt_of_cell? _ _ hC.1;obtain⟨r,hr⟩:=hR.str;exact⟨⟨GI _ hR.sep (World.block_lt_of_cell? _ _ hR.sep),⟨r,GI _ hr (World.block_lt_of_cell? _ _ hr)⟩,Kw _ hR.frs (World.block_lt_of_cell? _ _ hr),GI _ hR.sv (World.block_lt_of_cell? _ _ hR.sv),hR.bel.alloc hR.bel.size _⟩,⟨GI _ hC.1 b0,Kw _ hC.2 b0⟩,hG⟩
   ·rintro pre W l o ⟨hR,hC,hG⟩ hl;obtain⟨r,hr⟩:=hR.str
    exact⟨⟨(World.cell?_of_block (World.putObj_heap_other (k:=M+1+1) zm)).trans hR.sep,⟨r,(World.cell?_of_block (World.putObj_heap_other (k:=M+1) zm)).trans hr⟩,(World.frozen?_of_block (World.putObj_heap_other (k:=M+1) zm)).trans hR.frs,(World.cell?_of_block (World.putObj_heap_other (k:=M+1+2) zm)).trans hR.sv,Gc hR.bel zm⟩,⟨(World.cell?_of_block (World.putObj_heap_other (k:=M) zm)).trans hC.1,(World.frozen?_of_block (World.putObj_heap_other (k:=M) zm)).trans hC.2⟩,hG⟩
   ·rintro pre W l o ⟨hC,hB,hG⟩ hl;exact⟨(World.cell?_of_block (World.putObj_heap_other (k:=M) zm)).trans hC,Gc hB zm,hG⟩
   ·exact⟨⟨m2,⟨_,m1⟩,f1,hn3,by rw[hM];exact hb4⟩,⟨m0,f0⟩,fun y hy=>nomatch hy⟩
   ·intro l x W K hK
    gi_wp2
    exact hK
   ·rintro l pre x W ⟨hR,⟨hC,hF⟩,hG⟩
    gi_wp2
    ·rename_i h1
     have hgx:UT x=false:=by rw[h1];rfl
     exact⟨KeepsOthers.setCell _ _ _,World.cell?_setCell_same' _ _ _ (by rw[hC];rfl),(hM▸hR.bel).setCell (p:=⟨M,0,none⟩) (Qa1 _) _,x,zsz,hgx⟩
    ·rename_i h1 h2
     have hgx:UT x=false:=by rw[h2];rfl
     exact⟨KeepsOthers.setCell _ _ _,World.cell?_setCell_same' _ _ _ (by rw[hC];rfl),(hM▸hR.bel).setCell (p:=⟨M,0,none⟩) (Qa1 _) _,x,zsz,hgx⟩
    ·rename_i h1 h2 h3
     have hgx:UT x=false:=by
      rcases h3 with(h3|h3)|h3
      ·exact absurd (List.isEmpty_iff.1 h3) h1
      ·exact absurd (eq_of_beq h3) h2
      ·rw[eq_of_beq h3];rfl
     exact⟨KeepsOthers.setCell _ _ _,World.cell?_setCell_same' _ _ _ (by rw[hC];rfl),(hM▸hR.bel).setCell (p:=⟨M,0,none⟩) (Qa1 _) _,x,zsz,hgx⟩
    ·rename_i h1 h2 h3
     have hgx:UT x=true:=by
      unfold UT;rw[h3.1.2,h3.2,show(x==([]:Bs))=false from beq_eq_false_iff_ne.2 h1];rfl
     exact⟨rfl,hR,⟨hC,hF⟩,fun y hy=>(List.mem_append.1 hy).elim (hG y) fun h=>by rw[List.mem_singleton.1 h];exact hgx⟩
   ·intro l J Jx W hl hJI hJs hY h0 hbw;rw[show(#[.func (.yield l) #[] #[]]++#[.pointer (some ⟨M+1+1,0,none⟩),.pointer (some ⟨M+1,0,none⟩),.pointer (some ⟨M+1+2,0,none⟩)]:Array Value)=#[.func (.yield l) #[] #[],.pointer (some ⟨M+1+1,0,none⟩),.pointer (some ⟨M+1,0,none⟩),.pointer (some ⟨M+1+2,0,none⟩)]by simp]
    refine Aef (n -1) l (M+1) zm ⟨s.toArray⟩ J Jx W w (M+4) zm (fun pre W h=>(hJI pre W h).1) ?_ ?_ h0 ((hbw.cell (p:=⟨M+1,0,none⟩) (show M+1<W4.heap.size by omega)).trans m1) (by rw[hsz];omega)
    ·intro pre V v hJ;obtain⟨hR,hC,hG⟩:=hJI _ _ hJ;obtain⟨r,hr⟩:=hR.str
     refine hJs _ _ _ _ hJ zm ⟨⟨(World.cell?_of_block (Below.heap_setCell _ _ _ _ (show M+1+1≠M+1 by omega))).trans hR.sep,⟨v,World.cell?_setCell_same' _ _ _ (by rw[hr];rfl)⟩,by rw[World.frozen?_setCell];exact hR.frs,(World.cell?_of_block (Below.heap_setCell _ _ _ _ (show M+1+2≠M+1 by omega))).trans hR.sv,hR.bel.setCell (p:=⟨M+1,0,none⟩) (by rw[hM];exact Nat.le_succ _) _⟩,⟨(World.cell?_of_block (Below.heap_setCell _ _ _ _ (show M≠M+1 by omega))).trans hC.1,by rw[World.frozen?_setCell];exact hC.2⟩,hG⟩
    ·rw[s4]at hY;exact hY
   ·rintro D xs W hD rfl ⟨hR,⟨hC,hF⟩,hG⟩ hK
    have hz:RF=0:=by
     rw[←hRF];unfold Gq;rw[if_neg (by rintro(h|h);omega;exact hz0 h),if_pos (List.all_eq_true.2 hG)]
    subst hz
    gi_wp2
    have hK':=(KeepsOthers.setCell W ⟨M,0,none⟩ (.int .i64 0)).same D _ hK rfl;refine⟨zsz,.inl ⟨_,_,rfl,run_takeDeferred hK',?_⟩⟩;have hc5:((W.setCell ⟨M,0,none⟩ (.int .i64 0)).putObj D (.deferred none)).cell? ⟨M,0,none⟩=some (.int .i64 0):=(World.cell?_of_block (World.putObj_heap_other (k:=M) zm)).trans (World.cell?_setCell_same' _ _ _ (by rw[hC];rfl))
    refine⟨.int .i64 0,?_,rfl,Gc (hR.bel.setCell (p:=⟨M,0,none⟩) (by rw[hM];exact Qa1 _) _) zm⟩
    simp[results,f207,go_sem,hc5]
   ·rintro D pre W hD hpre ⟨hC,hB,y,hy,hgy⟩ hK
    have hz:RF=210:=by
     rw[←hRF];unfold Gq;rw[if_neg (by rintro(h|h);omega;exact hz0 h),if_neg (fun h=>by rw[List.all_eq_true.1 h y (hpre.subset hy)]at hgy;cases hgy)]
    subst hz
    gi_wp2
    refine⟨zsz,.inl ⟨_,_,rfl,run_takeDeferred hK,?_⟩⟩;have hc5:(W.putObj D (.deferred none)).cell? ⟨M,0,none⟩=some (.int .i64 210):=(World.cell?_of_block (World.putObj_heap_other (k:=M) zm)).trans hC;refine⟨.int .i64 210,?_,rfl,Gc (by rw[hM];exact hB) zm⟩
    simp[results,f207,go_sem,hc5]
theorem AaK(kp:Value→Prop):HK ⟨prog,kp⟩:=by
 intro s hs
 refine Fn.PK (S:=ED) rfl rfl s (Gq s) () rfl fun f fn hf hn=>?_
 have hfi:f=207:=Ec (P:=⟨prog,kp⟩) zk hf hn;subst hfi;have hfe:=Qa6 (hf.symm.trans func207);subst hfe;exact⟨zk,zk,fun w hw=>callsIn_wide.1 (AaL 8 (Qa1 _) s hs w)⟩
end Go.Proofs.Tryz
namespace Go.VS
open Go.RowKit Go Go.Maps
def gput{α:Type}(g:Bs→Option α)(k:Bs)(v:α):Bs→Option α:=fun x=>if x=k then some v else g x
def gdel{α:Type}(g:Bs→Option α)(k:Bs):Bs→Option α:=fun x=>if x=k then none else g x
structure Elt(P:Program)(et:TypeId)(α:Type) where
 lit:α→Lit
 val:α→Value
 ok:α→Prop
 inv:∀{v:Value} {a:α} {ps:List MemPlace},plainElem (H:=Unit) P et v=some (.lit (lit a),ps)→v=val a
 rd:∀{a:α},ok a→plainElem (H:=Unit) P et (val a)=some (.lit (lit a),[])
def Elt.str{P:Program}{et:TypeId}(h:P.underlying et=some .string):Elt P et Bs where
 lit:=.string
 val:=fun s=>.string ⟨s.toArray⟩
 ok:=fun s=>s.length≤maxLen
 inv:=fun{v a ps} hv=>by
  obtain⟨s,rfl,hz,_⟩:=plainElem_string_inv h hv;cases hz;simp
 rd:=fun{a} ha=>by
  have:=plainElem_string (H:=Unit) h (s:=⟨a.toArray⟩) (by simpa[ByteArray.size]using ha);simpa using this
def Elt.int{P:Program}{et:TypeId}(h:P.underlying et=some (.int .i64)):Elt P et Int where
 lit:=.int .i64
 val:=.int .i64
 ok:=fun n=>(Lit.int .i64 n).wf=true
 inv:=fun{v a ps} hv=>by
  obtain⟨c,rfl,hz,_⟩:=plainElem_int_inv h hv;cases hz;rfl
 rd:=fun{a} ha=>plainElem_int h ha
def Elt.bool{P:Program}{et:TypeId}(h:P.underlying et=some .bool):Elt P et Bool where
 lit:=.bool
 val:=.bool
 ok:=fun _=>True
 inv:=fun{v a ps} hv=>by
  unfold plainElem at hv;rw[h]at hv
  cases v<;>simp at hv
  rw[hv.1]
 rd:=fun{a} _=>plainElem_bool h a
section
variable{P:Program}{kt et:TypeId}{α:Type}{E:Elt P et α}{w:World}{b n:Nat}{g:Bs→Option α}{r:Nat}{xs:List Bs}{D:DataW Unit}{left:Lit→Bool}{cnt:Nat}
def Cy(P:Program)(kt:TypeId){et:TypeId}{α:Type}(E:Elt P et α)(w:World)(b n:Nat)(g:Bs→Option α):Prop:=
 ∃D:DataW Unit,w.ownsMap P kt (plainElem P et) b n D∧∀k:Bs,k.length≤maxLen→Maps.has D (.string k)=(g k).isSome∧∀v,g k=some v→∀z,D.atKey (.string k) z=.lit (E.lit v)
theorem Cy.made(E:Elt P et α)(w:World):Cy P kt E (w.alloc (.map #[] 0)) w.heap.size 0 (fun _=>none):=
 ⟨_,World.ownsMap_made w P kt _,fun k _=>⟨rfl,fun v h=>nomatch h⟩⟩
theorem Cy.of_block(h:Cy P kt E w b n g){w':World}(he:w'.heap[b]?=w.heap[b]?):Cy P kt E w' b n g:=by
 obtain⟨D,⟨es,clock,hb,F,hs,hD⟩,hg⟩:=h;exact⟨D,⟨es,clock,he.trans hb,F,hs,hD⟩,hg⟩
theorem Cy.lt(h:Cy P kt E w b n g):b<w.heap.size:=by
 obtain⟨D,ho,_⟩:=h;exact ho.lt
theorem Cy.alloc(h:Cy P kt E w b n g)(o:Obj):Cy P kt E (w.alloc o) b n g:=h.of_block (Below.heap_alloc w o b h.lt)
theorem Cy.below(h:Cy P kt E w b n g){w':World}{m:Nat}(hb:Below m w w')(hm:b<m):Cy P kt E w' b n g:=h.of_block (hb.block b hm)
theorem Cy.congr(h:Cy P kt E w b n g){g':Bs→Option α}(hg:∀k,g' k=g k):Cy P kt E w b n g':=by
 rw[show g'=g from funext hg];exact h
theorem Cy.mono(h:Cy P kt E w b n g){m:Nat}(hm:n≤m):Cy P kt E w b m g:=by
 obtain⟨D,ho,hg⟩:=h;exact⟨D,ho.mono hm,hg⟩
theorem Q9(hk:P.underlying kt=some .string){k:Bs}(hl:k.length≤maxLen):keyOf P kt (.string ⟨k.toArray⟩)=some (.string k):=by
 have:=WideMaps.keyOf_string_mk hk (s:=⟨k.toArray⟩) (by simpa[ByteArray.size]using hl);simpa using this
theorem Cy.look(h:Cy P kt E w b n g)(hk:P.underlying kt=some .string){t:TypeId}(ht:P.underlying t=some (.map kt et)){z:α}(hz:(zeroValue et).run P w=.ok (E.val z) w)(hzo:E.ok z){k:Bs}(hl:k.length≤maxLen):
  (Instr.lookup t (.map (some b)) (.string ⟨k.toArray⟩) true).run P w=.ok (.tuple #[E.val ((g k).getD z),.bool (g k).isSome]) w:=by
 obtain⟨D,ho,hg⟩:=h;obtain⟨v,ps,hrun,hv⟩:=ho.look_ok (string_keyed hk) ht hz (E.rd hzo) (Q9 hk hl);obtain⟨h1,h2⟩:=hg k hl;rw[hrun,h1]
 congr 4
 cases hgk:g k with
 |some a=>rw[h2 a hgk]at hv;exact E.inv hv
 |none=>
  rw[hgk]at h1;obtain⟨es,clock,hb,F,hs,hD⟩:=ho;subst hD
  rcases Maps.fit_look true (string_keyed hk) ht hz hb F (Q9 hk hl)with⟨_,_,hat⟩|⟨e0,y,_,_,_,_,hat,_⟩
  ·rw[hat]at hv;exact E.inv hv
  ·rw[Maps.has_true_of_atKey hat]at h1;cases h1
theorem Cy.ArR(h:Cy P kt E w b n g)(hk:P.underlying kt=some .string){t:TypeId}(ht:P.underlying t=some (.map kt et)){z:α}(hz:(zeroValue et).run P w=.ok (E.val z) w)(hzo:E.ok z){k:Bs}(hl:k.length≤maxLen):
  (Instr.lookup t (.map (some b)) (.string ⟨k.toArray⟩) false).run P w=.ok (E.val ((g k).getD z)) w:=by
 obtain⟨D,ho,hg⟩:=h;obtain⟨v,ps,hrun,hv⟩:=ho.lookup (string_keyed hk) ht hz (E.rd hzo) (Q9 hk hl);obtain⟨h1,h2⟩:=hg k hl;rw[hrun]
 congr 1
 cases hgk:g k with
 |some a=>rw[h2 a hgk]at hv;exact E.inv hv
 |none=>
  rw[hgk]at h1;obtain⟨es,clock,hb,F,hs,hD⟩:=ho;subst hD
  rcases Maps.fit_look true (string_keyed hk) ht hz hb F (Q9 hk hl)with⟨_,_,hat⟩|⟨e0,y,_,_,_,_,hat,_⟩
  ·rw[hat]at hv;exact E.inv hv
  ·rw[Maps.has_true_of_atKey hat]at h1;cases h1
theorem Ahh(hk:P.underlying kt=some .string){k:Bs}(hl:k.length≤maxLen):WideAt.IsKeyLit (.string k):=(string_keyed hk).key (Q9 hk hl)
theorem Cy.put(h:Cy P kt E w b n g)(hk:P.underlying kt=some .string){t:TypeId}(ht:P.underlying t=some (.map kt et))(hn:n<maxLen){k:Bs}(hl:k.length≤maxLen){v:α}(hv:E.ok v):
  ∃w',(Instr.mapUpdate t (.map (some b)) (.string ⟨k.toArray⟩) (E.val v)).run P w=.ok () w'∧Cy P kt E w' b (n+1) (gput g k v)∧w.grownBy w' (some b):=by
 obtain⟨D,ho,hg⟩:=h;obtain⟨w',hrun,ho',hgr⟩:=ho.update (string_keyed hk) ht hn (Q9 hk hl) (E.rd hv);refine⟨w',hrun,⟨_,ho',fun x hx=>?_⟩,hgr⟩;unfold gput
 by_cases hxk:x=k
 ·subst hxk;rw[if_pos rfl];exact⟨by rw[Maps.has_put_same ho.isMap (Ahh hk hl)];rfl,fun u hu z=>by cases hu;exact Maps.atKey_put_same ho.isMap (Ahh hk hl) _ _⟩
 ·rw[if_neg hxk]
  have hne:(Lit.string x)≠.string k:=fun e=>hxk (by cases e;rfl)
  obtain⟨h1,h2⟩:=hg x hx;exact⟨by rw[Maps.has_put_other hne,h1],fun u hu z=>by rw[Maps.atKey_put_other hne];exact h2 u hu z⟩
theorem Cy.del(h:Cy P kt E w b n g)(hk:P.underlying kt=some .string){t:TypeId}(ht:P.underlying t=some (.map kt et)){k:Bs}(hl:k.length≤maxLen)(ty:TypeId):
  ∃w',(Builtin.delete_ #[t,kt] ty #[.map (some b),.string ⟨k.toArray⟩]).run P w=.ok (.tuple #[]) w'∧Cy P kt E w' b n (gdel g k)∧w.grownBy w' (some b):=by
 obtain⟨D,ho,hg⟩:=h;obtain⟨w',hrun,ho',hgr⟩:=ho.drop (string_keyed hk) ht (Q9 hk hl) ty;refine⟨w',hrun,⟨_,ho',fun x hx=>?_⟩,hgr.grown⟩;unfold gdel
 by_cases hxk:x=k
 ·subst hxk;rw[if_pos rfl];exact⟨Maps.has_del_same,fun u hu=>nomatch hu⟩
 ·rw[if_neg hxk]
  have hne:(Lit.string x)≠.string k:=fun e=>hxk (by cases e;rfl)
  obtain⟨h1,h2⟩:=hg x hx;exact⟨by rw[Maps.has_del_other hne,h1],fun u hu z=>by rw[Maps.atKey_del_other hne];exact h2 u hu z⟩
theorem Am5(hk:P.underlying kt=some .string){key:Value}{kl:Lit}(h:keyOf P kt key=some kl):∃s:ByteArray,key=.string s∧kl=.string s.data.toList∧s.size≤maxLen:=by
 cases key<;>simp[keyOf,hk,mapKey]at h
 rename_i s;refine⟨s,rfl,?_,?_⟩
 ·have:=h.2;exact this.symm
 ·exact h.1
def AeH(P:Program)(kt:TypeId){et:TypeId}{α:Type}(E:Elt P et α)(w:World)(b r n:Nat)(g:Bs→Option α)(xs:List Bs)(D:DataW Unit)(left:Lit→Bool)(cnt:Nat):Prop:=
 w.ranges P kt (plainElem P et) b r n D left cnt∧(∀k:Bs,k.length≤maxLen→Maps.has D (.string k)=(g k).isSome∧∀v,g k=some v→∀z,D.atKey (.string k) z=.lit (E.lit v))∧
 (∀k∈xs,left (.string k)=true)∧(∀kl,left kl=true→Maps.has D kl=true)∧∀k:Bs,k.length≤maxLen→left (.string k)=true→k∈xs
theorem AeH.done(h:AeH P kt E w b r n g xs D left cnt)(hl:∀kl,left kl=false):xs=[]:=by
 obtain⟨_,_,h3,_,_⟩:=h
 cases xs with
 |nil=>rfl
 |cons x l=>have:=h3 x (Qa7 ..);rw[hl]at this;cases this
theorem AeH.start(h:Cy P kt E w b n g){xs:List Bs}(hx:∀k,k∈xs↔(g k).isSome=true)(hxl:∀k∈xs,k.length≤maxLen):∃D,w.ownsMap P kt (plainElem P et) b n D∧
  ∀{w':World} {r cnt:Nat},w'.ranges P kt (plainElem P et) b r n D (Maps.has D) cnt→AeH P kt E w' b r n g xs D (Maps.has D) cnt:=by
 obtain⟨D,ho,hg⟩:=h;exact⟨D,ho,fun hr=>⟨hr,hg,fun k hk=>by rw[(hg k (hxl k hk)).1];exact(hx k).1 hk,fun _ h=>h,fun k hk hl=>(hx k).2 (by rw[←(hg k hk).1];exact hl)⟩⟩
theorem AeH.step(h:AeH P kt E w b r n g xs D left cnt)(hk:P.underlying kt=some .string)(hnd:xs.Nodup){key v:Value}{kl:Lit}{y:DataW Unit×List MemPlace}{w':World}{cnt':Nat}(hkey:keyOf P kt key=some kl)(hl:left kl=true)(hR:plainElem P et v=some y)
  (hat:∀zd,D.atKey kl zd=y.1) (hr:w'.ranges P kt (plainElem P et) b r n D (fun z=>left z&&!z.sameKey kl) cnt') (hlit:∀a:α,∀z:DataW Unit×List MemPlace,plainElem P et (E.val a)=some z→z.1=.lit (E.lit a)) (hval:∀v y,plainElem (H:=Unit) P et v=some y→∃a,v=E.val a) (hinj:∀a c:α,E.lit a=E.lit c→a=c):
  ∃k a,key=.string ⟨k.toArray⟩∧k∈xs∧k.length≤maxLen∧g k=some a∧v=E.val a∧AeH P kt E w' b r n g (xs.erase k) D (fun z=>left z&&!z.sameKey kl) cnt':=by
 obtain⟨h1,h2,h3,h4,h5⟩:=h;obtain⟨s,rfl,rfl,hs⟩:=Am5 hk hkey
 have hs:s.data.toList.length≤maxLen:=by rw[Qe8];exact hs
 obtain⟨a,rfl⟩:=hval v y hR;have hsm:=h4 _ hl;rw[(h2 _ hs).1]at hsm;obtain⟨c,hc⟩:=Option.isSome_iff_exists.1 hsm;have h6:=(h2 _ hs).2 c hc y.1;rw[hat,hlit a y hR]at h6
 have h7:E.lit a=E.lit c:=by first|exact DataW.lit.inj h6|exact(DataW.lit.inj h6).symm
 obtain rfl:=hinj a c h7;have hself:(Lit.string s.data.toList).sameKey (.string s.data.toList)=true:=WideAt.sameKey_self ((string_keyed hk).key hkey);refine⟨s.data.toList,a,zsz,h5 _ hs hl,hs,hc,rfl,hr,h2,fun k hk2=>?_,fun kl2 hk2=>h4 _ (by simp at hk2;exact hk2.1),fun k hk2 hl2=>?_⟩
 ·have hm:=List.mem_of_mem_erase hk2;show(left (.string k)&&!(Lit.string k).sameKey (.string s.data.toList))=true;rw[h3 k hm,Bool.true_and]
  have:k≠s.data.toList:=fun e=>by
   subst e;exact absurd hk2 (List.Nodup.not_mem_erase hnd)
  cases hsk:(Lit.string k).sameKey (.string s.data.toList)
  ·rfl
  ·exact absurd (by have:=WideAt.sameKey_eq hsk;cases this;rfl) this
 ·simp only[Bool.and_eq_true,Bool.not_eq_true']at hl2
  have hne:k≠s.data.toList:=fun e=>by
   subst e;rw[hself]at hl2;cases hl2.2
  exact(List.mem_erase_of_ne hne).2 (h5 k hk2 hl2.1)
theorem WD{m:Nat}{w0 w w':World}(h:Below m w0 w)(hg:w.grownBy w' (some b))(hb:m≤b)(hm:m≤w0.heap.size):Below m w0 w':=
 ⟨hg.os.trans h.os,hg.tape.trans h.tape,hg.output.trans h.output,Qa9 h.size hg.size,fun i hi=>by
  have hs:=h.size
  exact(hg.block i zm (by intro e;cases e;omega)).trans (h.block i hi)⟩
end
structure AbY(w:World)(a:Option Addr)(l:List (Bs×Bs)):Prop where
 at_:∀(k:Nat) (x:Bs×Bs),l[k]?=some x→∃b off,a=some ⟨b,off,none⟩∧b<w.heap.size∧w.cell? ⟨b,off+k*2,none⟩=some (.string ⟨x.1.toArray⟩)∧w.cell? ⟨b,off+k*2+1,none⟩=some (.string ⟨x.2.toArray⟩)
theorem AbY.below{w w':World}{a:Option Addr}{l:List (Bs×Bs)}(h:AbY w a l)(hb:Below w.heap.size w w'):AbY w' a l:=
 ⟨fun k x hx=>by
  obtain⟨b,off,h1,h2,h3,h4⟩:=h.at_ k x hx
  exact⟨b,off,h1,Qb5 h2 hb.size,(hb.cell (p:=⟨b,off+k*2,none⟩) h2).trans h3,(hb.cell (p:=⟨b,off+k*2+1,none⟩) h2).trans h4⟩⟩
end Go.VS
namespace Go.Proofs.Tryz
open Go.Shelf Go.RowKit Go.VS Go Go.Maps
def MG(w:World)(b n:Nat)(g:Bs→Option Bs):Prop:=Cy prog 9 (Elt.str underlying9) w b n g
theorem Amu(w:World):(zeroValue 9).run prog w=.ok ((Elt.str (P:=prog) underlying9).val ([]:Bs)) w:=Tryz.zeroValue9 w
def Ae3(l:List Av)(k:Nat):Bs→Option Bs:=(l.take k).foldl (fun g f=>gput g f.1 f.2) fun _=>none
theorem Ah8{l:List Av}{k:Nat}{x:Av}(h:l[k]?=some x):Ae3 l (k+1)=gput (Ae3 l k) x.1 x.2:=by
 unfold Ae3;rw[List.take_add_one,h,List.foldl_append];rfl
theorem ZN:∀(l:List Av) (g:Bs→Option Bs) (p:Bs),(l.foldl (fun g f=>gput g f.1 f.2) g) p=match B7 l p with|some v=>some v|none=>g p
 |[],g,p=>rfl
 |f::r,g,p=>by
  rw[List.foldl_cons,ZN r _ p,B7]
  cases B7 r p with
  |some v=>rfl
  |none=>
   unfold gput;dsimp only
   split<;>rfl
theorem Ah7(l:List Av)(p:Bs):Ae3 l l.length p=B7 l p:=by
 unfold Ae3;rw[Qc7,ZN]
 cases B7 l p<;>rfl
theorem OH(l:List Av)(hn:l.length≤1000000)(hl:∀f∈l,f.1.length≤140737488351232∧f.2.length≤140737488351232)(a:Option Addr)(c:Nat)(w:World)(hv:AbY w a l):
  Calls prog 211 #[.slice a l.length c] w fun e w'=>e=.returned (.map (some w.heap.size))∧MG w' w.heap.size l.length (B7 l)∧Below w.heap.size w w':=by
 go_enter func211,ntmps211
 have hmk:(Instr.makeMap 331 none).run prog w=.ok (.map (some w.heap.size)) (w.alloc (.map #[] 0)):=rfl
 go_wp2
 have hM0:MG (w.alloc (.map #[] 0)) w.heap.size 0 (Ae3 l 0):=Cy.made (Elt.str underlying9) w;have hB0:Below w.heap.size w (w.alloc (.map #[] 0)):=(Below.refl _ w).alloc (Qa1 _) _;generalize w.alloc (.map #[] 0)=w1 at hM0 hB0⊢
 go_loopw [9] (fun i wr=>∃k:Nat,k≤l.length∧i=.int .i64 k∧MG wr w.heap.size k (Ae3 l k)∧Below w.heap.size w wr) (fun i _=>l.length -(Lib.intOf i).toNat)
 case atStart=>exact⟨0,Qa3 _,rfl,hM0,hB0⟩
 case round=>
  obtain⟨k,hk,hi,hM,hB⟩:=hrel;subst hi
  by_cases hks:k<l.length
  ·obtain⟨b,off,rfl,hb,q0,q1⟩:=hv.at_ k l[k] (Qa0 hks);have c0:=(hB.cell (p:=⟨b,off+k*2,none⟩) hb).trans q0;have c1:=(hB.cell (p:=⟨b,off+k*2+1,none⟩) hb).trans q1;have hnx:=Ah8 (l:=l) (Qa0 hks);obtain⟨hl1,hl2⟩:=hl _ (Qc3 hks);generalize hx:l[k]=x at c0 c1 hnx hl1 hl2;obtain⟨p,bl⟩:=x
   dsimp only at c0 c1 hnx hl1 hl2;have hM2:=Cy.alloc hM (.cells #[.string ⟨p.toArray⟩,.string ⟨bl.toArray⟩] 71);obtain⟨w3,hrun,hM3,hg3⟩:=Cy.put hM2 underlying9 (t:=331) underlying331 (by unfold maxLen;omega) (k:=p) (by unfold maxLen;omega) (v:=bl) (by show bl.length≤maxLen;unfold maxLen;omega)
   have hrun:(Instr.mapUpdate 331 (.map (some w.heap.size)) (.string ⟨p.toArray⟩) (.string ⟨bl.toArray⟩)).run prog (wr.alloc (.cells #[.string ⟨p.toArray⟩,.string ⟨bl.toArray⟩] 71))=.ok () w3:=hrun;have hB3:Below w.heap.size w w3:=WD (hB.alloc hB.size _) hg3 (Qa1 _) (Qa1 _);rw[←hnx]at hM3;clear hM hM2 hg3 q0 q1
   go_wp2
   go_roundw
   case rel=>exact⟨k+1,zm,zsz,hM3,hB3⟩
   case measure=>
    simp only[Lib.intOf];omega
  ·have hke:k=l.length:=by omega
   subst hke
   go_wp2
   go_ret
   exact⟨rfl,Cy.congr hM fun p=>(Ah7 l p).symm,hB⟩
theorem AbR(p:Bs)(k:Nat):(⟨(p.take k).toArray⟩:ByteArray)=ByteArray.extract ⟨p.toArray⟩ 0 k:=by
 apply ByteArray.ext;apply Array.toList_inj.1;rw[Lib.extract_from_zero]
def Ala(g:Bs→Option Bs)(p:Bs)(i:Nat):Bool:=(g (p.take i)).isSome&&(p.getD i 0==47)
def MO(g:Bs→Option Bs)(p:Bs):Bool:=(List.range p.length).any (Ala g p)
theorem Abn(p:Bs)(hp:p.length≤140737488351232)(b n:Nat)(g:Bs→Option Bs)(w:World)(hM:MG w b n g):
  Calls prog 274 #[.string ⟨p.toArray⟩,.map (some b)] w fun e w'=>e=.returned (.bool (MO g p))∧w'=w:=by
 go_enter func274,ntmps274
 have hsz:ByteArray.size ⟨p.toArray⟩=p.length:=by simp[ByteArray.size]
 go_wp2
 go_loop [10] (fun i=>∃k:Nat,k≤p.length∧i=.int .i64 k∧∀j,j<k→Ala g p j=false) (fun i=>p.length -(Lib.intOf i).toNat)
 case atStart=>exact⟨0,Qa3 _,rfl,fun j hj=>absurd hj zm⟩
 case round=>
  obtain⟨k,hk,hi,hno⟩:=hrel;subst hi
  by_cases hks:k<p.length
  ·have c1:(0:Int)≤(k:Int):=by omega
   have c2:(k:Int)≤(p.length:Int):=zm
   have hlk:=Cy.look hM underlying9 (t:=331) underlying331 (Amu w) (by show([]:Bs).length≤maxLen;unfold maxLen;simp) (k:=p.take k) (by rw[Qc8];unfold maxLen;omega)
   rw[AbR]at hlk;have hnk:Ala g p k=((g (p.take k)).isSome&&(p.getD k 0==47)):=rfl;generalize(g (p.take k)).isSome=ok at hlk hnk;generalize(Elt.str (P:=prog) underlying9).val ((g (p.take k)).getD [])=vv at hlk
   have hget:p.toArray[k]?=some (p.getD k 0):=by
    rw[List.getElem?_toArray,Qa4,Qa0 hks];rfl
   cases ok with
   |false=>
    go_wp2
    refine⟨⟨k+1,zm,zsz,fun j hj=>?_⟩,by simp only[Lib.intOf];omega⟩
    by_cases hjk:j=k
    ·subst hjk;rw[hnk];rfl
    ·exact hno j zm
   |true=>
    have hidx:∀h,((⟨p.toArray⟩:ByteArray)[k]'h)=p.getD k 0:=fun h=>by
     rw[Qa4,Qa0 hks];rfl
    go_wp2
    ·rename_i hb _
     go_ret
     refine⟨?_,rfl⟩
     have hb:p.getD k 0=47:=by
      have h1:=eq_of_beq hb;rw[Qa4,Qa0 hks];exact UInt8.toNat_inj.1 (by rw[show(47:UInt8).toNat=47 from rfl];simp only[Option.getD_some];omega)
     show Ending.returned (Value.bool true)=_;rw[show MO g p=true from List.any_eq_true.2 ⟨k,List.mem_range.2 hks,by rw[hnk,hb];rfl⟩]
    ·rename_i hb;refine⟨⟨k+1,zm,zsz,fun j hj=>?_⟩,by simp only[Lib.intOf];omega⟩
     by_cases hjk:j=k
     ·subst hjk;rw[hnk]
      have hb:p.getD j 0≠47:=fun e=>by
       rw[Qa4,Qa0 hks,Option.getD_some]at e;rw[e]at hb;exact absurd hb zdz
      rw[show(p.getD j 0==47)=false from beq_eq_false_iff_ne.2 hb];rfl
     ·exact hno j zm
  ·have hke:k=p.length:=by omega
   subst hke
   go_wp2
   go_ret
   refine⟨?_,rfl⟩;show Ending.returned (Value.bool false)=_
   rw[show MO g p=false from by
    unfold MO;rw[List.any_eq_false];intro j hj
    rw[hno j (List.mem_range.1 hj)];simp]
theorem AoY{g g':Bs→Option Bs}(h:∀p,g p=g' p)(p:Bs):MO g p=MO g' p:=by rw[show g=g' from funext h]
def AfK(l:List Av)(i:Nat):Bool:=(i==0||Op.bytesLess (l.getD (i -1) ([],[])).1 (l.getD i ([],[])).1)&&!Ahq l (l.getD i ([],[])).1
theorem Zg(l:List Av)(hn:l.length≤1000000)(hl:∀f∈l,f.1.length≤140737488351232∧f.2.length≤140737488351232)(a:Option Addr)(c:Nat)(w:World)(hv:AbY w a l):
  Calls prog 208 #[.slice a l.length c] w fun e w'=>e=.returned (.bool (XV l))∧Below w.heap.size w w':=by
 generalize hRF:XV l=RF
 go_enter func208,ntmps208
 go_wp2_with (go_at_call 211;refine(OH l hn hl a c w hv).mono ?_)
 rintro e w1 ⟨rfl,hM0,hB0⟩
 go_wp2
 go_loopw [10] (fun i wr=>∃k:Nat,k≤l.length∧i=.int .i64 k∧(∀j,j<k→AfK l j=true)∧MG wr w.heap.size l.length (B7 l)∧Below w.heap.size w wr) (fun i _=>l.length -(Lib.intOf i).toNat)
 case atStart=>exact⟨0,Qa3 _,rfl,fun j hj=>absurd hj zm,hM0,hB0⟩
 case round=>
  obtain⟨k,hk,hi,hno,hM,hB⟩:=hrel;subst hi
  by_cases hks:k<l.length
  ·obtain⟨b,off,rfl,hb,q0,q1⟩:=hv.at_ k l[k] (Qa0 hks);have c0:=(hB.cell (p:=⟨b,off+k*2,none⟩) hb).trans q0;have c1:=(hB.cell (p:=⟨b,off+k*2+1,none⟩) hb).trans q1;obtain⟨hl1,hl2⟩:=hl _ (Qc3 hks)
   have hgk:l.getD k ([],[])=l[k]:=by rw[Qa4,Qa0 hks];rfl
   have hok:AfK l k=((k==0||Op.bytesLess (l.getD (k -1) ([],[])).1 l[k].1)&&!MO (B7 l) l[k].1):=by
    unfold AfK;rw[hgk];rfl
   have hnst:=Abn l[k].1 hl1 w.heap.size l.length (B7 l);generalize hx:l[k]=x at c0 c1 hl1 hl2 hok hnst;obtain⟨p,bl⟩:=x;dsimp only at c0 c1 hl1 hl2 hok hnst;have hM2:=Cy.alloc hM (.cells #[.string ⟨p.toArray⟩,.string ⟨bl.toArray⟩] 71);have hB2:=hB.alloc hB.size (.cells #[.string ⟨p.toArray⟩,.string ⟨bl.toArray⟩] 71)
   have hbne:b≠wr.heap.size:=by have:=hB.size;omega
   have hfin:∀W:World,MG W w.heap.size l.length (B7 l)→∀n,MG (W.drewN n) w.heap.size l.length (B7 l):=fun W h n=>Cy.of_block h rfl
   rcases Nat.eq_zero_or_pos k with hk0|hkp
   ·have hok:AfK l k=!MO (B7 l) p:=by rw[hok,hk0];rfl
    have hd0:decide (0<k)=false:=decide_eq_false zm
    have hkz:¬((k:Int)>0):=zm
    clear hk0
    have hnst:∀n,Calls prog 274 #[.string ⟨p.toArray⟩,.map (some w.heap.size)] ((wr.alloc (.cells #[.string ⟨p.toArray⟩,.string ⟨bl.toArray⟩] 71)).drewN n) fun e w'=>e=.returned (.bool (MO (B7 l) p))∧w'=(wr.alloc (.cells #[.string ⟨p.toArray⟩,.string ⟨bl.toArray⟩] 71)).drewN n:=fun n=>hnst _ (hfin _ hM2 n)
    generalize hw2:wr.alloc (.cells #[.string ⟨p.toArray⟩,.string ⟨bl.toArray⟩] 71)=W2 at hM2 hB2 hnst
    have e0:W2.cell? ⟨wr.heap.size,0,none⟩=some (.string ⟨p.toArray⟩):=by rw[←hw2];simp
    have hbn:∀n,Below w.heap.size w (W2.drewN n):=fun n=>⟨hB2.os,hB2.tape,hB2.output,hB2.size,hB2.block⟩
    go_wp2
    clear hw2 hkz;generalize hnb:MO (B7 l) p=nb at hok hnst
    have hfin2:∀b',nb=b'→(b'=true→RF=false):=fun b' hb hbt=>by
     rw[←hRF];refine List.all_eq_false.2 ⟨k,List.mem_range.2 hks,?_⟩;show¬(AfK l k=true);rw[hok,hb,hbt];simp
    cases nb with
    |true=>
     obtain rfl:RF=false:=hfin2 true rfl rfl
     go_quiet ((go_at_call 274;exact Calls.quiet_of_same (hnst _)))
     go_wp2
     go_ret
     exact⟨rfl,hbn _⟩
    |false=>
     go_quiet ((go_at_call 274;exact Calls.quiet_of_same (hnst _)))
     go_wp2
     go_roundw
     case rel=>
      exact⟨k+1,zm,zsz,fun j hj=>by
       by_cases hjk:j=k
       ·subst hjk;rw[hok];rfl
       ·exact hno j zm,hfin _ hM2 _,hbn _⟩
     case measure=>
      simp only[Lib.intOf];omega
   ·obtain⟨j,rfl⟩:∃j,k=j+1:=⟨k -1,zm⟩
    obtain⟨b',off',he,hb',r0,r1⟩:=hv.at_ j l[j] (Qa0 zm);cases he;have d0:=(hB.cell (p:=⟨b,off+j*2,none⟩) hb).trans r0
    have hgj:l.getD (j+1 -1) ([],[])=l[j]:=by rw[Nat.add_sub_cancel,Qa4,Qa0 zm];rfl
    have hok:AfK l (j+1)=(Op.bytesLess l[j].1 p&&!MO (B7 l) p):=by rw[hok,hgj];rfl
    clear r0 r1;generalize l[j].1=q at d0 hok;have hd0:decide (0<j+1)=true:=decide_eq_true zm
    have hkz:(((j+1:Nat):Int)>0):=zm
    have hw1:IntKind.i64.wrap (j:Int)=(j:Int):=w64 zm zm
    have hlj:j<l.length:=zm
    have hnst:∀n,Calls prog 274 #[.string ⟨p.toArray⟩,.map (some w.heap.size)] ((wr.alloc (.cells #[.string ⟨p.toArray⟩,.string ⟨bl.toArray⟩] 71)).drewN n) fun e w'=>e=.returned (.bool (MO (B7 l) p))∧w'=(wr.alloc (.cells #[.string ⟨p.toArray⟩,.string ⟨bl.toArray⟩] 71)).drewN n:=fun n=>hnst _ (hfin _ hM2 n)
    have d1:(wr.alloc (.cells #[.string ⟨p.toArray⟩,.string ⟨bl.toArray⟩] 71)).cell? ⟨b,off+j*2,none⟩=some (.string ⟨q.toArray⟩):=by
     rw[←d0];unfold World.cell?;rw[Below.heap_alloc wr _ b (Qb5 hb hB.size)]
    generalize hw2:wr.alloc (.cells #[.string ⟨p.toArray⟩,.string ⟨bl.toArray⟩] 71)=W2 at hM2 hB2 hnst d1
    have hbn:∀n,Below w.heap.size w (W2.drewN n):=fun n=>⟨hB2.os,hB2.tape,hB2.output,hB2.size,hB2.block⟩
    have e0:W2.cell? ⟨wr.heap.size,0,none⟩=some (.string ⟨p.toArray⟩):=by rw[←hw2];simp
    have hlt3:Op.bytesLess (ByteArray.toList ⟨q.toArray⟩) (ByteArray.toList ⟨p.toArray⟩)=Op.bytesLess q p:=by rw[Lib.toList_data,Lib.toList_data]
    generalize hlt:Op.bytesLess q p=lt at hok hlt3
    go_wp2
    clear hw2 hkz;generalize hnb:MO (B7 l) p=nb at hok hnst
    have hfin2:(lt&&!nb)=false→RF=false:=fun hb=>by
     rw[←hRF];refine List.all_eq_false.2 ⟨j+1,List.mem_range.2 hks,?_⟩;show¬(AfK l (j+1)=true);rw[hok,hb];simp
    cases lt with
    |false=>
     obtain rfl:RF=false:=hfin2 rfl
     go_quiet ((go_at_call 274;exact Calls.quiet_of_same (hnst _)))
     go_wp2
     go_ret
     exact⟨rfl,hbn _⟩
    |true=>
     cases nb with
     |true=>
      obtain rfl:RF=false:=hfin2 rfl
      go_quiet ((go_at_call 274;exact Calls.quiet_of_same (hnst _)))
      go_wp2
      go_ret
      exact⟨rfl,hbn _⟩
     |false=>
      go_quiet ((go_at_call 274;exact Calls.quiet_of_same (hnst _)))
      go_wp2
      go_roundw
      case rel=>
       exact⟨j+2,zm,congrArg (Value.int .i64) zm,fun i hi=>by
        by_cases hjk:i=j+1
        ·subst hjk;rw[hok];rfl
        ·exact hno i zm,hfin _ hM2 _,hbn _⟩
      case measure=>
       simp only[Lib.intOf];omega
  ·have hke:k=l.length:=by omega
   subst hke
   have hz:RF=true:=by
    rw[←hRF]
    exact List.all_eq_true.2 fun j hj=>hno j (List.mem_range.1 hj)
   subst hz
   go_wp2
   go_ret
   exact⟨rfl,hB⟩
theorem AkI:∀(l:List Av) {k:Nat} {s:Av},l[k]?=some s→∀{j:Nat},j<2→(l.map ((BT.pair .str .str).enc .leaf)).flatten[k*2+j]?=[AV.lit (.string ⟨s.1.toArray⟩),AV.lit (.string ⟨s.2.toArray⟩)][j]?
 |[],_,_,h,_,_=>nomatch h
 |t::l,0,s,h,j,hj=>by
  obtain rfl:t=s:=by simpa using h
  show([AV.lit (.string ⟨t.1.toArray⟩),AV.lit (.string ⟨t.2.toArray⟩)]++(l.map ((BT.pair .str .str).enc .leaf)).flatten)[0*2+j]?=_;rw[Qd6 (by simp;omega)]
  simp
 |t::l,k+1,s,h,j,hj=>by
  show([AV.lit (.string ⟨t.1.toArray⟩),AV.lit (.string ⟨t.2.toArray⟩)]++(l.map ((BT.pair .str .str).enc .leaf)).flatten)[(k+1)*2+j]?=_;rw[Qd4 (by simp;omega)]
  have:=AkI l (k:=k) (s:=s) (by simpa using h) hj;rw[←this]
  congr 1
  simp only[Qb3,Qd8];omega
theorem ApE(l:List Av):∀x∈l.map ((BT.pair .str .str).enc .leaf),∀a∈x,∃u,a=AV.lit u:=by
 intro x hx a ha;obtain⟨s,_,rfl⟩:=List.mem_map.1 hx;have ha:a∈[AV.lit (.string ⟨s.1.toArray⟩),AV.lit (.string ⟨s.2.toArray⟩)]:=ha;simp only[Qc4,Qb7,or_false]at ha
 rcases ha with rfl|rfl<;>exact⟨_,rfl⟩
theorem Xl{C:Ctx}{w:World}{l:List Av}{v:Value}{f:List Nat}(h:RV C w (.sl .brw 2 (l.map ((BT.pair .str .str).enc .leaf))) v f):∃a c,v=.slice a l.length c∧AbY w a l:=by
 obtain⟨hrd,_⟩:=AbF h (ApE l)
 rcases hrd with⟨hnil,a,c,hv⟩|⟨b,off,c,hv,hb,hc⟩
 ·have hnil:l=[]:=by simpa using hnil
  subst hnil;exact⟨a,c,hv,⟨fun k s hk=>by simp at hk⟩⟩
 ·refine⟨some ⟨b,off,none⟩,c,by simpa using hv,⟨fun k s hk=>⟨b,off,rfl,hb,?_,?_⟩⟩⟩
  ·have:=hc (k*2+0) _ ((AkI l hk zdz).trans rfl);simpa using this
  ·have:=hc (k*2+1) _ ((AkI l hk zdz).trans rfl);simpa[Nat.add_assoc]using this
theorem AfL:QL (Pg.of prog):=by
 intro l hn hl
 refine Fn.Um (S:=HI) rfl rfl l (XV l) () rfl fun f fn hf hfn=>?_
 have hfi:f=208:=Ec zk hf hfn;subst hfi;have hfe:=Qa6 (hf.symm.trans func208);subst hfe;refine⟨zk,zk,fun μ sv w vs hsv hw hargs=>?_⟩;obtain⟨hsize,hat⟩:=hargs;have hsv:svs μ dv dl [.one (.sl .brw .leaf (.pair .str .str) l)] sv:=hsv
 match sv,hsv with
 |[s0],⟨⟨a0,e0,r0⟩,_⟩=>
  have r0:a0=.sl .brw 2 (l.map ((BT.pair .str .str).enc .leaf)):=r0;subst e0 r0;obtain⟨C0,f0,_,h0⟩:=hat 0 _ rfl;obtain⟨a,c,hv0,hst⟩:=Xl (show RV C0 w (.sl .brw 2 (l.map ((BT.pair .str .str).enc .leaf))) (vs.getD 0 undef) f0 from h0)
  have hvs:vs=#[.slice a l.length c]:=by
   apply Qd9
   ·simpa using hsize
   ·intro i hi1 hi2
    have hi:i=0:=by simp at hi2;omega
    subst hi
    have:vs.getD 0 undef=vs[0]:=by simp[hi1]
    rw[←this,hv0];rfl
  subst hvs;exact Zg l hn hl a c w hst
end Go.Proofs.Tryz
namespace Go.Proofs.Tryz
open Go.Shelf Go.RowKit Go.VS Go Go.Maps
def Afn(x:BF):List Value:=[.string ⟨x.1.toArray⟩,.int .i64 x.2]
theorem Nz{kt et:TypeId}{α:Type}{E:Elt prog et α}{w:World}{base:Nat}{e:TypeId}{size:Nat}{v:Value}{m:Nat}{xs:List Value}{b n:Nat}{g:Bs→Option α}(h:w.ownsRow base e size v m xs)(hm:Cy prog kt E w b n g):v.ownBlock≠some b:=by
 obtain⟨D,⟨es,clock,hb,_⟩,_⟩:=hm
 rcases h.2 with⟨rfl,_⟩|⟨g,cap,cur,rfl,_,hc,_⟩
 ·exact fun h=>nomatch h
 ·intro e1
  have:g=b:=by simpa[Value.ownBlock]using e1
  subst this;rw[hb]at hc;cases hc
theorem AqK{w:World}{base:Nat}{e:TypeId}{size:Nat}{v:Value}{m:Nat}{xs:List Value}(h:w.ownsRow base e size v m xs)(o:Obj):(w.alloc o).ownsRow base e size v m xs:=h.alloc o
theorem TG{w0 w w':World}{base:Nat}{e:TypeId}{size:Nat}{v:Value}{m:Nat}{xs:List Value}(hB:Below base w0 w)(h:w.ownsRow base e size v m xs)(hg:w.grownBy w' v.ownBlock)(hs:base≤w0.heap.size):Below base w0 w':=
 ⟨hg.os.trans hB.os,hg.tape.trans hB.tape,hg.output.trans hB.output,Qa9 hB.size hg.size,fun i hi=>by
  have hs:=hB.size
  exact(hg.block i zm (fun e1=>by have:=(h.lt i e1.symm).1;omega)).trans (hB.block i hi)⟩
theorem Aik(o:List BF)(x:BF):(o.map Afn).flatten++[.string ⟨x.1.toArray⟩,.int .i64 x.2]=((o++[x]).map Afn).flatten:=by
 rw[Qe0,Qd2];rfl
def Mj(w:World)(B:Nat)(v:Value)(l:List BF):Prop:=w.ownsRow B 63 2 v l.length (l.map Afn).flatten
theorem Apa(B:Nat){ops:Array Oper}{rest:List Oper}{o:Oper}{a:Act}{Q:Exit→Act→World→Prop}{s x:Operand}{w1:World}{v:Value}{l:List BF}{g:Nat}{p:Bs}{k:Int}
  (hgd:o.guard=none) (ho:o.op=.call {callee:=.builtin .append,args:=#[s,x],argTypes:=#[59,59]}) (hs:a.eval s=v) (hown:Mj w1 B v l)
  (hx:a.eval x=.slice (some ⟨g,0,none⟩) 1 1) (hc0:w1.cell? ⟨g,0,none⟩=some (.string ⟨p.toArray⟩)) (hc1:w1.cell? ⟨g,1,none⟩=some (.int .i64 k)) (hn:l.length≤100000000) (hB:B≤w1.heap.size)
  (hk:∀v' w',Mj w' B v' (l++[(p,k)])→w1.grownBy w' v.ownBlock→wpList prog ops Q rest (a.put o.dst v') w'):wpList prog ops Q (o::rest) a w1:=by
 obtain⟨i0,hi,hz0,hz1,hz2⟩:=info_parts (P:=prog) (e:=63) (z:=.agg #[.string ⟨#[]⟩,.int .i64 0]) (size:=2) (bytes:=24) zk;refine wpList_append_own w1 hgd s x 59 ho B 63 i0 (.agg #[.string ⟨#[]⟩,.int .i64 0]) 2 24 underlying59 hi hz0 hz1 hz2 rfl zdz v l.length _ hs hown ⟨g,0,none⟩ 1 1 [.string ⟨p.toArray⟩,.int .i64 k] hx rfl ?_ ?_ ?_ ?_ hB ?_
 ·intro j u hj
  match j,hj with
  |0,hj=>
   have:Value.string ⟨p.toArray⟩=u:=by simpa using hj
   subst this;exact hc0
  |1,hj=>
   have:Value.int .i64 k=u:=by simpa using hj
   subst this;exact hc1
  |j+2,hj=>simp at hj
 ·intro u hu;simp only[Qc4,Qb7,or_false]at hu
  rcases hu with rfl|rfl<;>rfl
 ·unfold maxLen;omega
 ·omega
 ·intro v' w' h1 h2 _;rw[Aik l (p,k)]at h1;exact hk v' w' (by unfold Mj;rw[Qa5];exact h1) h2
theorem Ag8{l:List Av}{g:Av→Option BF}{k:Nat}{x:Av}(h:l[k]?=some x):(l.take (k+1)).filterMap g=(l.take k).filterMap g++(g x).toList:=by
 rw[List.take_add_one,h,List.filterMap_append];simp only[Option.toList_some]
 cases hg:g x with
 |none=>simp[hg]
 |some v=>simp[hg]
def AmA(a b:List Av)(w:World)(e:Ending)(w':World):Prop:=∃(v:Value) (d:List BF),e=.returned (.tuple #[v,.int .i64 0])∧Below w.heap.size w w'∧Mj w' w.heap.size v d∧
 d.Perm (Qp a b)∧d.Pairwise fun x y=>Op.bytesLess y.1 x.1=false
def AoJ(B:Nat):Prop:=∀(v:Value) (d:List BF) (W:World),Mj W B v d→d.length≤4000000→Calls prog 212 #[v,.func (.func 213) #[] #[]] W fun e w'=>e=.returned (.tuple #[])∧W.grownBy w' v.ownBlock∧∃d':List BF,d'.Perm d∧(d'.Pairwise fun x y=>Op.bytesLess y.1 x.1=false)∧Mj w' B v d'
def L1(a b:List Av)(R1 R2 B:Nat)(w:World)(k:Nat)(v:Value)(wr:World):Prop:=Mj wr B v ((a.take k).filterMap (JG b))∧MG wr R1 a.length (B7 a)∧MG wr R2 b.length (B7 b)∧Below B w wr
def L2(a b:List Av)(R1 R2 B:Nat)(w:World)(k:Nat)(v:Value)(wr:World):Prop:=Mj wr B v (a.filterMap (JG b)++(b.take k).filterMap (OD a))∧MG wr R1 a.length (B7 a)∧MG wr R2 b.length (B7 b)∧Below B w wr
theorem L1.grow{a b:List Av}{R1 R2 B:Nat}{w W w':World}{v v':Value}{o:List BF}{k:Nat}(hs:B=w.heap.size)(hMa:MG W R1 a.length (B7 a))(hMb:MG W R2 b.length (B7 b))(hB:Below B w W)(hown:Mj W B v o)(hg:W.grownBy w' v.ownBlock)(hown':Mj w' B v' ((a.take k).filterMap (JG b))):L1 a b R1 R2 B w k v' w':=
 ⟨hown',hMa.of_block (hg.block _ hMa.lt (fun e=>Nz hown hMa e.symm)),hMb.of_block (hg.block _ hMb.lt (fun e=>Nz hown hMb e.symm)),TG hB hown hg (by rw[hs];exact Qa1 _)⟩
theorem L2.grow{a b:List Av}{R1 R2 B:Nat}{w W w':World}{v v':Value}{o:List BF}{k:Nat}(hs:B=w.heap.size)(hMa:MG W R1 a.length (B7 a))(hMb:MG W R2 b.length (B7 b))(hB:Below B w W)(hown:Mj W B v o)(hg:W.grownBy w' v.ownBlock)(hown':Mj w' B v' (a.filterMap (JG b)++(b.take k).filterMap (OD a))):L2 a b R1 R2 B w k v' w':=
 ⟨hown',hMa.of_block (hg.block _ hMa.lt (fun e=>Nz hown hMa e.symm)),hMb.of_block (hg.block _ hMb.lt (fun e=>Nz hown hMb e.symm)),TG hB hown hg (by rw[hs];exact Qa1 _)⟩
theorem Anp(w:World)(B:Nat):Mj w B (.slice none 0 0) []:=World.ownsRow_nil _ _ _ _
theorem Afk(a b:List Av)(ha:Gp a)(hb:Gp b)(pa pb:Option Addr)(ca cb:Nat)(w:World)(hva:AbY w pa a)(hvb:AbY w pb b)
  (hbo:Calls prog 210 #[.slice pa a.length ca,.slice pb b.length cb] w fun e w'=>e=.returned (.int .i64 0)∧Below w.heap.size w w')
  (hsort:AoJ w.heap.size):
  Calls prog 143 #[.slice pa a.length ca,.slice pb b.length cb] w (AmA a b w):=by
 have hna:=ha.1;have hnb:=hb.1
 go_enter func143,ntmps143
 have honce:True:=trivial
 go_wp2_with (go_at_call 210;have hx:=honce;clear hx honce;refine hbo.mono ?_;rintro e w1 ⟨rfl,hB1⟩)
 have hva1:=hva.below hB1;have honce:True:=trivial
 go_wp2_with (go_at_call 211;have hx:=honce;clear hx honce;refine(OH a ha.1 ha.2 pa ca w1 hva1).mono ?_;rintro e w2 ⟨rfl,hMa,hB2⟩)
 have hB02:=hB1.trans (hB2.mono hB1.size);have hvb2:=hvb.below hB02;have hlta:=hMa.lt;have honce:True:=trivial
 go_wp2_with (go_at_call 211;have hx:=honce;clear hx honce;refine(OH b hb.1 hb.2 pb cb w2 hvb2).mono ?_;rintro e w3 ⟨rfl,hMb,hB3⟩)
 have hB03:=hB02.trans (hB3.mono hB02.size);have hMa:=hMa.below hB3 hlta;clear hB1 hB2 hB3 hva1 hvb2 hB02 hbo hlta;generalize w1.heap.size=R1 at*;generalize w2.heap.size=R2 at*
 have h1:L1 a b R1 R2 w.heap.size w 0 (.slice none 0 0) w3:=⟨Anp _ _,hMa,hMb,hB03⟩
 clear hMa hMb hB03
 go_loopw [9,30] (fun v i wr=>∃k:Nat,k≤a.length∧i=.int .i64 k∧L1 a b R1 R2 w.heap.size w k v wr) (fun _ i _=>a.length -(Lib.intOf i).toNat)
 case atStart=>exact⟨0,Qa3 _,rfl,h1⟩
 case round=>
  obtain⟨k,hk,hi,hL⟩:=hrel;subst hi
  by_cases hks:k<a.length
  ·obtain⟨hown,hMa,hMb,hB⟩:=hL;obtain⟨bl,off,rfl,hbl,q0,q1⟩:=hva.at_ k a[k] (Qa0 hks);have c0:=(hB.cell (p:=⟨bl,off+k*2,none⟩) hbl).trans q0;have c1:=(hB.cell (p:=⟨bl,off+k*2+1,none⟩) hbl).trans q1;obtain⟨hl1,hl2⟩:=ha.2 _ (Qc3 hks)
   have hlen:((a.take k).filterMap (JG b)).length≤1000000:=Qa9 (Qc6 ..) (by rw[Qc8];omega)
   have hfin:∀(W w':World) (v v':Value) (o:List BF),Below w.heap.size w W→MG W R1 a.length (B7 a)→MG W R2 b.length (B7 b)→Mj W w.heap.size v o→W.grownBy w' v.ownBlock→Mj w' w.heap.size v' ((a.take k).filterMap (JG b)++(JG b a[k]).toList)→L1 a b R1 R2 w.heap.size w (k+1) v' w':=fun W w' v v' o hB hMa hMb hown hg hown'=>
    L1.grow rfl hMa hMb hB hown hg (by rw[Ag8 (Qa0 hks)];exact hown')
   generalize(a.take k).filterMap (JG b)=o at hown hfin hlen;generalize hx:a[k]=x at c0 c1 hl1 hl2 hfin;obtain⟨p,bo⟩:=x;dsimp only at c0 c1 hl1 hl2 hfin;have hMa2:=Cy.alloc hMa (.cells #[.string ⟨p.toArray⟩,.string ⟨bo.toArray⟩] 71);have hMb2:=Cy.alloc hMb (.cells #[.string ⟨p.toArray⟩,.string ⟨bo.toArray⟩] 71)
   have hB2:=hB.alloc hB.size (.cells #[.string ⟨p.toArray⟩,.string ⟨bo.toArray⟩] 71);have hown2:Mj _ _ _ _:=hown.alloc (.cells #[.string ⟨p.toArray⟩,.string ⟨bo.toArray⟩] 71);have hlk:=Cy.look hMb2 underlying9 (t:=331) underlying331 (Amu _) (by show([]:Bs).length≤maxLen;unfold maxLen;simp) (k:=p) (by unfold maxLen;omega)
   have hsz:=hB.size
   have hg0:∀W:World,W.grownBy W none:=fun W=>⟨rfl,rfl,rfl,Qa1 _,fun _ _ _=>rfl⟩
   cases hg:B7 b p with
   |none=>
    have hrm:(JG b (p,bo)).toList=[(p,2)]:=by unfold JG;dsimp only;rw[hg];rfl
    rw[hrm]at hfin;rw[hg]at hlk;have hlk2:(Instr.lookup 331 (.map (some R2)) (.string ⟨p.toArray⟩) true).run prog (wr.alloc (.cells #[.string ⟨p.toArray⟩,.string ⟨bo.toArray⟩] 71))=.ok (.tuple #[.string ⟨#[]⟩,.bool false]) (wr.alloc (.cells #[.string ⟨p.toArray⟩,.string ⟨bo.toArray⟩] 71)):=hlk;clear hlk hg hMa hMb hown hrm
    go_wp2_with (at_builtin;refine Apa w.heap.size (p:=p) (k:=2) rfl rfl rfl (World.ownsRow.alloc hown2 _) rfl ?b0 ?b1 ?b2 ?b3 ?b4)
    case b0=>simp
    case b1=>simp
    case b2=>exact Qa9 hlen zdz
    case b3=>simp;omega
    intro v2 w4 hown4 hg4
    go_wp2
    go_roundw
    case rel=>exact⟨k+1,zm,zsz,hfin _ _ _ _ _ (hB2.alloc (by simp;omega) _) (hMa2.alloc _) (hMb2.alloc _) (World.ownsRow.alloc hown2 _) hg4 hown4⟩
    case measure=>simp only[Lib.intOf];omega
   |some u=>
    rw[hg]at hlk;have hlk2:(Instr.lookup 331 (.map (some R2)) (.string ⟨p.toArray⟩) true).run prog (wr.alloc (.cells #[.string ⟨p.toArray⟩,.string ⟨bo.toArray⟩] 71))=.ok (.tuple #[.string ⟨u.toArray⟩,.bool true]) (wr.alloc (.cells #[.string ⟨p.toArray⟩,.string ⟨bo.toArray⟩] 71)):=hlk;clear hlk hMa hMb hown
    by_cases hu:u=bo
    ·have hrm:(JG b (p,bo)).toList=[]:=by unfold JG;dsimp only;rw[hg];dsimp only;rw[if_pos hu];rfl
     rw[hrm,Qb0]at hfin;clear hrm hg;subst hu;have hbq:(ByteArray.toList ⟨u.toArray⟩==ByteArray.toList ⟨u.toArray⟩)=true:=beq_self_eq_true _
     go_wp2
     go_roundw
     case rel=>exact⟨k+1,zm,zsz,hfin _ _ _ _ _ hB2 hMa2 hMb2 hown2 ⟨rfl,rfl,rfl,Qa1 _,fun _ _ _=>rfl⟩ hown2⟩
     case measure=>simp only[Lib.intOf];omega
    ·have hrm:(JG b (p,bo)).toList=[(p,3)]:=by unfold JG;dsimp only;rw[hg];dsimp only;rw[if_neg hu];rfl
     rw[hrm]at hfin;clear hrm hg
     have hbq:(u==bo)=false:=by simpa using hu
     clear hu
     go_wp2_with (at_builtin;refine Apa w.heap.size (p:=p) (k:=3) rfl rfl rfl (World.ownsRow.alloc hown2 _) rfl ?c0 ?c1 ?c2 ?c3 ?c4)
     case c0=>simp
     case c1=>simp
     case c2=>exact Qa9 hlen zdz
     case c3=>simp;omega
     intro v2 w4 hown4 hg4
     go_wp2
     go_roundw
     case rel=>exact⟨k+1,zm,zsz,hfin _ _ _ _ _ (hB2.alloc (by simp;omega) _) (hMa2.alloc _) (hMb2.alloc _) (World.ownsRow.alloc hown2 _) hg4 hown4⟩
     case measure=>simp only[Lib.intOf];omega
  ·have hke:k=a.length:=by omega
   subst hke
   have h2:L2 a b R1 R2 w.heap.size w 0 _ wr:=⟨by have:=hL.1;rw[Qc7]at this;rw[List.take_zero,List.filterMap_nil,Qb0];exact this,hL.2⟩
   clear hL
   go_wp2
   go_loopw [9,62] (fun v i wr=>∃k:Nat,k≤b.length∧i=.int .i64 k∧L2 a b R1 R2 w.heap.size w k v wr) (fun _ i _=>b.length -(Lib.intOf i).toNat)
   case atStart=>exact⟨0,Qa3 _,rfl,h2⟩
   case round=>
    clear h2;obtain⟨k,hk,hi,hL⟩:=hrel;subst hi
    by_cases hks:k<b.length
    ·obtain⟨hown,hMa,hMb,hB⟩:=hL;obtain⟨bl,off,rfl,hbl,q0,q1⟩:=hvb.at_ k b[k] (Qa0 hks);have c0:=(hB.cell (p:=⟨bl,off+k*2,none⟩) hbl).trans q0;have c1:=(hB.cell (p:=⟨bl,off+k*2+1,none⟩) hbl).trans q1;obtain⟨hl1,hl2⟩:=hb.2 _ (Qc3 hks)
     have hlen:(a.filterMap (JG b)++(b.take k).filterMap (OD a)).length≤2000000:=by
      have e1:=Qc6 (JG b) a;have e2:=Qc6 (OD a) (b.take k);rw[Qc8]at e2;rw[Qa5];omega
     have hfin:∀(W w':World) (v v':Value) (o:List BF),Below w.heap.size w W→MG W R1 a.length (B7 a)→MG W R2 b.length (B7 b)→Mj W w.heap.size v o→W.grownBy w' v.ownBlock→Mj w' w.heap.size v' (a.filterMap (JG b)++(b.take k).filterMap (OD a)++(OD a b[k]).toList)→L2 a b R1 R2 w.heap.size w (k+1) v' w':=fun W w' v v' o hB hMa hMb hown hg hown'=>
      L2.grow rfl hMa hMb hB hown hg (by rw[Ag8 (Qa0 hks),←List.append_assoc];exact hown')
     generalize a.filterMap (JG b)++(b.take k).filterMap (OD a)=o at hown hfin hlen;generalize hx:b[k]=x at c0 c1 hl1 hl2 hfin;obtain⟨p,bo⟩:=x;dsimp only at c0 c1 hl1 hl2 hfin;have hMa2:=Cy.alloc hMa (.cells #[.string ⟨p.toArray⟩,.string ⟨bo.toArray⟩] 71);have hMb2:=Cy.alloc hMb (.cells #[.string ⟨p.toArray⟩,.string ⟨bo.toArray⟩] 71)
     have hB2:=hB.alloc hB.size (.cells #[.string ⟨p.toArray⟩,.string ⟨bo.toArray⟩] 71);have hown2:Mj _ _ _ _:=hown.alloc (.cells #[.string ⟨p.toArray⟩,.string ⟨bo.toArray⟩] 71);have hlk:=Cy.look hMa2 underlying9 (t:=331) underlying331 (Amu _) (by show([]:Bs).length≤maxLen;unfold maxLen;simp) (k:=p) (by unfold maxLen;omega)
     have hsz:=hB.size
     cases hg:B7 a p with
     |none=>
      have hrm:(OD a (p,bo)).toList=[(p,1)]:=by unfold OD;dsimp only;rw[hg];rfl
      rw[hrm]at hfin;rw[hg]at hlk;have hlk2:(Instr.lookup 331 (.map (some R1)) (.string ⟨p.toArray⟩) true).run prog (wr.alloc (.cells #[.string ⟨p.toArray⟩,.string ⟨bo.toArray⟩] 71))=.ok (.tuple #[.string ⟨#[]⟩,.bool false]) (wr.alloc (.cells #[.string ⟨p.toArray⟩,.string ⟨bo.toArray⟩] 71)):=hlk;clear hlk hg hMa hMb hown hrm
      go_wp2_with (at_builtin;refine Apa w.heap.size (p:=p) (k:=1) rfl rfl rfl (World.ownsRow.alloc hown2 _) rfl ?d0 ?d1 ?d2 ?d3 ?d4)
      case d0=>simp
      case d1=>simp
      case d2=>exact Qa9 hlen zdz
      case d3=>simp;omega
      intro v2 w4 hown4 hg4
      go_wp2
      go_roundw
      case rel=>exact⟨k+1,zm,zsz,hfin _ _ _ _ _ (hB2.alloc (by simp;omega) _) (hMa2.alloc _) (hMb2.alloc _) (World.ownsRow.alloc hown2 _) hg4 hown4⟩
      case measure=>simp only[Lib.intOf];omega
     |some u=>
      rw[hg]at hlk;have hlk2:(Instr.lookup 331 (.map (some R1)) (.string ⟨p.toArray⟩) true).run prog (wr.alloc (.cells #[.string ⟨p.toArray⟩,.string ⟨bo.toArray⟩] 71))=.ok (.tuple #[.string ⟨u.toArray⟩,.bool true]) (wr.alloc (.cells #[.string ⟨p.toArray⟩,.string ⟨bo.toArray⟩] 71)):=hlk
      have hrm:(OD a (p,bo)).toList=[]:=by unfold OD;dsimp only;rw[hg];rfl
      rw[hrm,Qb0]at hfin;clear hlk hMa hMb hown hrm hg
      go_wp2
      go_roundw
      case rel=>exact⟨k+1,zm,zsz,hfin _ _ _ _ _ hB2 hMa2 hMb2 hown2 ⟨rfl,rfl,rfl,Qa1 _,fun _ _ _=>rfl⟩ hown2⟩
      case measure=>simp only[Lib.intOf];omega
    ·have hke:k=b.length:=by omega
     subst hke;obtain⟨hown,hMa,hMb,hB⟩:=hL;rw[Qc7]at hown;have hgath:a.filterMap (JG b)++b.filterMap (OD a)=Qp a b:=rfl;rw[hgath]at hown;have hgl:(Qp a b).length≤4000000:=Qa9 (AkQ a b) zm;clear hgath hMa hMb;have honce:True:=trivial
     go_wp2_with (go_at_call 212;have hx:=honce;clear hx honce;refine(hsort _ _ _ hown hgl).mono ?_;rintro e w5 ⟨rfl,hg5,d',hp5,hs5,hown5⟩)
     go_ret2
     exact⟨_,d',rfl,TG hB hown hg5 (Qa1 _),hown5,hp5,hs5⟩
theorem Akt(a b:List Av)(pa pb:Option Addr)(ca cb:Nat)(w:World)(E:Int)(hE:¬E=0)
  (hbo:Calls prog 210 #[.slice pa a.length ca,.slice pb b.length cb] w fun e w'=>e=.returned (.int .i64 E)∧Below w.heap.size w w'):
  Calls prog 143 #[.slice pa a.length ca,.slice pb b.length cb] w fun e w'=>e=.returned (.tuple #[.slice none 0 0,.int .i64 E])∧Below w.heap.size w w':=by
 go_enter func143,ntmps143
 have honce:True:=trivial
 go_wp2_with (go_at_call 210;have hx:=honce;clear hx honce;refine hbo.mono ?_;rintro e w1 ⟨rfl,hB1⟩)
 go_ret2
 exact⟨rfl,hB1⟩
end Go.Proofs.Tryz
namespace Go.VS
open Go.RowKit Go Go.Sort Go.Proofs
theorem LL{α β:Type}{enc:α→List β}{k:Nat}(hk:∀x,(enc x).length=k):∀(ss:List α) {j:Nat} {x:α} {c:Nat},ss[j]?=some x→c<k→(ss.map enc).flatten[j*k+c]?=(enc x)[c]?
 |[],_,_,_,h,_=>nomatch h
 |y::ss,0,x,c,h,hc=>by
  obtain rfl:y=x:=by simpa using h
  rw[Qe7,Qd5,Nat.zero_mul,Qd1,Qd6 (by rw[hk];exact hc)]
 |y::ss,j+1,x,c,h,hc=>by
  rw[Qe7,Qd5,Qd4 (by rw[hk,Qe2];omega),hk]
  have:=LL hk ss (j:=j) (x:=x) (by simpa using h) hc;rw[←this]
  congr 1
  rw[Qe2];omega
section
variable{α:Type}[Inhabited α]{enc:α→List Value}{k:Nat}
theorem HQ(hk:∀x,(enc x).length=k):∀ss:List α,(ss.map enc).flatten.length=ss.length*k
 |[]=>zsz
 |y::ss=>by
  rw[Qe7,Qd5,Qa5,hk,HQ hk ss,Qb3,Qe2];omega
theorem WV(hk:∀x,(enc x).length=k)(ss:List α):flatK enc k ss.toArray=(ss.map enc).flatten.toArray:=by
 refine Qd9 (by simp only[size_flatK,Qb2,HQ hk]) fun t h1 h2=>?_
 have ht:t<ss.length*k:=by simpa using h1
 have k0:0<k:=by
  rcases Nat.eq_zero_or_pos k with h|h
  ·subst h;simp at ht
  ·exact h
 have hq:t/k<ss.length:=Nat.div_lt_of_lt_mul (by rwa [Qd7]at ht);have hr:t%k<k:=Nat.mod_lt _ k0;have e:=get_flatK enc k ss.toArray t (by simpa using ht);rw[getElem!_pos _ t h1]at e;rw[e];have f:=LL hk ss (j:=t/k) (x:=ss[t/k]) (c:=t%k) (Qa0 hq) hr
 rw[show t/k*k+t%k=t by rw[Qd7];exact Nat.div_add_mod t k]at f
 have hl:t<(ss.map enc).flatten.length:=by rw[HQ hk];exact ht
 rw[Qa0 hl,Qa0 (by rw[hk];exact hr)]at f
 have f:=Qa6 f
 have e2:ss.toArray[t/k]! =ss[t/k]:=by rw[getElem!_pos _ _ (by simpa using hq)];simp
 rw[e2,getElem!_pos _ _ (by rw[hk];exact hr),←f]
 simp
theorem VF(hk:∀x,(enc x).length=k){w:World}{g:Nat}{cur:Array Value}{e:TypeId}{ss:List α}(hb:w.heap[g]?=some (.cells cur e (0,0)))(ht:cur.toList.take (ss.length*k)=(ss.map enc).flatten):HoldsK enc k w g 0 ss.toArray:=by
 unfold HoldsK;rw[WV hk];intro j hj
 have hj':j<ss.length*k:=by rw[←HQ hk ss];simpa using hj
 refine⟨?_,by simp[World.frozen?,hb]⟩
 have h1:(cur.toList.take (ss.length*k))[j]?=((ss.map enc).flatten)[j]?:=by rw[ht]
 rw[Qb1 hj']at h1;simp only[World.cell?,hb,Qd1];simp only[Option.isSome_none,Bool.false_eq_true,if_false]
 have hl:j<(ss.map enc).flatten.length:=by rw[HQ hk];exact hj'
 rw[←Qc0,h1,Qa0 hl,getElem!_pos _ j hj];simp
theorem Aba{w:World}{g n:Nat}{os:Array Obj}{cur:Array Value}{e:TypeId}{fr:Nat×Nat}(d:Array α)(hb:w.heap[g]?=some (.cells cur e fr)):
  (sortWorldK enc k w g 0 n d os).heap[g]?=some (.cells (putCells id 0 (flatK enc k d) cur) e fr):=by
 have hg:g<w.heap.size:=(Array.getElem?_eq_some_iff.1 hb).1;unfold sortWorldK putRowK;rw[heap_grow_old _ _ (by simpa using hg)];simp[putRow,mapBlock,Sort.ahead,Qc1,hb,onCells]
theorem Vu{w:World}{g n:Nat}{os:Array Obj}(d:Array α):w.grownBy (sortWorldK enc k w g 0 n d os) (some g):=by
 unfold sortWorldK putRowK;refine⟨rfl,rfl,rfl,zsz,fun k hk hne=>?_⟩;rw[heap_grow_old _ _ (by simpa using hk)]
 have:g≠k:=fun e=>hne (by rw[e])
 simp[putRow,mapBlock,Sort.ahead,Qc1,this]
theorem YB(hk:∀x,(enc x).length=k)(cur:Array Value)(ts:List α)(h:ts.length*k≤cur.size):(putCells id 0 (flatK enc k ts.toArray) cur).toList.take (ts.length*k)=(ts.map enc).flatten:=by
 rw[WV hk];have hl:=HQ hk ts;rw[←hl]at h⊢;generalize(ts.map enc).flatten=L at h;apply List.ext_getElem?;intro j
 by_cases hj:j<L.length
 ·rw[Qb1 hj,Qc0];simp[putCells,hj,show j<cur.size by omega]
 ·rw[Qc5 zm,List.getElem?_eq_none zm]
theorem VH(hk:∀x,(enc x).length=k){w:World}{base g cap n:Nat}{e:TypeId}{os:Array Obj}{cur:Array Value}{ss ts:List α}(hl:ts.length=ss.length)(hbase:base≤g)(hb:w.heap[g]?=some (.cells cur e (0,0)))
  (h1:ss.length≤cap) (h2:cap≤maxLen) (h3:cur.size=cap*k):
  (sortWorldK enc k w g 0 n ts.toArray os).ownsRow base e k (.slice (some ⟨g,0,none⟩) ss.length cap) ss.length (ts.map enc).flatten:=
 ⟨by rw[HQ hk,hl],.inr ⟨g,cap,_,rfl,hbase,Aba _ hb,h1,h2,by simp[putCells,h3],by
  rw[←hl];exact YB hk cur ts (by rw[h3,hl];exact Nat.mul_le_mul_right _ h1)⟩⟩
theorem toList_perm{d d':Array α}(h:PermIn 0 d.size d d'):d'.toList.Perm d.toList:=by
 obtain⟨h1,_,h3⟩:=h
 have e1:d.extract 0 d.size=d:=zsz
 have e2:d'.extract 0 d.size=d':=by rw[←h1];simp
 rw[e1,e2]at h3;exact h3
theorem Zp{lt:α→α→Bool}{d d':Array α}(hs:d'.size=d.size)(h:SortedIn lt 0 d.size d'):d'.toList.Pairwise fun x y=>lt y x=false:=by
 rw[List.pairwise_iff_getElem];intro i j hi hj hij
 have hi':i<d'.size:=by simpa using hi
 have hj':j<d'.size:=by simpa using hj
 have:=h i j (Qa3 _) hij zm;rw[getElem!_pos d' j hj',getElem!_pos d' i hi']at this;simpa using this
end
def AqM(s:SV):Prop:=(∃u,s=.one (.lit u))∨∃k xs,s=.one (.sl .brw k xs)∧∀x∈xs,∀a∈x,∃u,a=AV.lit u
theorem Alw{P:Pg}{w w':World}{av:List SV}{vs:Array Value}(h:Jp P w av vs)(hl:∀s∈av,AqM s)(hw:∀b,b<w.heap.size→w'.heap[b]?=w.heap[b]?)(hsz:w.heap.size≤w'.heap.size):Reads P w' av vs:=by
 obtain⟨h1,h2⟩:=h;refine⟨h1,fun t s hs=>?_⟩;obtain⟨C,f,_,hr⟩:=h2 t s hs
 rcases hl s (List.mem_of_getElem? hs)with⟨u,rfl⟩|⟨k,xs,rfl,hx⟩
 ·refine⟨rfl,fun C' _ _=>?_⟩;have hr:RV C w (.lit u) (vs.getD t undef) f:=hr;have:=RV.Cs hr;show RV C' w' (.lit u) (vs.getD t undef) [];rw[this];refine .lit _ ?_;rw[←this];exact hr.HX
 ·refine⟨rfl,fun C' _ hC=>?_⟩
  exact(AbF (show RV C w (.sl .brw k xs) (vs.getD t undef) f from hr) hx).2 hw fun b hb=>(hC b (Qb5 hb hsz)).1
theorem AmT{t:BT}(x:t.D):(t.enc .leaf x).length=t.size:=D3 t _ x
theorem LJ{t:BT}(ht:t.flat=true){C:Ctx}{w:World}{l:List t.D}{v:Value}{f:List Nat}(h:RV C w (.sl .brw t.size (l.map (t.enc .leaf))) v f):
  ∃a c,v=.slice a l.length c∧∀(k:Nat) (x:t.D),l[k]?=some x→∃b off,a=some ⟨b,off,none⟩∧b<w.heap.size∧∀(j:Nat) (u:Value),(t.fl x)[j]?=some u→w.cell? ⟨b,off+(k*t.size+j),none⟩=some u:=by
 have hlit:∀x∈l.map (t.enc .leaf),∀a∈x,∃u,a=AV.lit u:=fun x hx a ha=>by
  obtain⟨y,_,rfl⟩:=List.mem_map.1 hx;rw[TL t ht]at ha;obtain⟨u,_,rfl⟩:=List.mem_map.1 ha;exact⟨u,rfl⟩
 obtain⟨hrd,_⟩:=AbF h hlit
 rcases hrd with⟨hnil,a,c,hv⟩|⟨b,off,c,hv,hb,hc⟩
 ·have hnil:l=[]:=by simpa using hnil
  subst hnil;exact⟨a,c,hv,fun k x hx=>nomatch hx⟩
 ·refine⟨some ⟨b,off,none⟩,c,by simpa using hv,fun k x hx=>⟨b,off,rfl,hb,fun j u hu=>hc (k*t.size+j) u ?_⟩⟩
  have hj:j<t.size:=by
   have:=(List.getElem?_eq_some_iff.1 hu).1
   rwa [VY t ht]at this
  rw[LL (enc:=t.enc .leaf) (k:=t.size) (fun x=>AmT x) l hx hj,TL t ht,Qb9,hu];rfl
theorem AqJ{t:BT}(ht:t.flat=true)(l:List t.D):∀x∈l.map (t.enc .leaf),∀a∈x,∃u,a=AV.lit u:=fun x hx a ha=>by
 obtain⟨y,_,rfl⟩:=List.mem_map.1 hx;rw[TL t ht]at ha;obtain⟨u,_,rfl⟩:=List.mem_map.1 ha;exact⟨u,rfl⟩
end Go.VS
namespace Go.Proofs.Tryz
open Go.Shelf Go.RowKit Go.VS Go Go.Maps Go.Sort Go.Lib
theorem Acn:∀x y:Bs,decide (Lib.compareBytes x y<0)=Op.bytesLess x y
 |[],[]=>rfl
 |[],_::_=>rfl
 |_::_,[]=>rfl
 |a::x,b::y=>by
  have ih:=Acn x y;unfold Lib.compareBytes Op.bytesLess
  by_cases h1:a<b
  ·simp[h1]
  ·by_cases h2:b<a
   ·have h3:(a==b)=false:=by
     rw[beq_eq_false_iff_ne];rintro rfl;exact h1 h2
    simp[h1,h2,h3]
   ·have h3:a=b:=by
     rcases UInt8.lt_or_lt_of_ne (a:=a) (b:=b)with h
     by_cases e:a=b
     ·exact e
     ·rcases UInt8.lt_or_lt_of_ne e with h|h
      ·exact absurd h h1
      ·exact absurd h h2
    subst h3;simp only[h1,if_false,decide_false,beq_self_eq_true,Bool.true_and,Bool.false_or];exact ih
theorem ltD(x y:BF):ltOf (fun x y:BF=>Lib.compareBytes x.1 y.1) x y=Op.bytesLess x.1 y.1:=by
 unfold ltOf;exact Acn x.1 y.1
theorem Aqq{α:Type}{lt:α→α→Bool}(f:α→Bs)(h:∀x y,lt x y=Op.bytesLess (f x) (f y)):SWO lt where
 irrefl x:=by rw[h];exact Ip _
 trans x y z h1 h2:=by rw[h]at*;exact Mv h1 h2
 ntrans x y z h1 h2:=by
  rw[h]at*
  cases h3:Op.bytesLess (f x) (f z)with
  |false=>rfl
  |true=>
   by_cases e:f y=f x
   ·rw[e,h3]at h2;cases h2
   ·rcases WE e with h4|h4
    ·rw[Mv h4 h3]at h2;cases h2
    ·rw[h4]at h1;cases h1
theorem Arz(x y:BF)(W:World):Calls prog 213 #[.agg #[.string ⟨x.1.toArray⟩,.int .i64 x.2],.agg #[.string ⟨y.1.toArray⟩,.int .i64 y.2]] W fun e w'=>e=.returned (.int .i64 (Lib.compareBytes x.1 y.1))∧∃q os',w'=grow (W.drewN q) os':=by
 have hcon:∀W',Calls prog 214 #[.string ⟨x.1.toArray⟩,.string ⟨y.1.toArray⟩] W' fun e w'=>e=.returned (.int .i64 (Lib.compareBytes x.1 y.1))∧w'=W':=fun W'=>by
  have:=Tryz.strings_Compare ⟨x.1.toArray⟩ ⟨y.1.toArray⟩ W';simpa using this
 generalize Lib.compareBytes x.1 y.1=r at hcon⊢
 go_enter func213,ntmps213
 go_wp2_with (go_at_call 214;refine(hcon _).mono ?_;rintro e w' ⟨rfl,rfl⟩)
 go_ret
 exact⟨rfl,0,_,by rw[alloc_eq_grow,alloc_eq_grow,grow_grow];rfl⟩
theorem Agi(B:Nat):AoJ B:=by
 intro v d W hown hd;have hown':=hown;obtain⟨hlen,h⟩:=hown
 rcases h with⟨rfl,hn⟩|⟨g,cap,cur,rfl,hg,hb,hnc,hcm,hcs,htk⟩
 ·have hn:d=[]:=List.length_eq_zero_iff.1 hn;subst hn;refine(AnyF.slices_SortFunc_none (P:=prog) (ρ:=Tryz.Aao) {Tryz.Ao0 with} none 0 _ W).mono ?_;rintro e w' ⟨rfl,rfl⟩;exact⟨rfl,⟨rfl,rfl,rfl,Qa1 _,fun _ _ _=>rfl⟩,[],.refl _,.nil,hown'⟩
 ·have hH:=VF (enc:=Afn) (k:=2) (fun _=>rfl) hb htk;have hlt:g<W.heap.size:=(Array.getElem?_eq_some_iff.1 hb).1
  have hcon:=AnyQ.slices_SortFunc Tryz.Ao0 2 Tryz.isAgg63 Tryz.sizeOf63 Afn (fun _=>rfl) (fun x u hu=>by simp[Afn]at hu;rcases hu with rfl|rfl<;>rfl) (fun x y=>Lib.compareBytes x.1 y.1) (Aqq (·.1) ltD) 213 #[] g 0 cap d.toArray W (enters_of func213 zk rfl)
   (fun _ _ _ _ x y=>Arz x y _) hH hlt (by rw[Qb2];omega)
  rw[Qb2]at hcon;refine hcon.mono ?_;rintro e w' ⟨rfl,d',n,os,hp,hs,rfl⟩;have hpl:=toList_perm (d:=d.toArray) (d':=d') (by rw[Qb2];exact hp)
  rw[List.toList_toArray]at hpl;refine⟨rfl,Vu _,d'.toList,hpl,?_,?_⟩
  ·have:=Zp (lt:=ltOf fun x y:BF=>Lib.compareBytes x.1 y.1) (d:=d.toArray) (d':=d') (by have:=hp.1;simpa using this) (by rw[Qb2];exact hs)
   exact this.imp fun{x y} h=>by rw[←ltD];exact h
  ·have:=VH (enc:=Afn) (k:=2) (fun _=>rfl) (w:=W) (base:=B) (n:=n) (os:=os) (ss:=d) (ts:=d'.toList) hpl.length_eq hg hb hnc hcm hcs;rw[Array.toArray_toList]at this;unfold Mj;rw[hpl.length_eq];exact this
theorem vs2{vs:Array Value}{a b:Value}(h:vs.size=2)(h0:vs.getD 0 undef=a)(h1:vs.getD 1 undef=b):vs=#[a,b]:=by
 apply Qd9
 ·simpa using h
 ·intro i hi1 hi2
  have hi:i=0∨i=1:=by simp at hi2;omega
  rcases hi with rfl|rfl
  ·have:vs.getD 0 undef=vs[0]:=by simp[hi1]
   rw[←this,h0];rfl
  ·have:vs.getD 1 undef=vs[1]:=by simp[hi1]
   rw[←this,h1];rfl
theorem AmQ(hBo:Wn (Pg.of prog)):Mo (Pg.of prog):=by
 rintro⟨a,b⟩ ha hb;dsimp only at ha hb
 refine Fn.Abp (ps:=[.val false (.sl (.pair .str .str)) (.node .brw .leaf),.val false (.sl (.pair .str .str)) (.node .brw .leaf)]) (t:=.pair .str (.int .i64)) (tt:=.node .own .leaf) rfl rfl (a,b) fun f fn hf hfn=>?_
 have hfi:f=143:=Ec zk hf hfn;subst hfi;have hfe:=Qa6 (hf.symm.trans func143);subst hfe;refine⟨zk,zk,fun μ sv w vs hsv hw hargs=>?_⟩;have hsv0:=hsv;have hargs0:=hargs;obtain⟨hsize,hat⟩:=hargs;have hsv:svs μ dv dl [.one (.sl .brw .leaf (.pair .str .str) a),.one (.sl .brw .leaf (.pair .str .str) b)] sv:=hsv
 match sv,hsv with
 |[s0,s1],⟨⟨a0,e0,r0⟩,⟨a1,e1,r1⟩,_⟩=>
  have r0:a0=.sl .brw 2 (a.map ((BT.pair .str .str).enc .leaf)):=r0;have r1:a1=.sl .brw 2 (b.map ((BT.pair .str .str).enc .leaf)):=r1;subst e0 r0 e1 r1;obtain⟨C0,f0,_,h0⟩:=hat 0 _ rfl;obtain⟨C1,f1,_,h1⟩:=hat 1 _ rfl;obtain⟨pa,ca,hv0,hst0⟩:=Xl (show RV C0 w (.sl .brw 2 (a.map ((BT.pair .str .str).enc .leaf))) (vs.getD 0 undef) f0 from h0)
  obtain⟨pb,cb,hv1,hst1⟩:=Xl (show RV C1 w (.sl .brw 2 (b.map ((BT.pair .str .str).enc .leaf))) (vs.getD 1 undef) f1 from h1);have hvs:=vs2 hsize hv0 hv1;subst hvs
  have hrd:=Alw hargs0 (fun s hs=>by
   simp only[Qc4,Qb7,or_false]at hs
   rcases hs with rfl|rfl
   ·exact .inr ⟨2,_,rfl,ApE a⟩
   ·exact .inr ⟨2,_,rfl,ApE b⟩) (fun _ _=>rfl) (Qa1 _)
  have hbo:Calls prog 210 #[.slice pa a.length ca,.slice pb b.length cb] w fun e w'=>e=.returned (.int .i64 (OI a b))∧Below w.heap.size w w':=by
   refine(Fn.AaJ (fun _ h=>h) (S:=LA) rfl rfl (hBo (a,b) ha hb) func210 zk hw hsv0 hrd).mono ?_;rintro e w' ⟨r,d,hr,rfl,hB⟩;have hr:r=OI a b:=hr;subst hr;exact⟨rfl,hB⟩
  by_cases hz:OI a b=0
  ·rw[hz]at hbo
   have hord:Ic a=0∧Ic b=0:=by
    unfold OI at hz;split at hz
    ·rename_i h;exact absurd hz h
    ·rename_i h;exact⟨zm,hz⟩
   refine(Afk a b ha hb pa pb ca cb w hst0 hst1 hbo (Agi _)).mono ?_;rintro e w' ⟨v,d,rfl,hB,hown,hp,hs⟩;obtain⟨_,g,hnd,hgb,hrv⟩:=JU (t:=.pair .str (.int .i64)) rfl (show w'.ownsRow w.heap.size 63 2 v d.length (d.map (BT.pair .str (.int .i64)).fl).flatten from hown)
   refine⟨hB,d,0,(),⟨hz.symm,fun h=>absurd rfl h,fun _=>?_⟩,v,g,fun _=>False,rfl,?_,hnd,fun x hx=>⟨(hgb x hx).1,(hgb x hx).2,id⟩,fun _ h=>h.elim⟩
   ·exact Ac0 (Ag1 hord.1) (Ag1 hord.2) hp hs
   ·have:=RVs.cons _ _ _ _ _ _ (hrv (hctx prog fun _=>False)) .nil;rw[Qb0]at this;exact this
  ·refine(Akt a b pa pb ca cb w _ hz hbo).mono ?_;rintro e w' ⟨rfl,hB⟩;exact⟨hB,[],OI a b,(),⟨rfl,fun _=>rfl,fun h=>absurd h hz⟩,_,[],fun _=>False,rfl,.cons _ _ [] _ _ [] (.slNil _ _) .nil,List.nodup_nil,fun x hx=>(nomatch hx),fun _ h=>h.elim⟩
end Go.Proofs.Tryz
theorem Go.VS.PQ{C:Go.VS.Ctx}{w:Go.World}{τ:Go.VS.Tag}{k:Nat}{xs:List (List Go.VS.AV)}{v:Go.Value}{f:List Nat}(h:Go.VS.RV C w (.sl τ k xs) v f):
  (xs=[]∧∃a c,v=.slice a 0 c)∨∃b off c,v=.slice (some ⟨b,off,none⟩) xs.length c∧b<w.heap.size∧∀j a,xs.flatten[j]?=some a→∃u g,w.cell? ⟨b,off+j,none⟩=some u∧Go.VS.RV C w a u g:=by
 have key:∀{b off:Nat} {cs:Array Go.Value} {e:Go.TypeId} {fz:Nat×Nat} {f:List Nat},w.heap[b]?=some (.cells cs e fz)→Go.VS.RVs C w xs.flatten ((cs.toList.drop off).take (xs.length*k)) f→∀j a,xs.flatten[j]?=some a→∃u g,w.cell? ⟨b,off+j,none⟩=some u∧Go.VS.RV C w a u g:=by
  intro b off cs e fz f hb hr j a hj;obtain⟨m1,u,m2,f1,fa,f2,hm,hl,_,_,hu,_⟩:=hr.nth hj
  have hw:((cs.toList.drop off).take (xs.length*k))[j]?=some u:=by rw[hm,←hl];simp
  exact⟨u,fa,(Go.VS.Af hb _).trans (Go.VS.FX cs off _ j u hw).1,hu⟩
 have hlt:∀{b:Nat} {o:Go.Obj},w.heap[b]?=some o→b<w.heap.size:=fun h=>(Array.getElem?_eq_some_iff.1 h).1
 generalize ha:Go.VS.AV.sl τ k xs=a at h
 cases h with
 |slNil τ k'=>
  cases ha;exact .inl ⟨rfl,none,0,rfl⟩
 |shrE τ k' a cap ht=>cases ha;exact .inl ⟨rfl,some a,cap,rfl⟩
 |shr τ k' xs' b off cap cs e fz ht hz hi hb hs hc hk hr=>cases ha;exact .inr ⟨b,off,cap,rfl,hlt hb,key hb hr⟩
 |own k' xs' b off cap cs e f hb hs hc hm hk hr=>cases ha;exact .inr ⟨b,off,cap,rfl,hlt hb,key hb hr⟩
 |_=>cases ha
namespace Go.VS
open Go.RowKit Go Go.Sort Go.Proofs Go.Shelf
section
variable{α:Type}[Inhabited α]{enc:α→Value}
theorem AcL{l:List α}{j:Nat}(h:j<l.length):l.toArray[j]! =l[j]:=by
 rw[getElem!_pos _ j (by simpa using h)];simp
theorem AqI{w:World}{g:Nat}{cur:Array Value}{e:TypeId}{l:List α}(hb:w.heap[g]?=some (.cells cur e (0,0)))(ht:cur.toList.take l.length=l.map enc):Holds enc w g 0 l.toArray:=by
 intro j hj
 have hj':j<l.length:=by simpa using hj
 have h1:(cur.toList.take l.length)[j]?=(l.map enc)[j]?:=by rw[ht]
 rw[Qb1 hj',Qb9,Qa0 hj',Qc0]at h1;refine⟨?_,by simp[World.frozen?,hb]⟩;rw[Qd1,AcL hj'];exact(Af hb j).trans h1
theorem AkV{w:World}{g n:Nat}{os:Array Obj}{cur:Array Value}{e:TypeId}{fr:Nat×Nat}(d:Array α)(hb:w.heap[g]?=some (.cells cur e fr)):(grow (putRow enc (Sort.ahead w n) g 0 d) os).heap[g]?=some (.cells (putCells enc 0 d cur) e fr):=by
 have hg:g<w.heap.size:=(Array.getElem?_eq_some_iff.1 hb).1;rw[heap_grow_old _ _ (by simpa using hg)];simp[putRow,mapBlock,Sort.ahead,Qc1,hb,onCells]
theorem AqH{w:World}{g n:Nat}{os:Array Obj}(d:Array α):w.grownBy (grow (putRow enc (Sort.ahead w n) g 0 d) os) (some g):=by
 refine⟨rfl,rfl,rfl,zsz,fun k hk hne=>?_⟩;rw[heap_grow_old _ _ (by simpa using hk)]
 have:g≠k:=fun e=>hne (by rw[e])
 simp[putRow,mapBlock,Sort.ahead,Qc1,this]
theorem Al9(cur:Array Value)(d:List α){m:Nat}(hm:m≤d.length)(h:d.length≤cur.size):(putCells enc 0 d.toArray cur).toList.take m=(d.take m).map enc:=by
 apply List.ext_getElem?;intro j
 by_cases hj:j<m
 ·rw[Qb1 hj,Qc0,Qb9,Qb1 hj,Qa0 zm];have hg:=AcL (l:=d) (j:=j) zm;simp[putCells,show j<cur.size by omega,show j<d.length by omega]
 ·rw[Qc5 zm,Qb9,Qc5 zm];rfl
theorem Aq4{w:World}{base g cap n:Nat}{e:TypeId}{os:Array Obj}{cur:Array Value}{d:List α}{m:Nat}(hm:m≤d.length)(hbase:base≤g)(hb:w.heap[g]?=some (.cells cur e (0,0)))(h1:d.length≤cap)(h2:cap≤maxLen)(h3:cur.size=cap*1):
  (grow (putRow enc (Sort.ahead w n) g 0 d.toArray) os).ownsRow base e 1 (.slice (some ⟨g,0,none⟩) m cap) m ((d.take m).map enc):=
 ⟨by rw[Qd0,Qc8];omega,.inr ⟨g,cap,_,rfl,hbase,AkV _ hb,zm,h2,by simp[putCells,h3],by
  rw[Nat.mul_one];exact Al9 cur d hm zm⟩⟩
end
end Go.VS
namespace Go.Proofs.Tryz
open Go.Shelf Go.RowKit Go.VS Go Go.Sort
def Ey(w:World)(B:Nat)(v:Value)(l:List Int):Prop:=w.ownsRow B 3 1 v l.length (l.map (Value.int .i64))
theorem AiP{w:World}{B B':Nat}{v:Value}{l:List Int}(h:Ey w B v l)(hb:B'≤B):Ey w B' v l:=by
 refine⟨h.1,?_⟩
 rcases h.2 with h|⟨g,cap,cur,h1,h2,h3,h4⟩
 ·exact .inl h
 ·exact .inr ⟨g,cap,cur,h1,Qa9 hb h2,h3,h4⟩
theorem AfN{w:World}{B:Nat}{v:Value}{l:List Int}(h:Ey w B v l)(o:Obj):Ey (w.alloc o) B v l:=World.ownsRow.alloc h o
theorem AfO{w w':World}{B:Nat}{v:Value}{l:List Int}(h:Ey w B v l)(hb:Below w.heap.size w w'):Ey w' B v l:=by
 refine⟨h.1,?_⟩
 rcases h.2 with h|⟨g,cap,cur,h1,h2,h3,h4⟩
 ·exact .inl h
 ·have hlt:g<w.heap.size:=(Array.getElem?_eq_some_iff.1 h3).1;exact .inr ⟨g,cap,cur,h1,h2,(hb.block g hlt).trans h3,h4⟩
theorem SJ(w:World)(B:Nat):Ey w B (.slice none 0 0) []:=World.ownsRow_nil _ _ _ _
theorem below_grow{B:Nat}{w0 w w':World}{row:Option Nat}(hB:Below B w0 w)(hg:w.grownBy w' row)(hr:∀i,row=some i→B≤i)(hs:B≤w0.heap.size):Below B w0 w':=
 ⟨hg.os.trans hB.os,hg.tape.trans hB.tape,hg.output.trans hB.output,Qa9 hB.size hg.size,fun i hi=>by
  have hs:=hB.size
  exact(hg.block i zm (fun e1=>by have:=hr i e1.symm;omega)).trans (hB.block i hi)⟩
theorem Aq3{w:World}{B:Nat}{v:Value}{l:List Int}(h:Ey w B v l):∀i,v.ownBlock=some i→B≤i:=fun i hi=>(World.ownsRow.lt h i hi).1
theorem ahead_zero(w:World)(n:Nat)(g:Nat)(d:Array Int):putRow (Value.int .i64) (Sort.ahead w n) g 0 d=grow (putRow (Value.int .i64) (Sort.ahead w n) g 0 d) #[]:=(grow_empty _).symm
structure LZ(w:World)(a:Option Addr)(l:List Int):Prop where
 at_:∀(k:Nat) (x:Int),l[k]?=some x→∃b off,a=some ⟨b,off,none⟩∧b<w.heap.size∧w.cell? ⟨b,off+k,none⟩=some (.int .i64 x)
theorem LZ.below{w w':World}{a:Option Addr}{l:List Int}(h:LZ w a l)(hb:Below w.heap.size w w'):LZ w' a l:=
 ⟨fun k x hk=>by
  obtain⟨b,off,h1,h2,h3⟩:=h.at_ k x hk
  exact⟨b,off,h1,Qb5 h2 hb.size,(hb.cell (p:=⟨b,off+k,none⟩) h2).trans h3⟩⟩
theorem OX{C:Ctx}{w:World}{l:List Int}{v:Value}{f:List Nat}(h:RV C w (.sl .brw 1 (l.map ((BT.int .i64).enc .leaf))) v f):∃a c,v=.slice a l.length c∧LZ w a l:=by
 obtain⟨a,c,hv,hat⟩:=LJ (t:=.int .i64) rfl h;refine⟨a,c,hv,⟨fun k x hx=>?_⟩⟩;obtain⟨b,off,h1,h2,h3⟩:=hat k x hx;exact⟨b,off,h1,h2,by have:=h3 0 (.int .i64 x) rfl;rw[show k*(BT.int IntKind.i64).size+0=k by show k*1+0=k;omega]at this;exact this⟩
theorem AmP(l:List Int)(a:Option Addr)(c:Nat)(W:World)(hv:LZ W a l)(hl:l.length≤4000000):Calls prog 103 #[.slice a l.length c] W fun e w'=>∃v',e=.returned v'∧Ey w' W.heap.size v' l∧Below W.heap.size W w':=by
 cases a with
 |none=>
  have hn:l=[]:=by
   cases l with
   |nil=>rfl
   |cons x r=>obtain⟨b,off,h,_⟩:=hv.at_ 0 x rfl;cases h
  subst hn;refine(AnyG.slices_Clone_int_nil Tryz.Afc 0 c W).mono ?_;rintro e w' ⟨rfl,rfl⟩;exact⟨_,rfl,SJ _ _,Below.refl _ _⟩
 |some a=>
  by_cases hn:l=[]
  ·subst hn;refine(AnyG.slices_Clone_int_zero Tryz.Afc a c W).mono ?_;rintro e w' ⟨v',rfl,h1,_,h2⟩;exact⟨_,rfl,h1,h2⟩
  ·obtain⟨x,hx⟩:∃x,l[0]?=some x:=⟨_,Qa0 (List.length_pos_iff.2 hn)⟩
   obtain⟨b,off,ha,_,_⟩:=hv.at_ 0 x hx;cases ha;refine(AnyG.slices_Clone_int Tryz.Afc b off l.length c l W (Qa1 _) zm fun j hj=>?_).mono ?_
   ·obtain⟨b',off',h1,_,h2⟩:=hv.at_ j l[j] (Qa0 hj);cases h1;rw[getD_eq hj];exact h2
   ·rintro e w' ⟨v',rfl,h1,_,h2⟩;rw[Qc7]at h1;exact⟨_,rfl,h1,h2⟩
end Go.Proofs.Tryz
namespace Go.VS
open Go.RowKit Go
theorem AhF{C:Ctx}{w:World}{k:Nat}{xs:List (List AV)}{a:Option Addr}{n c:Nat}{f:List Nat}(h:RV C w (.sl .brw k xs) (.slice a n c) f):n≤c∧(a=none→n=0∧c=0):=by
 generalize ha:AV.sl .brw k xs=x at h;generalize hv:Value.slice a n c=v at h
 cases h with
 |slNil τ k'=>cases hv;exact⟨Qa1 _,fun _=>⟨rfl,rfl⟩⟩
 |shrE τ k' a' cap ht=>cases hv;exact⟨Qa3 _,fun h=>nomatch h⟩
 |shr τ k' xs' b off cap cs e fz ht hz hi hb hs hc hk hr=>cases hv;exact⟨hc,fun h=>nomatch h⟩
 |own k' xs' b off cap cs e f' hb hs hc hm hk hr=>cases ha
 |_=>cases ha
end Go.VS
namespace Go.Proofs.Tryz
open Go.Shelf Go.RowKit Go.VS Go Go.Sort
def WO(x:Int×Int):List Value:=[.int .i64 x.1,.int .i64 x.2]
def Apo(x:AR):List Value:=[.int .i64 x.1,.int .i64 x.2.1,.int .i64 x.2.2.1,.int .i64 x.2.2.2]
theorem ZH(o:List (Int×Int))(x:Int×Int):(o.map WO).flatten++[.int .i64 x.1,.int .i64 x.2]=((o++[x]).map WO).flatten:=by
 rw[Qe0,Qd2];rfl
theorem Aij(o:List AR)(x:AR):(o.map Apo).flatten++[.int .i64 x.1,.int .i64 x.2.1,.int .i64 x.2.2.1,.int .i64 x.2.2.2]=((o++[x]).map Apo).flatten:=by
 rw[Qe0,Qd2];rfl
def M8(w:World)(B:Nat)(v:Value)(l:List (Int×Int)):Prop:=w.ownsRow B 175 2 v l.length (l.map WO).flatten
def PY(w:World)(B:Nat)(v:Value)(l:List AR):Prop:=w.ownsRow B 225 4 v l.length (l.map Apo).flatten
theorem AqQ(B:Nat){ops:Array Oper}{rest:List Oper}{o:Oper}{a:Act}{Q:Exit→Act→World→Prop}{s x:Operand}{w1:World}{v:Value}{l:List (Int×Int)}{g:Nat}{p k:Int}
  (hgd:o.guard=none) (ho:o.op=.call {callee:=.builtin .append,args:=#[s,x],argTypes:=#[95,95]}) (hs:a.eval s=v) (hown:M8 w1 B v l)
  (hx:a.eval x=.slice (some ⟨g,0,none⟩) 1 1) (hc0:w1.cell? ⟨g,0,none⟩=some (.int .i64 p)) (hc1:w1.cell? ⟨g,1,none⟩=some (.int .i64 k)) (hn:l.length≤100000000) (hB:B≤w1.heap.size)
  (hk:∀v' w',M8 w' B v' (l++[(p,k)])→w1.grownBy w' v.ownBlock→wpList prog ops Q rest (a.put o.dst v') w'):wpList prog ops Q (o::rest) a w1:=by
 obtain⟨i0,hi,hz0,hz1,hz2⟩:=info_parts (P:=prog) (e:=175) (z:=.agg #[.int .i64 0,.int .i64 0]) (size:=2) (bytes:=16) zk;refine wpList_append_own w1 hgd s x 95 ho B 175 i0 (.agg #[.int .i64 0,.int .i64 0]) 2 16 underlying95 hi hz0 hz1 hz2 rfl zdz v l.length _ hs hown ⟨g,0,none⟩ 1 1 [.int .i64 p,.int .i64 k] hx rfl ?_ ?_ ?_ ?_ hB ?_
 ·intro j u hj
  match j,hj with
  |0,hj=>
   have:Value.int .i64 p=u:=by simpa using hj
   subst this;exact hc0
  |1,hj=>
   have:Value.int .i64 k=u:=by simpa using hj
   subst this;exact hc1
  |j+2,hj=>simp at hj
 ·intro u hu;simp only[Qc4,Qb7,or_false]at hu
  rcases hu with rfl|rfl<;>rfl
 ·unfold maxLen;omega
 ·omega
 ·intro v' w' h1 h2 _;rw[ZH l (p,k)]at h1;exact hk v' w' (by unfold M8;rw[Qa5];exact h1) h2
theorem AqO(B:Nat){ops:Array Oper}{rest:List Oper}{o:Oper}{a:Act}{Q:Exit→Act→World→Prop}{s x:Operand}{w1:World}{v:Value}{l:List AR}{g:Nat}{c:AR}
  (hgd:o.guard=none) (ho:o.op=.call {callee:=.builtin .append,args:=#[s,x],argTypes:=#[170,170]}) (hs:a.eval s=v) (hown:PY w1 B v l)
  (hx:a.eval x=.slice (some ⟨g,0,none⟩) 1 1) (hc0:w1.cell? ⟨g,0,none⟩=some (.int .i64 c.1)) (hc1:w1.cell? ⟨g,1,none⟩=some (.int .i64 c.2.1)) (hc2:w1.cell? ⟨g,2,none⟩=some (.int .i64 c.2.2.1)) (hc3:w1.cell? ⟨g,3,none⟩=some (.int .i64 c.2.2.2)) (hn:l.length≤100000000) (hB:B≤w1.heap.size)
  (hk:∀v' w',PY w' B v' (l++[c])→w1.grownBy w' v.ownBlock→wpList prog ops Q rest (a.put o.dst v') w'):wpList prog ops Q (o::rest) a w1:=by
 obtain⟨i0,hi,hz0,hz1,hz2⟩:=info_parts (P:=prog) (e:=225) (z:=.agg #[.int .i64 0,.int .i64 0,.int .i64 0,.int .i64 0]) (size:=4) (bytes:=32) zk
 refine wpList_append_own w1 hgd s x 170 ho B 225 i0 (.agg #[.int .i64 0,.int .i64 0,.int .i64 0,.int .i64 0]) 4 32 underlying170 hi hz0 hz1 hz2 rfl zdz v l.length _ hs hown ⟨g,0,none⟩ 1 1 [.int .i64 c.1,.int .i64 c.2.1,.int .i64 c.2.2.1,.int .i64 c.2.2.2] hx rfl ?_ ?_ ?_ ?_ hB ?_
 ·intro j u hj
  match j,hj with
  |0,hj=>
   have:Value.int .i64 c.1=u:=by simpa using hj
   subst this;exact hc0
  |1,hj=>
   have:Value.int .i64 c.2.1=u:=by simpa using hj
   subst this;exact hc1
  |2,hj=>
   have:Value.int .i64 c.2.2.1=u:=by simpa using hj
   subst this;exact hc2
  |3,hj=>
   have:Value.int .i64 c.2.2.2=u:=by simpa using hj
   subst this;exact hc3
  |j+4,hj=>simp at hj
 ·intro u hu;simp only[Qc4,Qb7,or_false]at hu
  rcases hu with rfl|rfl|rfl|rfl<;>rfl
 ·unfold maxLen;omega
 ·omega
 ·intro v' w' h1 h2 _;rw[Aij l c]at h1;exact hk v' w' (by unfold PY;rw[Qa5];exact h1) h2
structure AhX(w:World)(a:Option Addr)(l:List (Int×Int)):Prop where
 at_:∀(k:Nat) (x:Int×Int),l[k]?=some x→∃b off,a=some ⟨b,off,none⟩∧b<w.heap.size∧w.cell? ⟨b,off+k*2,none⟩=some (.int .i64 x.1)∧w.cell? ⟨b,off+k*2+1,none⟩=some (.int .i64 x.2)
theorem AhX.below{w w':World}{a:Option Addr}{l:List (Int×Int)}(h:AhX w a l)(hb:Below w.heap.size w w'):AhX w' a l:=
 ⟨fun k x hk=>by
  obtain⟨b,off,h1,h2,h3,h4⟩:=h.at_ k x hk
  exact⟨b,off,h1,Qb5 h2 hb.size,(hb.cell (p:=⟨b,off+k*2,none⟩) h2).trans h3,(hb.cell (p:=⟨b,off+k*2+1,none⟩) h2).trans h4⟩⟩
theorem Agk{C:Ctx}{w:World}{l:List (Int×Int)}{v:Value}{f:List Nat}(h:RV C w (.sl .brw 2 (l.map ((BT.pair (.int .i64) (.int .i64)).enc .leaf))) v f):∃a c,v=.slice a l.length c∧AhX w a l∧l.length≤c∧(a=none→l=[]∧c=0):=by
 obtain⟨a,c,hv,hat⟩:=LJ (t:=.pair (.int .i64) (.int .i64)) rfl h;subst hv;obtain⟨hc,hn⟩:=AhF h;refine⟨a,c,rfl,⟨fun k x hx=>?_⟩,hc,fun ha=>⟨List.length_eq_zero_iff.1 (hn ha).1,(hn ha).2⟩⟩;obtain⟨b,off,h1,h2,h3⟩:=hat k x hx;refine⟨b,off,h1,h2,?_,?_⟩
 ·have:=h3 0 (.int .i64 x.1) rfl;rw[show k*(BT.pair (.int IntKind.i64) (.int IntKind.i64)).size+0=k*2 from rfl]at this;exact this
 ·have:=h3 1 (.int .i64 x.2) rfl;rw[show off+(k*(BT.pair (.int IntKind.i64) (.int IntKind.i64)).size+1)=off+k*2+1 from rfl]at this;exact this
theorem Aea{w:World}{B:Nat}{v:Value}{l:List (Int×Int)}(h:M8 w B v l):∃a c,v=.slice a l.length c∧AhX w a l:=by
 have h0:=h;obtain⟨hlen,h⟩:=h
 rcases h with⟨rfl,hn⟩|⟨g,cap,cur,rfl,hg,hb,hnc,hcm,hcs,htk⟩
 ·have hn:l=[]:=List.length_eq_zero_iff.1 hn;subst hn;exact⟨none,0,rfl,⟨fun k x hx=>nomatch hx⟩⟩
 ·refine⟨some ⟨g,0,none⟩,cap,rfl,⟨fun k x hx=>⟨g,0,rfl,(Array.getElem?_eq_some_iff.1 hb).1,?_,?_⟩⟩⟩
  ·have hk:=(List.getElem?_eq_some_iff.1 hx).1;have:=World.ownsRow.cellAt h0 (k*2+0) zm;rw[LL (enc:=WO) (k:=2) (fun _=>rfl) l hx zdz]at this;rw[Qd1];exact this
  ·have hk:=(List.getElem?_eq_some_iff.1 hx).1;have:=World.ownsRow.cellAt h0 (k*2+1) zm;rw[LL (enc:=WO) (k:=2) (fun _=>rfl) l hx zdz]at this;rw[Qd1];exact this
end Go.Proofs.Tryz
namespace Go.VS
def US:List (Int×Int)→Int→Int→List AR
 |[],_,_=>[]
 |s::r,old,now=>N7 old now s++US r (s.1+1) (s.2+1)
theorem Z2(m n:Int):∀(p:List (Int×Int)) (old now:Int),D7 m n p old now=US (p++[(m,n)]) old now
 |[],old,now=>by
  rw[D7,Qb8,US,US,Qb0]
 |s::r,old,now=>by
  rw[D7,Qb6,US,Z2 m n r]
theorem AjZ:∀{p:List (Int×Int)} {lo:Int×Int} {m n:Int},Vk lo m n p→0≤lo.1→0≤lo.2→∀s∈p,(0≤s.1∧s.1<m)∧(0≤s.2∧s.2<n)
 |[],_,_,_,_,_,_,s,hs=>nomatch hs
 |t::r,lo,m,n,h,h1,h2,s,hs=>by
  obtain⟨⟨a1,a2,a3,a4⟩,a5⟩:=h
  rcases List.mem_cons.1 hs with rfl|hs
  ·omega
  ·exact AjZ a5 (by dsimp only;omega) (by dsimp only;omega) s hs
end Go.VS
namespace Go.Proofs.Tryz
open Go.Shelf Go.RowKit Go.VS Go Go.Sort
theorem Afb(pa:Option Addr)(n c:Nat)(hc:n≤c)(hn:pa=none→n=0∧c=0)(W:World):Calls prog 280 #[.slice pa n c] W fun e w'=>e=.returned (.slice pa n n)∧w'=W:=by
 cases pa with
 |none=>
  obtain⟨rfl,rfl⟩:=hn rfl
  go_enter func280,ntmps280
  go_wp2
  go_ret
  exact⟨rfl,rfl⟩
 |some p=>
  go_enter func280,ntmps280
  go_wp2
  go_ret
  exact⟨rfl,rfl⟩
def FpI(L:List (Int×Int))(M:List AR)(k:Nat)(o:List AR)(old now:Int):Prop:=o++US (L.drop k) old now=M∧o.length≤k∧(0≤old∧old≤4097)∧(0≤now∧now≤4097)
theorem FpI.next{L:List (Int×Int)}{M:List AR}{k:Nat}{o:List AR}{old now:Int}(h:FpI L M k o old now){s:Int×Int}(hs:L[k]?=some s)(h1:0≤s.1∧s.1≤4096)(h2:0≤s.2∧s.2≤4096):FpI L M (k+1) (o++N7 old now s) (s.1+1) (s.2+1):=by
 obtain⟨a1,a2,a3,a4⟩:=h;obtain⟨hk,he⟩:=List.getElem?_eq_some_iff.1 hs;rw[Qa2 hk,he,US]at a1;refine⟨by rw[List.append_assoc];exact a1,?_,zm,zm⟩
 rw[Qa5]
 have:(N7 old now s).length≤1:=by unfold N7;split<;>simp
 omega
theorem AiO{w:World}{B B':Nat}{v:Value}{l:List AR}(h:PY w B v l)(hb:B'≤B):PY w B' v l:=by
 refine⟨h.1,?_⟩
 rcases h.2 with h|⟨g,cap,cur,h1,h2,h3,h4⟩
 ·exact .inl h
 ·exact .inr ⟨g,cap,cur,h1,Qa9 hb h2,h3,h4⟩
theorem cell_kept{w w':World}{B:Nat}{e:TypeId}{size:Nat}{v:Value}{n:Nat}{xs:List Value}{a b:Obj}(hC:w.ownsRow B e size v n xs)(hg:((w.alloc a).alloc b).grownBy w' v.ownBlock)(j:Nat):w'.cell? ⟨w.heap.size,j,none⟩=((w.alloc a).alloc b).cell? ⟨w.heap.size,j,none⟩:=by
 unfold World.cell?;rw[hg.block w.heap.size (by simp;omega) (fun e1=>by have:=(World.ownsRow.lt hC _ e1.symm).2;omega)]
theorem AcF(p:List (Int×Int))(m n:Int)(pa:Option Addr)(ca:Nat)(w:World)(hp:p.length≤4096)(hm:0≤m∧m≤4096)(hn:0≤n∧n≤4096)(hasc:Vk (0,0) m n p)(hv:AhX w pa p)(hc:p.length≤ca)(hno:pa=none→p=[]∧ca=0):
  Calls prog 226 #[.slice pa p.length ca,.int .i64 m,.int .i64 n] w fun e w'=>∃v,e=.returned v∧PY w' w.heap.size v (D7 m n p 0 0)∧Below w.heap.size w w':=by
 obtain⟨i0,hi,hz0,hz1,hz2⟩:=info_parts (P:=prog) (e:=175) (z:=.agg #[.int .i64 0,.int .i64 0]) (size:=2) (bytes:=16) zk
 have hL:∀s∈p++[(m,n)],(0≤s.1∧s.1≤4096)∧(0≤s.2∧s.2≤4096):=fun s hs=>by
  rcases List.mem_append.1 hs with hs|hs
  ·have:=AjZ hasc (Int.le_refl _) (Int.le_refl _) s hs;omega
  ·rw[List.mem_singleton.1 hs];exact⟨hm,hn⟩
 have hM0:FpI (p++[(m,n)]) (D7 m n p 0 0) 0 [] 0 0:=⟨by rw[Z2];rfl,Qa1 _,zm,zm⟩
 generalize D7 m n p 0 0=M at*;have hclip:=Afb pa p.length ca hc (fun h=>by obtain⟨h1,h2⟩:=hno h;rw[h1];exact⟨rfl,h2⟩) w
 have hcells:∀b:Addr,pa=some b→∀j u,((p.map WO).flatten)[j]?=some u→(w.alloc (.cells #[.int .i64 m,.int .i64 n] 175)).cell? (b.add j)=some u:=fun b hb j u hu=>by
  have hj:j<p.length*2:=by
   have:=(List.getElem?_eq_some_iff.1 hu).1
   rwa [HQ (enc:=WO) (k:=2) (fun _=>rfl)]at this
  have hk:j/2<p.length:=zm
  obtain⟨bb,off,h1,h2,h3,h4⟩:=hv.at_ (j/2) p[j/2] (Qa0 hk);rw[hb]at h1;cases h1;have hB:=(Below.refl w.heap.size w).alloc (Qa1 _) (.cells #[.int .i64 m,.int .i64 n] 175);have hf:=LL (enc:=WO) (k:=2) (fun _=>rfl) p (Qa0 hk) (c:=j%2) (Nat.mod_lt _ zdz);rw[show j/2*2+j%2=j by omega,hu]at hf
  rw[Addr.add_lit];refine(hB.cell (p:=⟨bb,off+j,none⟩) h2).trans ?_
  rcases(by omega:j%2=0∨j%2=1)with e|e
  ·rw[e]at hf;have hf:some u=some (Value.int .i64 (p[j/2]).1):=hf;rw[hf,←h3]
   congr 2
   omega
  ·rw[e]at hf;have hf:some u=some (Value.int .i64 (p[j/2]).2):=hf;rw[hf,←h4]
   congr 2
   omega
 have hnn:pa=none→p.length=0∧p.length=0:=fun h=>by obtain⟨h1,_⟩:=hno h;rw[h1];exact⟨rfl,rfl⟩
 have hfl:((p.map WO).flatten).length=p.length*2:=HQ (enc:=WO) (k:=2) (fun _=>rfl) p;clear hv hno
 go_enter func226,ntmps226
 go_wp2_with (first|(go_at_call 280;refine hclip.mono ?_;rintro e w' ⟨rfl,hw⟩;have hw:=hw.symm;subst hw)|(at_builtin;refine wpList_append_grows _ rfl (.tmp 13) (.tmp 17) 95 rfl 175 i0 (.agg #[.int .i64 0,.int .i64 0]) 2 16 underlying95 hi hz0 hz1 hz2 rfl zdz pa p.length p.length ((p.map WO).flatten) rfl hnn hfl hcells ⟨w.heap.size,0,none⟩ 1 1 [.int .i64 m,.int .i64 n] rfl rfl ?c1 ?c2 zm (by unfold maxLen;omega) zm ?grow))
 case c1=>
  intro j u hj
  match j,hj with
  |0,hj=>
   have:Value.int .i64 m=u:=by simpa using hj
   subst this;show(w.alloc _).cell? ⟨w.heap.size,0,none⟩=_;simp
  |1,hj=>
   have:Value.int .i64 n=u:=by simpa using hj
   subst this;show(w.alloc _).cell? ⟨w.heap.size,1,none⟩=_;simp
  |j+2,hj=>simp at hj
 case c2=>
  intro u hu;simp only[Qc4,Qb7,or_false]at hu
  rcases hu with rfl|rfl<;>rfl
 case grow=>
  intro v1 w1 hown hg1;have hB1:Below w.heap.size w w1:=below_grow ((Below.refl _ w).alloc (Qa1 _) _) hg1 (fun i h=>nomatch h) (Qa1 _)
  have hP:M8 w1 (w.heap.size+1) v1 (p++[(m,n)]):=by
   unfold M8;rw[Qa5,←ZH];exact hown
  obtain⟨a1,c1,hv1,hva⟩:=Aea hP
  have hLl:(p++[(m,n)]).length≤4097:=by rw[Qa5];exact Nat.succ_le_succ hp
  subst hv1;clear hown hg1 hP hasc hclip hcells hnn hfl hi hz0 hz1 hz2 hc hp;generalize p++[(m,n)]=L at*
  go_wp2
  have hC0:PY w1 w1.heap.size (.slice none 0 0) []:=World.ownsRow_nil _ _ _ _
  go_loopw [7,8,9,20] (fun v7 v8 v9 i wr=>∃k:Nat,k≤L.length∧i=.int .i64 k∧∃o old now,v8=.int .i64 old∧v9=.int .i64 now∧FpI L M k o old now∧PY wr w1.heap.size v7 o∧Below w1.heap.size w1 wr) (fun _ _ _ i _=>L.length -(Lib.intOf i).toNat)
  case atStart=>exact⟨0,Qa3 _,rfl,[],0,0,rfl,rfl,hM0,hC0,Below.refl _ _⟩
  case round=>
   clear hM0 hC0;obtain⟨k,hk,hi,o,old,now,rfl,rfl,hI,hC,hB⟩:=hrel;subst hi
   by_cases hks:k<L.length
   ·obtain⟨bl,off,rfl,hbl,q0,q1⟩:=hva.at_ k L[k] (Qa0 hks);have c0:=(hB.cell (p:=⟨bl,off+k*2,none⟩) hbl).trans q0;have c1:=(hB.cell (p:=⟨bl,off+k*2+1,none⟩) hbl).trans q1;obtain⟨hs1,hs2⟩:=hL _ (Qc3 hks);have hnx:=hI.next (Qa0 hks) hs1 hs2;obtain⟨_,hol,hold,hnow⟩:=hI
    generalize L[k]=s at c0 c1 hs1 hs2 hnx;obtain⟨x,y⟩:=s;dsimp only at c0 c1 hs1 hs2 hnx;have hB2:=hB.alloc hB.size (.cells #[.int .i64 x,.int .i64 y] 175);have hC2:PY _ _ _ _:=hC.alloc (.cells #[.int .i64 x,.int .i64 y] 175);have hsz:=hB.size;clear q0 q1 hva hL
    by_cases hg:old<x∨now<y
    ·rw[show N7 old now (x,y)=[(old,(x -old,(now,y -now)))]from if_pos hg]at hnx
     by_cases ho:old<x
     ·go_wp2_with (at_builtin;refine AqO w1.heap.size (c:=(old,(x -old,(now,y -now)))) rfl rfl rfl (World.ownsRow.alloc hC2 _) rfl ?b0 ?b1 ?b2 ?b3 ?b4 ?b5 ?b6)
      case b4=>omega
      case b5=>simp;omega
      intro v2 w4 hown4 hg4;have hB4:=below_grow (hB2.alloc (by simp;omega) _) hg4 (fun i h=>(World.ownsRow.lt hC2 i h).1) (Qa1 _)
      have d0:=cell_kept hC hg4 0;have d1:=cell_kept hC hg4 1;have f0:w4.cell? ⟨wr.heap.size,0,none⟩=some (.int .i64 x):=d0.trans zsz;have f1:w4.cell? ⟨wr.heap.size,1,none⟩=some (.int .i64 y):=d1.trans zsz;clear d0 d1 hg4 hC2 hC c0 c1 hB2
      go_wp2_with fail
      go_region
      go_wp2
      go_roundw
      case rel=>exact⟨k+1,zm,zsz,_,x+1,y+1,rfl,rfl,hnx,hown4,hB4.drew⟩
      case measure=>simp only[Lib.intOf];omega
     ·have ho2:now<y:=hg.resolve_left ho
      go_wp2_with (at_builtin;refine AqO w1.heap.size (c:=(old,(x -old,(now,y -now)))) rfl rfl rfl (World.ownsRow.alloc hC2 _) rfl ?d0 ?d1 ?d2 ?d3 ?d4 ?d5 ?d6)
      case d4=>omega
      case d5=>omega
      intro v2 w4 hown4 hg4;have hB4:=below_grow (hB2.alloc (by simp;omega) _) hg4 (fun i h=>(World.ownsRow.lt hC2 i h).1) (Qa1 _)
      have d0:=cell_kept hC hg4 0;have d1:=cell_kept hC hg4 1;have f0:w4.cell? ⟨wr.heap.size,0,none⟩=some (.int .i64 x):=d0.trans zsz;have f1:w4.cell? ⟨wr.heap.size,1,none⟩=some (.int .i64 y):=d1.trans zsz;clear d0 d1 hg4 hC2 hC c0 c1 hB2
      go_wp2_with fail
      go_region
      go_wp2
      go_roundw
      case rel=>exact⟨k+1,zm,zsz,_,x+1,y+1,rfl,rfl,hnx,hown4,hB4.drew⟩
      case measure=>simp only[Lib.intOf];omega
    ·have g1:¬old<x:=fun h=>hg (.inl h)
     have g2:¬now<y:=fun h=>hg (.inr h)
     rw[show N7 old now (x,y)=[]from if_neg hg,Qb0]at hnx;clear hC
     go_wp2_with fail
     go_region
     go_wp2
     go_roundw
     case rel=>exact⟨k+1,zm,zsz,_,x+1,y+1,rfl,rfl,hnx,hC2.drew,hB2.drew⟩
     case measure=>simp only[Lib.intOf];omega
   ·have hke:k=L.length:=by omega
    subst hke;obtain⟨hfin,_⟩:=hI;rw[Qb4 (Qa1 _),US,Qb0]at hfin;subst hfin
    go_wp2
    go_ret
    exact⟨_,rfl,AiO hC hB1.size,hB1.trans (hB.mono hB1.size)⟩
end Go.Proofs.Tryz
namespace Go.Proofs.Tryz
open Go.Shelf Go.RowKit Go.VS Go Go.Sort
theorem ArJ{vs:Array Value}{a b:Value}(h:vs.size=2)(h0:vs.getD 0 undef=a)(h1:vs.getD 1 undef=b):vs=#[a,b]:=by
 apply Qd9
 ·simpa using h
 ·intro i hi1 hi2
  have hi:i=0∨i=1:=by simp at hi2;omega
  rcases hi with rfl|rfl
  ·have:vs.getD 0 undef=vs[0]:=by simp[hi1]
   rw[←this,h0];rfl
  ·have:vs.getD 1 undef=vs[1]:=by simp[hi1]
   rw[←this,h1];rfl
theorem ArL{vs:Array Value}{a b c:Value}(h:vs.size=3)(h0:vs.getD 0 undef=a)(h1:vs.getD 1 undef=b)(h2:vs.getD 2 undef=c):vs=#[a,b,c]:=by
 apply Qd9
 ·simpa using h
 ·intro i hi1 hi2
  have hi:i=0∨i=1∨i=2:=by simp at hi2;omega
  rcases hi with rfl|rfl|rfl
  ·have:vs.getD 0 undef=vs[0]:=by simp[hi1]
   rw[←this,h0];rfl
  ·have:vs.getD 1 undef=vs[1]:=by simp[hi1]
   rw[←this,h1];rfl
  ·have:vs.getD 2 undef=vs[2]:=by simp[hi1]
   rw[←this,h2];rfl
theorem AhD{t:BT}(ht:t.flat=true){w w':World}{e:TypeId}{v:Value}{d:List t.D}{K:List t.D→Unit→Prop}(hown:w'.ownsRow w.heap.size e t.size v d.length (d.map t.fl).flatten)(hB:Below w.heap.size w w')(hK:K d ()):
  Below w.heap.size w w'∧∃(l:(BT.sl t).D) (d':Unit),K l d'∧∃(ns:Value) (f:List Nat) (z:Nat→Prop),(Ending.returned v=.returned ns)∧RVs (hctx (Pg.of prog).toProgram z) w' ((BT.sl t).enc (.node .own .leaf) l) [ns] f∧f.Nodup∧(∀b∈f,w.heap.size≤b∧b<w'.heap.size∧¬z b)∧(∀b,z b→w.heap.size≤b∧b<w'.heap.size):=by
 obtain⟨_,f,hnd,hfb,hrv⟩:=JU (t:=t) ht hown;refine⟨hB,d,(),hK,v,f,fun _=>False,rfl,?_,hnd,fun x hx=>⟨(hfb x hx).1,(hfb x hx).2,id⟩,fun _ h=>h.elim⟩;have:=RVs.cons _ _ _ _ _ _ (hrv (hctx prog fun _=>False)) .nil;rw[Qb0]at this;exact this
theorem Anh:Rt (Pg.of prog):=by
 rintro⟨p,m,n⟩ hp hm hn hasc;dsimp only at hp hm hn hasc
 refine Fn.SF (ps:=DY.ps) (t:=AZ) (tt:=.node .own .leaf) rfl rfl (p,(m,n)) fun f fn hf hfn=>?_
 have hfi:f=226:=Ec zk hf hfn;subst hfi;have hfe:=Qa6 (hf.symm.trans func226);subst hfe;refine⟨zk,zk,fun μ sv w vs hsv hw hargs=>?_⟩;have hsv:svs μ dv dl [.one (.sl .brw .leaf (.pair (.int .i64) (.int .i64)) p),.one (.int .i64 m),.one (.int .i64 n)] sv:=hsv
 match sv,hsv with
 |[s0,s1,s2],⟨⟨a0,e0,r0⟩,⟨a1,e1,r1⟩,⟨a2,e2,r2⟩,_⟩=>
  have r0:a0=.sl .brw 2 (p.map ((BT.pair (.int .i64) (.int .i64)).enc .leaf)):=r0;have r1:a1=.lit (.int .i64 m):=r1;have r2:a2=.lit (.int .i64 n):=r2;subst e0 r0 e1 r1 e2 r2;obtain⟨hsize,hat⟩:=hargs;obtain⟨C0,f0,_,h0⟩:=hat 0 _ rfl;obtain⟨C1,f1,_,h1⟩:=hat 1 _ rfl;obtain⟨C2,f2,_,h2⟩:=hat 2 _ rfl
  obtain⟨pa,ca,hv0,hva,hcap,hnil⟩:=Agk (show RV C0 w (.sl .brw 2 (p.map ((BT.pair (.int .i64) (.int .i64)).enc .leaf))) (vs.getD 0 undef) f0 from h0);have hv1:vs.getD 1 undef=.int .i64 m:=RV.Cs (show RV C1 w (.lit (.int .i64 m)) (vs.getD 1 undef) f1 from h1);have hv2:vs.getD 2 undef=.int .i64 n:=RV.Cs (show RV C2 w (.lit (.int .i64 n)) (vs.getD 2 undef) f2 from h2)
  have hvs:=ArL hsize hv0 hv1 hv2;subst hvs;refine(AcF p m n pa ca w hp hm hn hasc hva hcap hnil).mono ?_;rintro e w' ⟨v,rfl,hown,hB⟩;exact AhD (t:=AZ) (K:=fun d _=>d=D7 m n p 0 0) rfl (show w'.ownsRow w.heap.size 225 4 v (D7 m n p 0 0).length ((D7 m n p 0 0).map AZ.fl).flatten from hown) hB rfl
end Go.Proofs.Tryz
namespace Go.Proofs.Tryz
open Go.Shelf Go.RowKit Go.VS Go Go.Sort
attribute [local go_sem ↓] Go.wp_at_zero Go.wp_at_succ
structure N6(w:World)(N Bv:Nat)(s:List Nat):Prop where
 len:s.length=N
 own:w.ownsRow Bv 345 1 (.slice (some ⟨Bv,0,none⟩) N N) N (s.map fun x=>Value.int .u16 ((x:Nat):Int))
 lv:Bv<w.heap.size
theorem N6.below{w w':World}{N Bv:Nat}{s:List Nat}(h:N6 w N Bv s)(hb:Below w.heap.size w w'):N6 w' N Bv s where
 len:=h.len
 own:=by
  refine⟨h.own.1,?_⟩
  rcases h.own.2 with h|⟨g,cap,cur,h1,h2,h3,h4⟩
  ·exact .inl h
  ·have hlt:g<w.heap.size:=(Array.getElem?_eq_some_iff.1 h3).1;exact .inr ⟨g,cap,cur,h1,h2,(hb.block g hlt).trans h3,h4⟩
 lv:=Qb5 h.lv hb.size
theorem N6.cell{w:World}{N Bv:Nat}{s:List Nat}(h:N6 w N Bv s){j:Nat}(hj:j<N):w.cell? ⟨Bv,j,none⟩=some (.int .u16 ((s.getD j 0:Nat):Int))∧w.frozen? ⟨Bv,j,none⟩=false:=by
 refine⟨?_,World.ownsRow.frozenAt h.own j⟩;rw[World.ownsRow.cellAt h.own j zm,Qb9,getD_eq (by rw[h.len];exact hj),Qa0 (by rw[h.len];exact hj)]
 rfl
theorem N6.put{w:World}{N Bv:Nat}{s:List Nat}(h:N6 w N Bv s)(j:Nat)(x:Nat):N6 (w.setCell ⟨Bv,j,none⟩ (.int .u16 ((x:Nat):Int))) N Bv (s.set j x) where
 len:=by rw[List.length_set];exact h.len
 own:=by
  have:=(World.ownsRow.stored h.own j (.int .u16 ((x:Nat):Int))).1;rw[List.map_set];exact this
 lv:=by have:=h.lv;simpa using this
theorem N6.drew{w:World}{N Bv:Nat}{s:List Nat}(h:N6 w N Bv s):N6 w.drew N Bv s:=⟨h.len,h.own,h.lv⟩
theorem Aqw{n:Int}(h1:0≤n)(h2:n≤9223372036854775807):wrap64 n=n:=by unfold wrap64;omega
def EqN(x y:Nat):Prop:=x=y
def Tb0(a b:List Int)(i j:Nat):Nat:=EK (a.drop i) (b.drop j)
theorem An3(a b:List Int)(j:Nat):Tb0 a b a.length j=b.length -j:=by
 unfold Tb0;rw[Qb4 (Qa1 _),LK,Qc9]
theorem YC(a b:List Int)(i:Nat):Tb0 a b i b.length=a.length -i:=by
 unfold Tb0;rw[Qb4 (l:=b) (Qa1 _),OM,Qc9]
theorem Arm{a b:List Int}{i j:Nat}(hi:i<a.length)(hj:j<b.length)(h:a[i]=b[j]):Tb0 a b i j=Tb0 a b (i+1) (j+1):=by
 unfold Tb0;rw[Qa2 hi,Qa2 hj,WL h]
theorem Arn{a b:List Int}{i j:Nat}(hi:i<a.length)(hj:j<b.length)(h:a[i]≠b[j]):Tb0 a b i j=1+min (Tb0 a b (i+1) j) (Tb0 a b i (j+1)):=by
 unfold Tb0;rw[Qa2 hi,Qa2 hj,WM h]
theorem Qt(a b:List Int)(i j:Nat):Tb0 a b i j≤a.length+b.length:=by
 have:=Akv _ (a.drop i) (b.drop j) (Qa1 _);rw[Qc9,Qc9]at this;unfold Tb0;omega
def TbK(a b:List Int)(s:List Nat)(i j:Nat):Prop:=∀i' j',i'≤a.length→j'≤b.length→(i≤i'∨i'+1=i∧j≤j')→s.getD (i'*(b.length+1)+j') 0=Tb0 a b i' j'
theorem Ap4{W i j i' j':Nat}(hj:j<W)(hj':j'<W)(h:i*W+j=i'*W+j'):i=i'∧j=j':=by
 have h1:(i*W+j)/W=i:=by rw[Qd7,Nat.mul_add_div zm,Nat.div_eq_of_lt hj];rfl
 have h2:(i'*W+j')/W=i':=by rw[Qd7,Nat.mul_add_div zm,Nat.div_eq_of_lt hj'];rfl
 have h3:i=i':=by rw[←h1,h,h2]
 subst h3;exact⟨rfl,zm⟩
theorem TbK.put{a b:List Int}{s:List Nat}{i j x:Nat}(h:TbK a b s (i+1) (j+1))(hi:i≤a.length)(hj:j≤b.length)(hs:i*(b.length+1)+j<s.length)(hx:x=Tb0 a b i j):TbK a b (s.set (i*(b.length+1)+j) x) (i+1) j:=fun i' j' hi' hj' hc=>by
 rw[FU hs]
 by_cases e:i*(b.length+1)+j=i'*(b.length+1)+j'
 ·obtain⟨rfl,rfl⟩:=Ap4 zm zm e;rw[if_pos rfl,hx]
 ·rw[if_neg e];refine h i' j' hi' hj' ?_
  rcases hc with hc|⟨h1,h2⟩
  ·exact .inl hc
  ·have h3:i'=i:=by omega
   subst h3;exact .inr ⟨rfl,by have:j≠j':=fun e2=>e (by rw[e2]);omega⟩
theorem Afl(a b:List Int)(pa pb:Option Addr)(ca cb:Nat)(w:World)(la:a.length≤4096)(lb:b.length≤4096)(ha:LZ w pa a)(hb:LZ w pb b):
  Calls prog 228 #[.slice pa a.length ca,.slice pb b.length cb] w fun e w'=>∃s,e=.returned (.slice (some ⟨w.heap.size,0,none⟩) ((a.length+1)*(b.length+1)) ((a.length+1)*(b.length+1)))∧N6 w' ((a.length+1)*(b.length+1)) w.heap.size s∧(∀i j,i≤a.length→j≤b.length→s.getD (i*(b.length+1)+j) 0=Tb0 a b i j)∧Below w.heap.size w w':=by
 obtain⟨i0,hi,hz0,hz1,hz2⟩:=info_parts (P:=prog) (e:=345) (z:=.int .u16 0) (size:=1) (bytes:=2) zk
 obtain⟨N,hN⟩:∃N,EqN N ((a.length+1)*(b.length+1)):=⟨_,rfl⟩
 have hN2:N≤4097*4097:=by rw[show N=_ from hN];exact Qd3 zm zm
 have hw1:wrap64 (((a.length:Nat)+1:Int)*((b.length:Nat)+1:Int))=((N:Nat):Int):=by
  rw[show(((a.length:Nat):Int)+1)*(((b.length:Nat):Int)+1)=((N:Nat):Int)by rw[show N=_ from hN];push_cast;rfl]
  exact Aqw zm zm
 rw[←show N=_ from hN]
 go_enter func228,ntmps228
 go_wp2_with (at_make;rw[hw1];refine wpList_make_full _ rfl _ _ 343 rfl w.heap.size 345 i0 (.int .u16 0) 1 underlying343 hi hz0 hz1 _ _ _ _ N rfl rfl rfl rfl ?m1 ?m2 ?m3 ?_)
 case m1=>rw[hz2];omega
 case m2=>unfold maxLen;omega
 case m3=>exact Qa1 _
 intro w1 hown1 hgr1
 have hlv:w.heap.size<w1.heap.size:=by
  have:=(World.ownsRow.lt hown1 w.heap.size rfl).2;exact this
 rw[toList_madeCells_one]at hown1
 have hT1:N6 w1 N w.heap.size (List.replicate N 0):=⟨zsz,by rw[List.map_replicate];exact hown1,hlv⟩
 have hB1:Below w.heap.size w w1:=below_grow (Below.refl _ w) hgr1 (fun i h=>nomatch h) (Qa1 _);clear hown1 hgr1 hlv hi hz0 hz1 hz2 hw1;generalize hBv:w.heap.size=Bv at*
 obtain⟨M,hM⟩:∃M,EqN M (a.length*(b.length+1)):=⟨_,rfl⟩
 have hMN:M+b.length+1=N:=by
  rw[show M=_ from hM,show N=_ from hN,Qe2,Nat.one_mul];omega
 have hw2:wrap64 (((a.length:Nat):Int)*((b.length:Nat)+1:Int))=((M:Nat):Int):=by
  rw[show((a.length:Nat):Int)*(((b.length:Nat):Int)+1)=((M:Nat):Int)by rw[show M=_ from hM];push_cast;rfl]
  exact Aqw zm zm
 have hK1:∀j,(List.replicate N 0).getD j 0=0:=fun j=>by
  rw[Qa4,List.getElem?_replicate];split<;>rfl
 go_wp2
 go_loopw [23] (fun i wr=>∃k:Nat,k≤b.length∧i=.int .i64 k∧∃s,N6 wr N Bv s∧((∀j,j<k→s.getD (M+j) 0=b.length -j)∧s.getD (M+b.length) 0=0)∧Below w.heap.size w wr) (fun i _=>b.length -(Lib.intOf i).toNat)
 case atStart=>exact⟨0,Qa3 _,rfl,_,hT1,⟨fun j hj=>absurd hj (Nat.not_lt_zero _),hK1 _⟩,by rw[hBv];exact hB1⟩
 case round=>
  clear hT1 hB1 hK1;obtain⟨k,hk,hi,s,hT,hS,hB⟩:=hrel;subst hi
  by_cases hks:k<b.length
  ·obtain⟨cv,cf⟩:=hT.cell (j:=M+k) zm;have hput:=hT.put (M+k) (b.length -k)
   have hBp:∀x,Below w.heap.size w (wr.setCell ⟨Bv,M+k,none⟩ x):=fun x=>hB.setCell (p:=⟨Bv,M+k,none⟩) (by show w.heap.size≤Bv;omega) _
   have hlen:=hT.len;clear hT
   go_wp2
   refine⟨⟨k+1,zm,zsz,s.set (M+k) (b.length -k),?_,⟨fun j hj=>?_,?_⟩,hBp _⟩,?_⟩
   ·rw[show((b.length:Nat):Int) -(k:Int)=((b.length -k:Nat):Int)by omega];exact hput
   ·rw[FU zm]
    by_cases e:M+k=M+j
    ·rw[if_pos e];omega
    ·rw[if_neg e];exact hS.1 j zm
   ·rw[FU zm,if_neg zm];exact hS.2
   ·simp only[Lib.intOf];omega
  ·have hke:k=b.length:=by omega
   subst hke;have hlen:=hT.len
   have hTK:TbK a b s a.length (b.length+1):=fun i' j' hi' hj' hc=>by
    rcases hc with hc|⟨h1,h2⟩
    ·have h3:i'=a.length:=by omega
     subst h3;rw[←show M=_ from hM,An3]
     by_cases e:j'=b.length
     ·subst e;rw[hS.2];omega
     ·exact hS.1 j' zm
    ·omega
   clear hS hlen hw2 hk hks
   go_wp2
   go_loopw [8] (fun i wr=>∃k:Nat,k≤a.length∧i=.int .i64 ((k:Int) -1)∧∃s,N6 wr N Bv s∧TbK a b s k (b.length+1)∧Below w.heap.size w wr) (fun i _=>(Lib.intOf i+1).toNat)
   case atStart=>exact⟨a.length,Qa1 _,rfl,s,hT,hTK,hB⟩
   case round=>
    clear hT hTK hB;rename_i wr0;obtain⟨k,hk,hi,s,hT,hTK,hB⟩:=hrel;subst hi
    cases k with
    |zero=>
     rw[show(((0:Nat):Int) -1)=-1 from rfl]
     go_wp2
     go_ret
     exact⟨s,by rw[hBv];rfl,by rw[hBv];exact hT,fun i j hi hj=>hTK i j hi hj (.inl (Qa3 _)),hB⟩
    |succ k=>
     rw[show(((k+1:Nat):Int) -1)=(k:Int)by omega]
     obtain⟨Q,hQ⟩:∃Q,EqN Q (k*(b.length+1)):=⟨_,rfl⟩
     have hQN:Q+(b.length+1)+(b.length+1)≤N:=by
      rw[show Q=_ from hQ,show N=_ from hN,←Qc2,←Qc2];exact Qd3 zm (Qa1 _)
     obtain⟨Q1,hQ1⟩:∃Q1,EqN Q1 (Q+(b.length+1)):=⟨_,rfl⟩
     obtain⟨Q2,hQ2⟩:∃Q2,EqN Q2 (Q1+(b.length+1)):=⟨_,rfl⟩
     have eQ1:Q1=Q+(b.length+1):=hQ1;have eQ2:Q2=Q1+(b.length+1):=hQ2
     have hq0:IntKind.i64.wrap ((k:Int)*((b.length:Nat)+1:Int))=((Q:Nat):Int):=by
      rw[show(k:Int)*(((b.length:Nat):Int)+1)=((Q:Nat):Int)by rw[show Q=_ from hQ];push_cast;rfl]
      exact w64 zm zm
     have hq1:IntKind.i64.wrap (((k:Int)+1)*((b.length:Nat)+1:Int))=((Q1:Nat):Int):=by
      rw[show((k:Int)+1)*(((b.length:Nat):Int)+1)=((Q1:Nat):Int)by rw[eQ1,show Q=_ from hQ,←Qc2];push_cast;rfl]
      exact w64 zm zm
     have hq2:IntKind.i64.wrap (((k:Int)+2)*((b.length:Nat)+1:Int))=((Q2:Nat):Int):=by
      rw[show((k:Int)+2)*(((b.length:Nat):Int)+1)=((Q2:Nat):Int)by rw[eQ2,eQ1,show Q=_ from hQ,←Qc2,←Qc2];push_cast;rfl]
      exact w64 zm zm
     have l0:(0:Int)≤((Q:Nat):Int):=zm
     have l1:((Q:Nat):Int)≤((Q1:Nat):Int):=zm
     have l2:((Q1:Nat):Int)≤((Q2:Nat):Int):=zm
     have l3:((Q2:Nat):Int)≤((N:Nat):Int):=zm
     have l4:((Q1:Nat):Int)≤((N:Nat):Int):=zm
     have l5:(0:Int)≤((Q1:Nat):Int):=zm
     have l6:(0:Int)≤((Q2:Nat):Int):=zm
     have n1:¬N=Q1:=zm
     have n0:¬N=Q:=zm
     have e1:Q1 -Q=b.length+1:=zm
     have e2:Q2 -Q1=b.length+1:=zm
     have hlen:=hT.len;obtain⟨cv,cf⟩:=hT.drew.cell (j:=Q+b.length) zm;have hput:=hT.drew.put (Q+b.length) (a.length -k);rw[show((a.length -k:Nat):Int)=(a.length:Int) -(k:Int)by omega]at hput
     have hBp:∀x,Below w.heap.size w (wr.drew.setCell ⟨Bv,Q+b.length,none⟩ x):=fun x=>hB.drew.setCell (p:=⟨Bv,Q+b.length,none⟩) (by show w.heap.size≤Bv;omega) _
     have hTK1:TbK a b (s.set (Q+b.length) (a.length -k)) (k+1) b.length:=by
      rw[show Q=_ from hQ];exact hTK.put zm (Qa1 _) (by rw[←show Q=_ from hQ];omega) (YC a b k).symm
     have hTF:∀{s:List Nat},TbK a b s (k+1) 0→TbK a b s k (b.length+1):=fun h i' j' hi' hj' hc=>by
      refine h i' j' hi' hj' ?_
      rcases hc with hc|⟨h1,h2⟩
      ·omega
      ·omega
     have hQ3:EqN Q1 ((k+1)*(b.length+1)):=by
      show Q1=_;rw[eQ1,show Q=_ from hQ,←Qc2]
     clear eQ1 eQ2 hT hTK hB
     go_wp2_with fail
     go_region
     clear l0 l1 l2 l6 hq0 hq1 hq2 hlen
     go_wp2
     go_loopw [11] (fun i wq=>∃j:Nat,j≤b.length∧i=.int .i64 ((j:Int) -1)∧∃s,N6 wq N Bv s∧TbK a b s (k+1) j∧Below w.heap.size w wq) (fun i _=>(Lib.intOf i+1).toNat)
     case atStart=>exact⟨b.length,Qa1 _,rfl,_,hput,hTK1,hBp _⟩
     case round=>
      clear cv cf hput hTK1 hBp;obtain⟨j,hj,hi,s,hT,hTK,hB⟩:=hrel;subst hi
      cases j with
      |zero=>
       rw[show(((0:Nat):Int) -1)=-1 from rfl]
       go_wp2
       go_roundw
       case rel=>exact⟨k,zm,rfl,s,hT,hTF hTK,hB⟩
       case measure=>simp only[Lib.intOf];omega
      |succ j=>
       rw[show(((j+1:Nat):Int) -1)=(j:Int)by omega];obtain⟨ba,oa,rfl,hba,ca0⟩:=ha.at_ k a[k] (Qa0 zm);obtain⟨bb,ob,rfl,hbb,cb0⟩:=hb.at_ j b[j] (Qa0 zm);have ca1:=(hB.cell (p:=⟨ba,oa+k,none⟩) hba).trans ca0;have cb1:=(hB.cell (p:=⟨bb,ob+j,none⟩) hbb).trans cb0;have hlen:=hT.len
       have q1:s.getD (Q1+(j+1)) 0=Tb0 a b (k+1) (j+1):=by rw[show Q1=_ from hQ3];exact hTK (k+1) (j+1) zm hj (.inl (Qa1 _))
       have q2:s.getD (Q1+j) 0=Tb0 a b (k+1) j:=by rw[show Q1=_ from hQ3];exact hTK (k+1) j zm zm (.inl (Qa1 _))
       have q3:s.getD (Q+(j+1)) 0=Tb0 a b k (j+1):=by rw[show Q=_ from hQ];exact hTK k (j+1) zm hj (.inr ⟨rfl,Qa1 _⟩)
       have b2:=Qt a b (k+1) j;have b3:=Qt a b k (j+1)
       have hnx:∀{x},x=Tb0 a b k j→TbK a b (s.set (Q+j) x) (k+1) j:=fun hx=>by
        rw[show Q=_ from hQ];exact hTK.put zm zm (by rw[←show Q=_ from hQ];omega) hx
       by_cases hab:a[k]=b[j]
       ·have hx:=Arm (a:=a) (b:=b) (i:=k) (j:=j) zm zm hab;obtain⟨cv,cf⟩:=hT.drew.cell (j:=Q1+(j+1)) zm;obtain⟨cv2,cf2⟩:=hT.drew.cell (j:=Q+j) zm;have hput:=hT.drew.put (Q+j) (s.getD (Q1+(j+1)) 0);have hnx1:=hnx (q1.trans hx.symm)
        have hBp:∀x,Below w.heap.size w (wr.drew.setCell ⟨Bv,Q+j,none⟩ x):=fun x=>hB.drew.setCell (p:=⟨Bv,Q+j,none⟩) (by show w.heap.size≤Bv;omega) _
        rw[hab]at ca1;clear hT hTK hB hnx q1 q2 q3 b2 b3 hx ca0 cb0 ha hb hab;generalize b[j]=y at ca1 cb1;generalize s.getD (Q1+(j+1)) 0=v at cv hput hnx1;generalize s.getD (Q+j) 0=v2 at cv2
        go_wp2_with fail
        go_region
        go_wp2
        go_roundw
        case rel=>exact⟨j,zm,rfl,_,hput,hnx1,hBp _⟩
        case measure=>simp only[Lib.intOf];omega
       ·have hx:=Arn (a:=a) (b:=b) (i:=k) (j:=j) zm zm hab;obtain⟨cv,cf⟩:=hT.drew.drew.cell (j:=Q1+j) zm;obtain⟨cv3,cf3⟩:=hT.drew.drew.cell (j:=Q+(j+1)) zm;obtain⟨cv2,cf2⟩:=hT.drew.drew.cell (j:=Q+j) zm;rw[q2]at cv;rw[q3]at cv3
        have hput:=fun x=>hT.drew.drew.put (Q+j) x
        have hBp:∀x,Below w.heap.size w (wr.drew.drew.setCell ⟨Bv,Q+j,none⟩ x):=fun x=>hB.drew.drew.setCell (p:=⟨Bv,Q+j,none⟩) (by show w.heap.size≤Bv;omega) _
        generalize Tb0 a b (k+1) j=v1 at*;generalize Tb0 a b k (j+1)=v3 at*;clear hT hTK hB q1 q2 q3 ca0 cb0 ha hb;generalize a[k]=x at ca1 hab;generalize b[j]=y at cb1 hab;generalize s.getD (Q+j) 0=v2 at cv2
        have hab1:(x==y)=false:=by simpa using hab
        have hv1:(v1:Int)≤8192:=zm
        have hv3:(v3:Int)≤8192:=zm
        go_wp2_with fail
        go_region
        go_wp2_with fail
        go_region
        go_wp2
        go_roundw
        case rel=>
         have hp:=hput (min v1 v3+1);rw[show((min v1 v3+1:Nat):Int)=min (v1:Int) (v3:Int)+1 by omega]at hp;exact⟨j,zm,rfl,_,hp,hnx (by rw[hx];omega),hBp _⟩
        case measure=>simp only[Lib.intOf];omega
end Go.Proofs.Tryz
namespace Go.VS
def Ft:List Int→List Int→Nat
 |x::a,y::b=>if x=y then Ft a b+1 else 0
 |[],_=>0
 |_::_,[]=>0
theorem Akd:∀(a b:List Int),Ft a b≤a.length∧Ft a b≤b.length
 |x::a,y::b=>by
  have:=Akd a b;unfold Ft;split
  ·simp only[Qb3];omega
  ·exact⟨Qa3 _,Qa3 _⟩
 |[],_=>⟨Qa3 _,Qa3 _⟩
 |_::_,[]=>⟨Qa3 _,Qa3 _⟩
def BgI(a b:List Int)(k:Nat):Prop:=Ft a b=k+Ft (a.drop k) (b.drop k)∧k≤a.length∧k≤b.length
theorem BgI.zero(a b:List Int):BgI a b 0:=⟨by rw[Qe3,Qe3];omega,Qa3 _,Qa3 _⟩
theorem BgI.next{a b:List Int}{k:Nat}(h:BgI a b k)(ha:k<a.length)(hb:k<b.length)(he:a[k]=b[k]):BgI a b (k+1):=by
 obtain⟨h1,_,_⟩:=h;rw[Qa2 ha,Qa2 hb,Ft,if_pos he]at h1;exact⟨zm,zm,zm⟩
theorem BgI.stop{a b:List Int}{k:Nat}(h:BgI a b k)(hs:(ha:k<a.length)→(hb:k<b.length)→a[k]≠b[k]):k=Ft a b:=by
 obtain⟨h1,h2,h3⟩:=h
 have:Ft (a.drop k) (b.drop k)=0:=by
  by_cases ha:k<a.length
  ·by_cases hb:k<b.length
   ·rw[Qa2 ha,Qa2 hb,Ft,if_neg (hs ha hb)]
   ·rw[Qb4 (l:=b) zm]
    cases a.drop k<;>rfl
  ·rw[Qb4 (l:=a) zm]
   cases b.drop k<;>rfl
 omega
end Go.VS
namespace Go.Proofs.Tryz
open Go.Shelf Go.RowKit Go.VS Go Go.Sort
theorem Ab8(a b:List Int)(pa pb:Option Addr)(ca cb:Nat)(w:World)(la:a.length≤4096)(lb:b.length≤4096)(ha:LZ w pa a)(hb:LZ w pb b):
  Calls prog 227 #[.slice pa a.length ca,.slice pb b.length cb] w fun e w'=>e=.returned (.int .i64 ((Ft a b:Nat):Int))∧Below w.heap.size w w':=by
 go_enter func227,ntmps227
 go_wp2
 go_loopw [5] (fun i wr=>∃k:Nat,i=.int .i64 k∧BgI a b k∧Below w.heap.size w wr) (fun i _=>a.length -(Lib.intOf i).toNat)
 case atStart=>exact⟨0,rfl,BgI.zero a b,Below.refl _ _⟩
 case round=>
  obtain⟨k,hi,hI,hB⟩:=hrel;subst hi;have hka:=hI.2.1;have hkb:=hI.2.2
  by_cases h1:k<a.length
  ·by_cases h2:k<b.length
   ·have hnx:=hI.next h1 h2;have hst:=hI.stop;obtain⟨ba,oa,rfl,hba,ca0⟩:=ha.at_ k a[k] (Qa0 h1);obtain⟨bb,ob,rfl,hbb,cb0⟩:=hb.at_ k b[k] (Qa0 h2);have ca1:=(hB.cell (p:=⟨ba,oa+k,none⟩) hba).trans ca0;have cb1:=(hB.cell (p:=⟨bb,ob+k,none⟩) hbb).trans cb0
    by_cases he:a[k]=b[k]
    ·have hnx:=hnx he;rw[he]at ca1;clear hst ca0 cb0 ha hb hI;generalize b[k]=y at ca1 cb1
     go_wp2_with fail
     go_region
     go_wp2
     go_roundw
     case rel=>exact⟨k+1,zsz,hnx,hB.drew⟩
     case measure=>simp only[Lib.intOf];omega
    ·have hst:EqN k (Ft a b):=hst fun _ _=>he
     have hab1:(a[k]==b[k])=false:=by simpa using he
     clear hnx ca0 cb0 ha hb hI;generalize a[k]=x at ca1 hab1;generalize b[k]=y at cb1 hab1
     go_wp2_with fail
     go_region
     go_wp2
     go_ret
     exact⟨by rw[←show k=_ from hst];rfl,hB.drew⟩
   ·have hst:EqN k (Ft a b):=hI.stop fun _ h=>absurd h h2
    clear hI
    go_wp2_with fail
    go_region
    go_wp2
    go_ret
    exact⟨by rw[←show k=_ from hst];rfl,hB.drew⟩
  ·have hst:EqN k (Ft a b):=hI.stop fun h=>absurd h h1
   clear hI
   go_wp2_with fail
   go_region
   go_wp2
   go_ret
   exact⟨by rw[←show k=_ from hst];rfl,hB.drew⟩
theorem LU(i j la lb N Bt Bd Bb:Nat)(X:Option Addr)(cc:Nat)(s:List Nat)(W:World)(hi:i≤la)(hj:j≤lb)(hla:la≤4096)(hlb:lb≤4096)(hN:EqN N ((la+1)*(lb+1)))(hT:N6 W N Bt s)
  (hd:W.cell? ⟨Bd,0,none⟩=some (.slice (some ⟨Bt,0,none⟩) N N)) (hb:W.cell? ⟨Bb,0,none⟩=some (.slice X lb cc)) (hs:s.getD (i*(lb+1)+j) 0≤8192):
  Calls prog 229 #[.int .i64 i,.int .i64 j,.pointer (some ⟨Bd,0,none⟩),.pointer (some ⟨Bb,0,none⟩)] W fun e w'=>e=.returned (.int .i64 ((s.getD (i*(lb+1)+j) 0:Nat):Int))∧w'=W:=by
 obtain⟨Q,hQ⟩:∃Q,EqN Q (i*(lb+1)):=⟨_,rfl⟩
 have hQN:Q+(lb+1)≤N:=by
  rw[show Q=_ from hQ,show N=_ from hN,←Qc2];exact Qd3 zm (Qa1 _)
 have hN2:N≤4097*4097:=by rw[show N=_ from hN];exact Qd3 zm zm
 rw[←show Q=_ from hQ]at hs⊢
 have hq0:wrap64 ((i:Int)*((lb:Int)+1))=((Q:Nat):Int):=by
  rw[show(i:Int)*((lb:Int)+1)=((Q:Nat):Int)by rw[show Q=_ from hQ];push_cast;rfl]
  exact Aqw zm zm
 obtain⟨cv,cf⟩:=hT.cell (j:=Q+j) zm;clear hT hN hQ;generalize s.getD (Q+j) 0=v at*
 go_enter func229,ntmps229
 go_wp2
 go_ret
 exact⟨rfl,rfl⟩
end Go.Proofs.Tryz
