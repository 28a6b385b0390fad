/- regex.Parse at the expression a$, walked: its deferred closure finds nothing. -/
import Derived.Test.YtopngokkgogolaaGreatDoorFwD
import Derived.Test.YtopngokkgogolaaGreatDoorKS0
import Derived.Tactics2
import Derived.Defers
import Derived.Recover
import Derived.WalkKit
import Derived.Laws.Pointers
import Derived.Laws.Externs
import Derived.Test.YtopngokkgogolaaGreatDoorChecked
set_option linter.unusedVariables false
set_option linter.unusedSimpArgs false
open Array renaming size_push → Qa0, getElem?_push → Qa1
namespace Go.Proofs.Tryz
open Go.RowKit Go.VS
theorem AlI(w:World):(Instr.typeAssert .nilIface 20 29 true).run prog w=.ok (.tuple #[.int .i64 0,.bool false]) w:=by kernel_rfl
theorem Adg(p q:Addr)(w:World):
  CallsD prog 190 #[.pointer (some p),.pointer (some q)] .returning w fun e u' w'=>e=.returned (.tuple #[])∧u'=.returning∧w'=w:=by
 refine callsD_of_wpS func190 rfl fun c₀ cs hu=>?_
 apply wpS_seq;apply wpS_region;simp[wpOpsS,go_sem,recoverD,hu,ntmps190,Exit.thenS,AlI];apply wpS_seq;apply wpS_region;simp[wpOpsS,go_sem,ntmps190,Exit.thenS];refine wpS_cond (t:=false) (by simp[Act.eval,Array.replicate]) ?_;simp only[Bool.false_eq_true,if_false];refine wpS_of_wp (wp_skip ?_);cases c₀;simp_all [bodyPostS,results,results190]
abbrev sA:Bs:=[97,36]
abbrev NTT:TT:=.node .own (.pair .leaf (.pair .leaf (.pair .leaf (.pair .leaf (.node .imm .leaf)))))
def Alg(w:World)(e:Ending)(w':World):Prop:=Below w.heap.size w w'∧∃(ns:Value) (f:List Nat) (z:Nat→Prop),e=.returned (.tuple #[ns,.int .i64 0])∧
 RVs (hctx prog z) w' ((BT.sl HC).enc NTT Nq) [ns] f∧f.Nodup∧(∀b∈f,w.heap.size≤b∧b<w'.heap.size∧¬z b)∧(∀b,z b→w.heap.size≤b∧b<w'.heap.size)
def pvS(s:Bs):Value:=.string (ByteArray.mk s.toArray)
def W3(w:World)(s:Bs):World:=((w.alloc (Obj.cells #[Value.slice none 0 0] 52)).alloc (Obj.cells #[Value.int IntKind.i64 0] 29)).alloc (Obj.cells #[pvS s,Value.int IntKind.i64 0,Value.int IntKind.i64 0,Value.slice none 0 0] 310)
theorem SM(w:World)(s:Bs):(W3 w s).heap.size=w.heap.size+3:=by simp only[W3,World.alloc,Qa0]
theorem Aji(w:World)(s:Bs){b:Nat}(h:b<w.heap.size):(W3 w s).heap[b]?=w.heap[b]?:=by
 simp only[W3,World.alloc];rw[Qa1,if_neg (by rw[Qa0,Qa0];omega),Qa1,if_neg (by rw[Qa0];omega),Qa1,if_neg (by omega)]
theorem AmR(w:World)(s:Bs):(W3 w s).heap[w.heap.size]?=some (Obj.cells #[Value.slice none 0 0] 52 (0,0)):=by
 simp only[W3,World.alloc];rw[Qa1,if_neg (by rw[Qa0,Qa0];omega),Qa1,if_neg (by rw[Qa0];omega),Qa1,if_pos rfl]
theorem AmS(w:World)(s:Bs):(W3 w s).heap[w.heap.size+1]?=some (Obj.cells #[Value.int IntKind.i64 0] 29 (0,0)):=by
 simp only[W3,World.alloc];rw[Qa1,if_neg (by rw[Qa0,Qa0];omega),Qa1,if_pos (by rw[Qa0])]
theorem AmT(w:World)(s:Bs):(W3 w s).heap[w.heap.size+2]?=some (Obj.cells #[pvS s,Value.int IntKind.i64 0,Value.int IntKind.i64 0,Value.slice none 0 0] 310 (0,0)):=by
 simp only[W3,World.alloc];rw[Qa1,if_pos (by rw[Qa0,Qa0])]
theorem Aot(w:World)(s:Bs):(W3 w s).os=w.os∧(W3 w s).tape=w.tape∧(W3 w s).output=w.output:=⟨rfl,rfl,rfl⟩
structure AlC(w:World)(e:Ending)(w':World):Prop where
 old:∀b',b'<w.heap.size+2→w'.heap[b']?=(W3 w sA).heap[b']?
 os:w'.os=w.os
 tape:w'.tape=w.tape
 out:w'.output=w.output
 size:w.heap.size+3≤w'.heap.size
 res:∃(v nv:Value) (f':List Nat) (z:Nat→Prop) (ty':TypeId),e=.returned v∧
   w'.heap[w.heap.size+2]?=some (.cells #[pvS sA,.int .i64 2,.int .i64 0,nv] ty' (0,0))∧RVs (hctx prog z) w' ((BT.sl HC).enc NTT Nq) [nv] f'∧f'.Nodup∧
   (∀b'∈f',w.heap.size+3≤b'∧b'<w'.heap.size∧¬z b')∧(∀b',z b'→w.heap.size+3≤b'∧b'<w'.heap.size)
theorem AiC(hpat:Rb (Pg.of prog))(w:World)(hw:Late (Pg.of prog) w):
  Calls prog 191 #[.pointer (some ⟨w.heap.size+2,0,none⟩)] (W3 w sA) (AlC w):=by
 obtain⟨lw,hg,hlw⟩:=hw
 have hle:∀b',b'<lw.heap.size→b'<w.heap.size:=fun b' hb=>by
  have:=hlw b' hb
  rcases Nat.lt_or_ge b' w.heap.size with h|h
  ·exact h
  ·rw[Array.getElem?_eq_none h,Array.getElem?_eq_getElem hb]at this;cases this
 refine(AfX (P:=Pg.of prog) (by rfl) hpat func191 (by kernel_rfl) (F:=fun _=>False) (b:=w.heap.size+2) (cs:=#[pvS sA,.int .i64 0,.int .i64 0,.slice none 0 0]) (ty:=310) (lw:=lw) hg ?hlt (AmT w sA) ?hcs).mono ?post
 case hlt=>
  intro b' hb';have h1:=hle b' hb';exact⟨by rw[SM];omega,id,by omega,(Aji w sA h1).trans (hlw b' hb')⟩
 case hcs=>
  intro C;exact .cons _ _ [] _ _ [] (.lit _ rfl) (.cons _ _ [] _ _ [] (.lit _ rfl) (.cons _ _ [] _ _ [] (.lit _ rfl) (.cons _ _ [] _ _ [] (.slNil _ _) .nil)))
 case post=>
  rintro e w' ⟨hfr,hos,htp,hout,hsz',hres⟩;rw[SM]at hsz';refine⟨fun b' hb'=>hfr b' (by rw[SM];omega) id (by omega),hos,htp,hout,hsz',?_⟩
  rcases hres with⟨v,rfl,k,e',hok,cs',ty',f',z,hb',hrv,hnd,hnb,hf',hz⟩|⟨v,rfl,h⟩
  ·obtain⟨_,rfl⟩:=hok;have hrv:RVs (hctx prog z) w' (.lit (pvS sA)::.lit (.int .i64 2)::.lit (.int .i64 0)::(BT.sl HC).enc NTT Nq) cs'.toList f':=hrv;obtain⟨v1,m1,f1,g1,e1,rfl,h1,hrv⟩:=hrv.cons_inv;obtain⟨v2,m2,f2,g2,rfl,rfl,h2,hrv⟩:=hrv.cons_inv;obtain⟨v3,m3,f3,g3,rfl,rfl,h3,hrv⟩:=hrv.cons_inv
   obtain⟨a,ha⟩:∃a,(BT.sl HC).enc NTT Nq=[a]:=⟨_,rfl⟩
   rw[ha]at hrv;obtain⟨nv,rfl,hr⟩:=hrv.Cc;have q1:=h1.Dj;have q2:=h2.Dj;have q3:=h3.Dj;have z1:=h1.E9 rfl;have z2:=h2.E9 rfl;have z3:=h3.E9 rfl;subst q1 q2 q3 z1 z2 z3
   have ecs:cs'=#[pvS sA,.int .i64 2,.int .i64 0,nv]:=by
    have:=congrArg List.toArray e1;simpa using this
   subst ecs;refine⟨v,nv,g3,z,ty',rfl,hb',by rw[ha];exact RVs.one hr,by simpa using hnd,fun b' hb'=>?_,fun b' hb'=>?_⟩
   ·obtain⟨q1,q2,q3⟩:=hf' b' (by simpa using hb');rw[SM]at q2;exact⟨q2.resolve_left id,q1,q3⟩
   ·obtain⟨q1,q2,q3⟩:=hz b' hb';rw[SM]at q2;exact⟨q2.resolve_left id,q1⟩
  ·exact h.elim
theorem Ov{w:World}{b i:Nat}{cs:Array Value}{t:TypeId}(h:w.heap[b]?=some (.cells cs t (0,0))):w.frozen? ⟨b,i,none⟩=false:=by
 simp[World.frozen?,h]
theorem Amy{C:Ctx}{w:World}{τ:Tag}{k:Nat}{xs:List (List AV)}{v:Value}{f:List Nat}(h:RV C w (.sl τ k xs) v f):∃a n c,v=.slice a n c:=by
 cases h<;>exact⟨_,_,_,rfl⟩
structure Door(w:World)(w':World):Prop where
 h0:w'.heap[w.heap.size]?=some (Obj.cells #[Value.slice none 0 0] 52 (0,0))
 h1:w'.heap[w.heap.size+1]?=some (Obj.cells #[Value.int IntKind.i64 0] 29 (0,0))
 bel:Below w.heap.size w w'
theorem AlC.door{w w':World}{e:Ending}(h:AlC w e w'):Door w w':=
 ⟨(h.old _ (by omega)).trans (AmR w sA),(h.old _ (by omega)).trans (AmS w sA),⟨h.os,h.tape,h.out,by have:=h.size;omega,fun k hk=>(h.old k (by omega)).trans (Aji w sA hk)⟩⟩
theorem Door.c0{w w':World}(h:Door w w'):w'.cell? ⟨w.heap.size,0,none⟩=some (.slice none 0 0):=by simp[World.cell?,h.h0]
theorem Door.c1{w w':World}(h:Door w w'):w'.cell? ⟨w.heap.size+1,0,none⟩=some (.int .i64 0):=by simp[World.cell?,h.h1]
theorem AeV{w w':World}{n:Nat}{i j:Nat}(hb:Below w.heap.size w w')(hi:w.heap.size≤n)(v:Value):Below w.heap.size w (w'.setCell ⟨n,i,none⟩ v):=
 ⟨hb.os,hb.tape,hb.output,by rw[World.size_setCell];exact hb.size,fun k hk=>(heap_setCell_other w' _ k v (by show k≠n;omega)).trans (hb.block k hk)⟩
set_option maxHeartbeats 2000000 in
set_option maxRecDepth 100000 in
theorem ZV(hpat:Rb (Pg.of prog))(w:World)(hw:Late (Pg.of prog) w)(s:ByteArray)(hs:s=ByteArray.mk sA.toArray):
  Calls prog 124 #[.string s] w (Alg w):=by
 have hmf:∀(fn:Go.Fn) (first cap:Array Value) (w:World),(Instr.makeFunc fn first cap).run prog w=.ok (.func fn first cap) w:=fun _ _ _ _=>rfl
 have hsz:s.size=2:=by rw[hs];rfl
 have hcall:=AiC hpat w hw;unfold W3 pvS at hcall;rw[←hs]at hcall;clear hs
 go_enter_defers func124,ntmps124
 go_wp2_with (go_at_call 191;refine hcall.mono ?_)
 rintro e w' hP;have hd:=hP.door;obtain⟨v,nv,f',z,ty',rfl,hb',hrv,hnd,hf',hz⟩:=hP.res;have c0:=hd.c0;have c1:=hd.c1
 have c2:w'.cell? ⟨w.heap.size+2,1,none⟩=some (.int .i64 2):=by
  simp[World.cell?,hb']
 obtain⟨na,nn,nc,rfl⟩:∃a n c,nv=.slice a n c:=by
  obtain⟨u,hu,hr⟩:=RVs.Cc (show RVs (hctx prog z) w' [_] [nv] f' from hrv);cases hu;exact Amy hr
 have c3:w'.cell? ⟨w.heap.size+2,3,none⟩=some (.slice na nn nc):=by
  simp[World.cell?,hb']
 have f0:=Ov (i:=0) hd.h0;have f1:=Ov (i:=0) hd.h1;have a1:=one_setCell (u:=.slice na nn nc) hd.h0;have a2:(w'.setCell ⟨w.heap.size,0,none⟩ (.slice na nn nc)).heap[w.heap.size+1]?=some (Obj.cells #[Value.int IntKind.i64 0] 29 (0,0)):=(heap_setCell_other w' _ _ _ (by show w.heap.size+1≠w.heap.size;omega)).trans hd.h1
 have d1:(w'.setCell ⟨w.heap.size,0,none⟩ (.slice na nn nc)).cell? ⟨w.heap.size+1,0,none⟩=some (.int .i64 0):=by simp[World.cell?,a2]
 have d2:=Ov (i:=0) a2;clear hcall
 go_wp2
 refine leaves_cons (f:=190) (args:=#[.pointer (some ⟨w.heap.size,0,none⟩),.pointer (some ⟨w.heap.size+1,0,none⟩)]) (by simp) (by simp[go_sem]) ?_;refine(Adg _ _ _).mono ?_;rintro e u wF ⟨rfl,rfl,rfl⟩;have a3:=one_setCell (u:=.int .i64 0) a2
 have a4:=(heap_setCell_other (w'.setCell ⟨w.heap.size,0,none⟩ (.slice na nn nc)) ⟨w.heap.size+1,0,none⟩ w.heap.size (.int .i64 0) (by show w.heap.size≠w.heap.size+1;omega)).trans a1
 have q0:((w'.setCell ⟨w.heap.size,0,none⟩ (.slice na nn nc)).setCell ⟨w.heap.size+1,0,none⟩ (.int .i64 0)).cell? ⟨w.heap.size,0,none⟩=some (.slice na nn nc):=by simp[World.cell?,a4]
 have q1:((w'.setCell ⟨w.heap.size,0,none⟩ (.slice na nn nc)).setCell ⟨w.heap.size+1,0,none⟩ (.int .i64 0)).cell? ⟨w.heap.size+1,0,none⟩=some (.int .i64 0):=by simp[World.cell?,a3]
 have hq:Alg w (.returned (.tuple #[.slice na nn nc,.int .i64 0])) ((w'.setCell ⟨w.heap.size,0,none⟩ (.slice na nn nc)).setCell ⟨w.heap.size+1,0,none⟩ (.int .i64 0)):=by
  have far:∀b',w.heap.size+3≤b'→((w'.setCell ⟨w.heap.size,0,none⟩ (.slice na nn nc)).setCell ⟨w.heap.size+1,0,none⟩ (.int .i64 0)).heap[b']?=w'.heap[b']?:=fun b' hb'=>
   (heap_setCell_other _ _ _ _ (by show b'≠w.heap.size+1;omega)).trans (heap_setCell_other _ _ _ _ (by show b'≠w.heap.size;omega))
  refine⟨AeV (j:=0) (AeV (j:=0) hd.bel (Nat.le_refl _) _) (by omega) _,.slice na nn nc,f',z,rfl,?_,hnd,fun b' hb'=>?_,fun b' hb'=>?_⟩
  ·exact hrv.frame ⟨rfl,fun _ _=>rfl,Nat.le_refl _,fun _ h=>h,fun _ h=>h⟩ (fun b' hb'=>far b' (hz b' hb').1) (fun b' hb'=>far b' (hf' b' hb').1)
  ·have:=hf' b' hb';exact⟨by omega,by simpa using this.2.1,this.2.2⟩
  ·have:=hz b' hb';exact⟨by omega,by simpa using this.2⟩
 simp[Leaves,settle,results,results124,go_sem,q0,q1];exact hq
theorem Agz(hpat:Rb (Pg.of prog)):Pl (Pg.of prog):=by
 refine Fn.Aiv (ps:=[.val false .str .leaf]) (t:=HC) (tt:=NTT) rfl rfl sA Nq 0 () (K:=fun(d:List Go.VS.Node×Int) _=>d=(Nq,(0:Int))) rfl fun f fn hf hn=>?_
 have hfi:f=124:=E3 (by kernel_rfl) hf hn;subst hfi;have hfe:=Option.some.inj (hf.symm.trans func124);subst hfe;refine⟨by kernel_rfl,by kernel_rfl,fun w hw=>?_⟩
 exact(ZV hpat w hw _ rfl).mono fun e w' ⟨h1,h2⟩=>⟨h1,.inl h2⟩
end Go.Proofs.Tryz
