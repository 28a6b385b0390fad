/- intern.table: id, walked. -/
import Derived.Test.YtopngokkgogolaaGreatDoorKKRI
import Derived.Test.YtopngokkgogolaaGreatDoorKKM
import Derived.Test.YtopngokkgogolaaGreatDoorKS0
import Derived.Laws.Cover1
set_option linter.unusedVariables false
set_option linter.unusedSimpArgs false
open List renaming length_append → Qa0
open Option.some renaming inj → Qa1
namespace Go.VS
def Ac1(g:Bs→Option Int)(ns:List Bs):Prop:=∀s i,g s=some i→(0≤i∧i<(ns.length:Int))∧ns[i.toNat]?=some s
theorem Ac1.put{g:Bs→Option Int}{ns:List Bs}(h:Ac1 g ns)(s:Bs):Ac1 (gput g s (ns.length:Int)) (ns++[s]):=fun t i ht=>by
 unfold gput at ht
 by_cases e:t=s
 ·rw[if_pos e]at ht;cases ht;refine⟨⟨Int.natCast_nonneg _,by rw[Qa0];simp only[List.length_cons,List.length_nil];omega⟩,?_⟩
  rw[Int.toNat_natCast,List.getElem?_append_right (Nat.le_refl _),Nat.sub_self,e];rfl
 ·rw[if_neg e]at ht;obtain⟨h1,h2⟩:=h t i ht;refine⟨⟨h1.1,by rw[Qa0];simp only[List.length_cons,List.length_nil];omega⟩,?_⟩
  rw[List.getElem?_append_left (by omega)];exact h2
theorem Ac1.inj{g:Bs→Option Int}{ns:List Bs}(h:Ac1 g ns){s t:Bs}{i:Int}(hs:g s=some i)(ht:g t=some i):s=t:=by
 have h1:=(h s i hs).2;have h2:=(h t i ht).2;rw[h1]at h2;exact Qa1 h2
end Go.VS
namespace Go.Proofs.Tryz
open Go.Shelf Go.RowKit Go.VS Go Go.Sort Go.Maps
def AcL(w:World)(B:Nat)(v:Value)(l:List Bs):Prop:=w.ownsRow B 9 1 v l.length (l.map fun s=>Value.string ⟨s.toArray⟩)
def MJ(w:World)(b n:Nat)(g:Bs→Option Int):Prop:=CJ prog 9 (Elt.int underlying3) w b n g
theorem An7(w:World):(zeroValue 3).run prog w=.ok ((Elt.int (P:=prog) underlying3).val (0:Int)) w:=Tryz.zeroValue3 w
theorem An9(B:Nat){ops:Array Oper}{rest:List Oper}{o:Oper}{a:Act}{Q:Exit→Act→World→Prop}{s x:Operand}{w1:World}{v:Value}{l:List Bs}{g:Nat}{p:Bs}
  (hgd:o.guard=none) (ho:o.op=.call {callee:=.builtin .append,args:=#[s,x],argTypes:=#[23,23]}) (hs:a.eval s=v) (hown:AcL w1 B v l)
  (hx:a.eval x=.slice (some ⟨g,0,none⟩) 1 1) (hc0:w1.cell? ⟨g,0,none⟩=some (.string ⟨p.toArray⟩)) (hn:l.length≤100000000) (hB:B≤w1.heap.size)
  (hk:∀v' w',AcL w' B v' (l++[p])→w1.grownBy w' v.ownBlock→wpList prog ops Q rest (a.put o.dst v') w'):wpList prog ops Q (o::rest) a w1:=by
 obtain⟨i0,hi,hz0,hz1,hz2⟩:=info_parts (P:=prog) (e:=9) (z:=.string ⟨#[]⟩) (size:=1) (bytes:=16) (by kernel_rfl);refine wpList_append_own w1 hgd s x 23 ho B 9 i0 (.string ⟨#[]⟩) 1 16 underlying23 hi hz0 hz1 hz2 rfl (by decide) v l.length _ hs hown ⟨g,0,none⟩ 1 1 [.string ⟨p.toArray⟩] hx rfl ?_ ?_ ?_ ?_ hB ?_
 ·intro j u hj
  match j,hj with
  |0,hj=>
   have:Value.string ⟨p.toArray⟩=u:=by simpa using hj
   subst this;exact hc0
  |j+1,hj=>simp at hj
 ·intro u hu;simp only[List.mem_cons,List.not_mem_nil,or_false]at hu
  rcases hu with rfl
  rfl
 ·unfold maxLen;omega
 ·omega
 ·intro v' w' h1 h2 _;refine hk v' w' ?_ h2;unfold AcL;rw[Qa0,List.map_append];exact h1
def Aao(w w':World):Prop:=∀(k:Nat) (cur:Array Value) (e:TypeId) (fz:Nat×Nat),w.heap[k]?=some (.cells cur e fz)→e≠303→e≠9→w'.heap[k]?=some (.cells cur e fz)
structure GF(w:World)(B Bt Bm:Nat)(g:Bs→Option Int)(ns:List Bs)(v:Value):Prop where
 tb:w.heap[Bt]?=some (.cells #[.map (some Bm),v] 303 (0,0))
 mp:MJ w Bm ns.length g
 nm:AcL w B v ns
 inv:Ac1 g ns
 bt:B≤Bt
 bm:B≤Bm
theorem GW{w:World}{B:Nat}{e e2:TypeId}{size:Nat}{v:Value}{m g:Nat}{xs:List Value}{cur:Array Value}{fz:Nat×Nat}(h:w.ownsRow B e size v m xs)(hb:w.heap[g]?=some (.cells cur e2 fz))(hne:e≠e2):v.ownBlock≠some g:=by
 rcases h.2 with⟨rfl,_⟩|⟨g',cap,cur',rfl,_,hc,_⟩
 ·exact fun h=>nomatch h
 ·intro e1
  have:g'=g:=by simpa[Value.ownBlock]using e1
  subst this;rw[hb]at hc;cases hc;exact hne rfl
theorem Wx{w:World}{b n:Nat}{g:Bs→Option Int}(h:MJ w b n g):∃es clock,w.heap[b]?=some (.map es clock):=by
 obtain⟨D,⟨es,clock,hb,_⟩,_⟩:=h;exact⟨es,clock,hb⟩
theorem ZT{w:World}{B:Nat}{e:TypeId}{size:Nat}{v:Value}{m b n:Nat}{xs:List Value}{g:Bs→Option Int}(h:w.ownsRow B e size v m xs)(hm:MJ w b n g):v.ownBlock≠some b:=by
 obtain⟨es,clock,hb⟩:=Wx hm
 rcases h.2 with⟨rfl,_⟩|⟨g',cap,cur',rfl,_,hc,_⟩
 ·exact fun h=>nomatch h
 ·intro e1
  have:g'=b:=by simpa[Value.ownBlock]using e1
  subst this;rw[hb]at hc;cases hc
theorem PA{w w':World}{B:Nat}{v:Value}{l:List Bs}(h:AcL w B v l)(hk:∀g,v.ownBlock=some g→w'.heap[g]?=w.heap[g]?):AcL w' B v l:=by
 refine⟨h.1,?_⟩
 rcases h.2 with h|⟨g,cap,cur,h1,h2,h3,h4⟩
 ·exact .inl h
 ·exact .inr ⟨g,cap,cur,h1,h2,(hk g (by rw[h1];rfl)).trans h3,h4⟩
theorem Aei{w:World}{g:Nat}{u0 u v:Value}{e:TypeId}(h:w.heap[g]?=some (.cells #[u0,u] e (0,0))):(w.setCell ⟨g,1,none⟩ v).heap[g]?=some (.cells #[u0,v] e (0,0)):=by
 simp[World.setCell,Array.getElem?_modify,h]
set_option maxHeartbeats 4000000 in
set_option maxRecDepth 1000000 in
theorem Aij(w:World)(B Bt Bm:Nat)(g:Bs→Option Int)(ns:List Bs)(v:Value)(h:GF w B Bt Bm g ns v)(s:Bs)(hs:s.length≤1048576)(hn:ns.length≤16777216):
  Calls prog 187 #[.pointer (some ⟨Bt,0,none⟩),.string ⟨s.toArray⟩] w fun e w'=>∃(i:Int) (g':Bs→Option Int) (ns':List Bs) (v':Value),e=.returned (.int .i64 i)∧GF w' B Bt Bm g' ns' v'∧g' s=some i∧(∀t j,g t=some j→g' t=some j)∧ns'.length≤ns.length+1∧Below B w w'∧Aao w w':=by
 have hlk:=CJ.look h.mp underlying9 (t:=301) underlying301 (An7 w) (by show(Lit.int .i64 0).wf=true;rfl) (k:=s) (by unfold maxLen;omega)
 have c0:w.cell? ⟨Bt,0,none⟩=some (.map (some Bm)):=Am h.tb 0;have c1:w.cell? ⟨Bt,1,none⟩=some v:=Am h.tb 1
 cases hg:g s with
 |some i=>
  rw[hg]at hlk;have hlk2:(Instr.lookup 301 (.map (some Bm)) (.string ⟨s.toArray⟩) true).run prog w=.ok (.tuple #[.int .i64 i,.bool true]) w:=hlk;clear hlk
  go_enter func187,ntmps187
  go_wp2
  go_ret
  exact⟨i,g,ns,v,rfl,h,hg,fun _ _ q=>q,by omega,Below.refl _ _,fun k cur e fz q _ _=>q⟩
 |none=>
  rw[hg]at hlk;have hlk2:(Instr.lookup 301 (.map (some Bm)) (.string ⟨s.toArray⟩) true).run prog w=.ok (.tuple #[.int .i64 0,.bool false]) w:=hlk;clear hlk
  obtain⟨w3,hrun0,hM3,hg3⟩:=CJ.put h.mp underlying9 (t:=301) underlying301 (by unfold maxLen;omega) (k:=s) (by unfold maxLen;omega) (v:=(ns.length:Int)) (by show(Lit.int .i64 (ns.length:Int)).wf=true;simp[Lit.wf,IntKind.min,IntKind.max,IntKind.bits,IntKind.signed];omega)
  have hrun:(Instr.mapUpdate 301 (.map (some Bm)) (.string ⟨s.toArray⟩) (.int .i64 (ns.length:Int))).run prog w=.ok () w3:=hrun0;clear hrun0
  obtain⟨a1,c1',hv⟩:∃a c,v=.slice a ns.length c:=by
   rcases h.nm.2 with⟨rfl,hn0⟩|⟨g',cap,cur,rfl,_⟩
   ·exact⟨none,0,by rw[hn0]⟩
   ·exact⟨_,_,rfl⟩
  subst hv;have hlt:Bt<w.heap.size:=(Array.getElem?_eq_some_iff.1 h.tb).1
  have hBs:B≤w.heap.size:=by have:=h.bt;omega
  obtain⟨es,clock,hbm⟩:=Wx h.mp
  have hne:Bt≠Bm:=fun e=>by have:=h.tb;rw[e,hbm]at this;cases this
  have tb3:=(hg3.block Bt hlt (fun e1=>hne (Qa1 e1))).trans h.tb
  have nm3:AcL w3 B (.slice a1 ns.length c1') ns:=PA h.nm fun k hk=>hg3.block k (World.ownsRow.lt h.nm k hk).2 (fun e1=>ZT h.nm h.mp (hk.trans e1))
  have hB3:Below B w w3:=below_grow (Below.refl B w) hg3 (fun i e1=>by have:=h.bm;have:=Qa1 e1;omega) hBs
  have c3:w3.cell? ⟨Bt,0,none⟩=some (.map (some Bm)):=Am tb3 0;have c4:w3.cell? ⟨Bt,1,none⟩=some (.slice a1 ns.length c1'):=Am tb3 1
  have hK3:Aao w w3:=fun k cur e fz q _ _=>(hg3.block k (Array.getElem?_eq_some_iff.1 q).1 (fun e1=>by rw[Qa1 e1,hbm]at q;cases q)).trans q
  have hlt3:Bt<w3.heap.size:=(Array.getElem?_eq_some_iff.1 tb3).1
  go_enter func187,ntmps187
  go_wp2_with (at_builtin;refine An9 B (p:=s) rfl rfl rfl (World.ownsRow.alloc nm3 _) rfl ?b0 ?b1 ?b2 ?b3)
  case b1=>omega
  case b2=>have:=hB3.size;have h1:=hg3.size;simp;omega
  case b0=>simp
  intro v4 w4 hown4 hg4
  obtain⟨a4,c5,hv4⟩:∃a c,v4=.slice a (ns.length+1) c:=by
   rcases hown4.2 with⟨_,hn0⟩|⟨g',cap,cur,h1,_⟩
   ·simp at hn0
   ·exact⟨_,_,by rw[h1,Qa0];rfl⟩
  subst hv4
  have hb4:∀k,k<w3.heap.size→(Value.slice a1 ns.length c1').ownBlock≠some k→w4.heap[k]?=w3.heap[k]?:=fun k hk hne=>by
   rw[hg4.block k (by simp;omega) (fun e1=>hne e1.symm)]
   exact Below.heap_alloc w3 _ k hk
  have tb4:=(hb4 Bt hlt3 (GW nm3 tb3 (by decide))).trans tb3;have hM4:MJ w4 Bm (ns.length+1) (gput g s (ns.length:Int)):=CJ.of_block hM3 (hb4 Bm (CJ.lt hM3) (ZT nm3 hM3));have hs3:=hg3.size;have hB4:Below B w w4:=below_grow (hB3.alloc (by omega) _) hg4 (fun i e1=>(World.ownsRow.lt nm3 i e1).1) hBs
  have hK4:Aao w w4:=fun k cur e fz q e1 e2=>by
   have q3:=hK3 k cur e fz q e1 e2;exact(hb4 k (Array.getElem?_eq_some_iff.1 q3).1 (GW nm3 q3 (fun e3=>e2 e3.symm))).trans q3
  have f0:w4.cell? ⟨Bt,0,none⟩=some (.map (some Bm)):=Am tb4 0;have f1:w4.cell? ⟨Bt,1,none⟩=some (.slice a1 ns.length c1'):=Am tb4 1
  have ff:w4.frozen? ⟨Bt,1,none⟩=false:=by simp[World.frozen?,tb4]
  have hlt4:Bt<w4.heap.size:=(Array.getElem?_eq_some_iff.1 tb4).1
  have fin:GF (w4.setCell ⟨Bt,1,none⟩ (.slice a4 (ns.length+1) c5)) B Bt Bm (gput g s (ns.length:Int)) (ns++[s]) (.slice a4 (ns.length+1) c5):=by
   refine⟨Aei tb4,?_,PA hown4 fun k hk=>?_,h.inv.put s,h.bt,h.bm⟩
   ·rw[Qa0];exact CJ.of_block hM4 (Below.heap_setCell _ _ _ _ (Ne.symm hne))
   ·exact Below.heap_setCell _ _ _ _ fun e1=>GW hown4 tb4 (by decide) (by rw[hk,e1])
  have finK:Aao w (w4.setCell ⟨Bt,1,none⟩ (.slice a4 (ns.length+1) c5)):=fun k cur e fz q e1 e2=>by
   have q4:=hK4 k cur e fz q e1 e2;rw[Below.heap_setCell _ _ _ _ (show k≠Bt from fun e3=>by rw[e3,tb4]at q4;cases q4;exact e1 rfl)]
   exact q4
  have finB:Below B w (w4.setCell ⟨Bt,1,none⟩ (.slice a4 (ns.length+1) c5)):=hB4.setCell (p:=⟨Bt,1,none⟩) h.bt _
  have hge:gput g s (ns.length:Int) s=some (ns.length:Int):=by unfold gput;rw[if_pos rfl]
  have hext:∀t j,g t=some j→gput g s (ns.length:Int) t=some j:=fun t j q=>by
   unfold gput;rw[if_neg (fun e=>by rw[e,hg]at q;cases q)]
   exact q
  clear hM4 hM3 hb4 hg4 hB4 hK4 hB3 hK3 nm3 tb3 tb4 hg3 h
  go_wp2
  go_ret
  exact⟨_,_,_,_,rfl,fin,hge,hext,by simp,finB,finK⟩
end Go.Proofs.Tryz
