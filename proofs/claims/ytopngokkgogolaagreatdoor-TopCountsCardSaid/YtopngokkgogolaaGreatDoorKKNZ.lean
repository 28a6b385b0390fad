/- intern.number as a contract. -/
import Derived.Test.YtopngokkgogolaaGreatDoorKKNY
import Derived.Test.YtopngokkgogolaaGreatDoorKKFM
import Derived.Test.YtopngokkgogolaaGreatDoorFwD
set_option linter.unusedVariables false
set_option linter.unusedSimpArgs false
open List renaming length_map → Qa0, getElem?_of_mem → Qa1
namespace Go.Proofs.Tryz
open Go.Shelf Go.RowKit Go.VS Go Go.Sort Go.Maps
theorem Agt{w':World}{B Bo Bt Bm:Nat}{vs:List Value}{rows:List (List Int)}{g:Bs→Option Int}{ns:List Bs}{v:Value}(hO:Fv w' B Bo vs rows)(hT:GF w' B Bt Bm g ns v)(hn:vs.length≤4096)(C:Ctx):
  RVs C w' ((BT.sl (.sl (.int .i64))).enc (.node .own (.node .own .leaf)) rows) [.slice (some ⟨Bo,0,none⟩) vs.length vs.length] (Bo::(vs.map fun v=>v.ownBlock.toList).flatten):=by
 have hr:=Acb (C:=C) (w:=w') (t:=.int .i64) rows vs hO.len fun j hj=>Xa (t:=.int .i64) rfl (e:=3) (base:=B) (by
  have:=hO.row j hj;unfold Ew at this
  have e1:∀l:List Int,(l.map (BT.int .i64).fl).flatten=l.map (Value.int .i64):=fun l=>by
   induction l with
   |nil=>rfl
   |cons x l ih=>rw[List.map_cons,List.flatten_cons,ih];rfl
  rw[e1]
  exact this) C
 have hf:(rows.map fun r=>[AV.sl .own 1 (r.map ((BT.int .i64).enc .leaf))]).flatten=rows.map fun r=>AV.sl .own (BT.int .i64).size (r.map ((BT.int .i64).enc .leaf)):=Rw rows
 have:=RV.own (C:=C) (w:=w') 1 (rows.map fun r=>[AV.sl .own 1 (r.map ((BT.int .i64).enc .leaf))]) Bo 0 vs.length vs.toArray 22 _ hO.blk (by simp) (by rw[Qa0,hO.len];exact Nat.le_refl _) (by unfold maxLen;omega) (fun x hx=>by obtain⟨r,_,rfl⟩:=List.mem_map.1 hx;rfl) (by
  rw[hf,List.drop_zero,Qa0,hO.len,Nat.mul_one,List.take_of_length_le (by simp)]
  exact hr)
 rw[Qa0,hO.len]at this;have h2:=RVs.cons _ _ _ _ _ _ this .nil;rw[List.append_nil]at h2;exact h2
theorem Ama{x:List (List Bs)}{g:Bs→Option Int}{rows:List (List Int)}{ns:List Bs}(h:NuI x g rows x.length 0)(ht:Ac1 g ns)(hn:ns.length≤WN x x.length):∃f,AlU x f∧(rows=x.map fun l=>l.map f)∧ns.length≤x.flatten.length∧∀s∈x.flatten,0≤f s∧ns[(f s).toNat]?=some s:=by
 refine⟨fun s=>(g s).getD 0,fun u hu v hv e=>?_,?_,by rw[←WN.all];exact hn,fun s hs=>?_⟩
 ·obtain⟨l1,hl1,hu⟩:=List.mem_flatten.1 hu;obtain⟨l2,hl2,hv⟩:=List.mem_flatten.1 hv;obtain⟨j1,q1⟩:=Qa1 hl1;obtain⟨j2,q2⟩:=Qa1 hl2;obtain⟨n1,e1⟩:=((h.2 j1 l1 q1).1 (List.getElem?_eq_some_iff.1 q1).1).1 u hu;obtain⟨n2,e2⟩:=((h.2 j2 l2 q2).1 (List.getElem?_eq_some_iff.1 q2).1).1 v hv;have e:(g u).getD 0=(g v).getD 0:=e
  rw[e1,e2]at e;have e:n1=n2:=e;subst e;exact ht.inj e1 e2
 ·apply List.ext_getElem
  ·rw[Qa0];exact h.1
  ·intro j h1 h2
   have hj:j<x.length:=by rw[Qa0]at h2;exact h2
   have:=((h.2 j x[j] (List.getElem?_eq_getElem hj)).1 hj).2;rw[getD_eq h1]at this;rw[this,List.getElem_map]
 ·obtain⟨l,hl,hs⟩:=List.mem_flatten.1 hs;obtain⟨j,q⟩:=Qa1 hl;obtain⟨n,e⟩:=((h.2 j l q).1 (List.getElem?_eq_some_iff.1 q).1).1 s hs;have:=ht s n e;dsimp only;rw[e];exact⟨this.1.1,this.2⟩
theorem WH:Lx (Pg.of prog):=by
 intro x h1 h2
 refine Fn.Akn (ps:=E6.ps) (t:=.sl (.int .i64)) (tt:=.node .own (.node .own .leaf)) (t2:=.str) (tt2:=.node .own .leaf) rfl rfl rfl x fun f fn hf hfn=>?_
 have hfi:f=120:=E3 (by kernel_rfl) hf hfn;subst hfi;have hfe:=Option.some.inj (hf.symm.trans func120);subst hfe;refine⟨by kernel_rfl,by kernel_rfl,fun μ sv w vs hsv hw hargs=>?_⟩;have hsv:svs μ dv dl [.one (.sl .brw (.node .brw .leaf) (.sl .str) x)] sv:=hsv
 match sv,hsv with
 |[s0],⟨⟨a0,e0,r0⟩,_⟩=>
  have r0:a0=.sl .brw 1 (x.map fun l=>[AV.sl .brw 1 (l.map fun s=>[AV.lit (.string ⟨s.toArray⟩)])]):=r0;subst e0 r0;obtain⟨hsize,hat⟩:=hargs;obtain⟨C0,f0,_,h0⟩:=hat 0 _ rfl;obtain⟨pa,ca,hv0,hva⟩:=AeC (show RV C0 w (.sl .brw 1 (x.map fun l=>[AV.sl .brw 1 (l.map fun s=>[AV.lit (.string ⟨s.toArray⟩)])])) (vs.getD 0 undef) f0 from h0)
  have hvs:vs=#[.slice pa x.length ca]:=by
   apply Array.ext
   ·simpa using hsize
   ·intro i hi1 hi2
    have hi:i=0:=by simp at hi2;omega
    subst hi
    have:vs.getD 0 undef=vs[0]:=by simp[hi1]
    rw[←this,hv0];rfl
  subst hvs;refine(ZQ x pa ca w h1 h2 hva).mono ?_;rintro e w' ⟨Bo,Bt,Bm,g,ns,v,us,rows,rfl,hvl,hO,hT,hN,hns,hB⟩
  have hbl:∀b∈(us.map fun v=>v.ownBlock.toList).flatten,(w.heap.size≤b∧b<w'.heap.size)∧∃cur,w'.heap[b]?=some (.cells cur 3 (0,0)):=fun b hb=>by
   obtain⟨l,hl,hbl⟩:=List.mem_flatten.1 hb;obtain⟨u,hu,rfl⟩:=List.mem_map.1 hl;obtain⟨j,hj,rfl⟩:=List.getElem_of_mem hu;have hr:=hO.row j hj;rw[getD_eq (l:=us) hj]at hr
   have hob:us[j].ownBlock=some b:=by simpa using hbl
   exact⟨World.ownsRow.lt hr b hob,AbO hr hob⟩
  have hbn:∀b∈v.ownBlock.toList,w.heap.size≤b∧b<w'.heap.size:=fun b hb=>World.ownsRow.lt hT.nm b (by simpa using hb)
  have hbo:Bo<w'.heap.size:=(Array.getElem?_eq_some_iff.1 hO.blk).1;refine⟨hB,rows,ns,(),Ama hN hT.inv hns,_,v,Bo::(us.map fun v=>v.ownBlock.toList).flatten,v.ownBlock.toList,fun _=>False,rfl,?_,?_,?_,?_,fun _ h=>h.elim⟩
  ·rw[←hvl];exact Agt hO hT (by omega) _
  ·have:=RVs.cons _ _ _ _ _ _ (Xa (t:=.str) rfl (e:=9) (base:=w.heap.size) (v:=v) (l:=ns) (by
    have e1:∀l:List Bs,(l.map BT.str.fl).flatten=l.map fun s=>Value.string ⟨s.toArray⟩:=fun l=>by
     induction l with
     |nil=>rfl
     |cons x l ih=>rw[List.map_cons,List.flatten_cons,ih];rfl
    rw[e1]
    exact hT.nm) (hctx prog fun _=>False)) .nil
   rw[List.append_nil]at this;exact this
  ·rw[List.nodup_append,List.nodup_cons];refine⟨⟨fun hb=>?_,AiA hO.dis⟩,by cases v.ownBlock<;>simp,fun a ha b hb e=>?_⟩
   ·obtain⟨_,cur,hc⟩:=hbl Bo hb;rw[hO.blk]at hc;cases hc
   ·subst e
    have hob:v.ownBlock=some a:=by simpa using hb
    rcases List.mem_cons.1 ha with rfl|ha
    ·exact GW hT.nm hO.blk (by decide) hob
    ·obtain⟨_,cur,hc⟩:=hbl a ha;exact GW hT.nm hc (by decide) hob
  ·intro b hb
   rcases List.mem_append.1 hb with hb|hb
   ·rcases List.mem_cons.1 hb with rfl|hb
    ·exact⟨hO.bo,hbo,id⟩
    ·exact⟨(hbl b hb).1.1,(hbl b hb).1.2,id⟩
   ·exact⟨(hbn b hb).1,(hbn b hb).2,id⟩
theorem Ane:AcU (Pg.of prog):=fun x h1 h2=>(WH x h1 h2).mono fun _ _ ⟨f,h3,h4,_⟩=>⟨f,h3,h4⟩
end Go.Proofs.Tryz
