/- walk.Order, as a contract. -/
import Derived.Test.YtopngokkgogolaaGreatDoorKKWO
import Derived.Test.YtopngokkgogolaaGreatDoorKS0
set_option linter.unusedVariables false
set_option linter.unusedSimpArgs false
open List renaming not_mem_nil → Qa0, mem_cons → Qa1
namespace Go.Proofs.Tryz
open Go.Shelf Go.RowKit Go.VS Go Go.Sort
theorem Amo(g:List Ai):(Aa3 g).rdo=true:=by simp only[AV.rdo];exact PB (fun x=>Vc AU _ rfl x) g
abbrev Aii(l:List Int):AV:=.sl .brw 1 (l.map ((BT.int .i64).enc .leaf))
theorem Amp(l:List Int):(Aii l).rdo=true:=by simp only[AV.rdo];exact PB (e:=.int .i64) (fun x=>rfl) l
theorem Aef{P:Pg}{W:World}{ss:List SV}{vs:Array Value}(hl:vs.size=ss.length)(hs:∀s∈ss,s.cells.all AV.solid=true)(h:∀C:Ctx,(∀b,b<W.heap.size→C.zb b∧C.zt b)→∀t s,ss[t]?=some s→RSV C W s (vs.getD t undef) []):Reads P W ss vs:=
 ⟨hl,fun t s ht=>⟨hs s (List.mem_of_getElem? ht),fun C _ hC=>h C hC t s ht⟩⟩
theorem Aok{vs:Array Value}{a b:Value}(h:vs.size=2)(h0:vs.getD 0 undef=a)(h1:vs.getD 1 undef=b):vs=#[a,b]:=by
 subst h0 h1;apply Array.ext
 ·simpa using h
 ·intro i hi1 hi2
  have hi:i=0∨i=1:=by simp at hi2;omega
  rcases hi with rfl|rfl<;>simp[hi1]
theorem Aix(hC:Lw (Pg.of prog))(hI:AcR (Pg.of prog))(hCh:Oi (Pg.of prog)):Mr (Pg.of prog):=by
 rintro⟨g,S⟩ hs hg hSl hg0 hSr;dsimp only at hs hg hSl hg0 hSr;obtain⟨hlim,hrel,hcy,_⟩:=Dd hg;have hv:=HO hrel;have hnd:=Afr hrel;have hpl:=ZL hlim;have hn:g.length≤300:=hlim.1
 refine Fn.Afm (ps:=ES.ps) (t:=.int .i64) (tt:=.node .own .leaf) rfl rfl (g,S) fun f fn hf hfn=>?_
 have hfi:f=22:=E3 (by kernel_rfl) hf hfn;subst hfi;have hfe:=Option.some.inj (hf.symm.trans func22);subst hfe;refine⟨by kernel_rfl,by kernel_rfl,fun μ sv w vs hsv hw hargs=>?_⟩;have hsv:svs μ dv dl [.one (.sl .brw V8 AU g),.one (.sl .brw .leaf (.int .i64) S)] sv:=hsv
 match sv,hsv with
 |[s0,s1],⟨⟨a0,e0,r0⟩,⟨a1,e1,r1⟩,_⟩=>
  have r0:a0=Aa3 g:=r0;have r1:a1=Aii S:=r1;subst e0 r0 e1 r1;obtain⟨hsize,hat⟩:=hargs;obtain⟨C0,f0,_,h0⟩:=hat 0 _ rfl;obtain⟨C1,f1,_,h1⟩:=hat 1 _ rfl;have h0:RV C0 w (Aa3 g) (vs.getD 0 undef) f0:=h0;have h1:RV C1 w (Aii S) (vs.getD 1 undef) f1:=h1;obtain⟨pa,ca,hv0,hD,hPr,hpa⟩:=Aa9 h0;obtain⟨ps,cs,hv1,hS⟩:=Wo h1
  have hvs:=Aok hsize hv0 hv1
  have hpa:∀p,pa=some p→p.block<w.heap.size:=fun p hp=>hpa p hp (by rintro rfl;simp at hg0)
  have hgR:∀W,Below w.heap.size w W→∀C:Ctx,(∀b,b<W.heap.size→C.zb b∧C.zt b)→RV C W (Aa3 g) (.slice pa g.length ca) []:=fun W hB C' hC=>by
   rw[←hv0];exact RV.reads (fun b hb=>hC b (Nat.lt_of_lt_of_le hb hB.size)) (fun b hb=>hB.block b hb) h0 (Amo g)
  have hSR:∀W,Below w.heap.size w W→∀C:Ctx,(∀b,b<W.heap.size→C.zb b∧C.zt b)→RV C W (Aii S) (.slice ps S.length cs) []:=fun W hB C' hC=>by
   rw[←hv1];exact RV.reads (fun b hb=>hC b (Nat.lt_of_lt_of_le hb hB.size)) (fun b hb=>hB.block b hb) h1 (Amp S)
  clear hat h0 h1 hv0 hv1;subst hvs
  have hck:Calls prog 69 #[.slice pa g.length ca] w fun e w'=>e=.returned (.int .i64 0)∧Below w.heap.size w w':=by
   refine(Fn.Adf (fun _ h=>h) (S:=Hc) rfl rfl (hC g hs) func69 (by kernel_rfl) hw (μ:=μ) (show svs μ dv dl [.one (.sl .brw V8 AU g)] [.one (Aa3 g)]from⟨⟨_,rfl,rfl⟩,trivial⟩) (Aef rfl (fun s hs=>?_) fun C hC t s ht=>?_)).mono ?_
   ·simp only[Qa1,Qa0,or_false]at hs
    rcases hs with rfl
    rfl
   ·match t,ht with
    |0,ht=>cases ht;exact hgR w (Below.refl _ _) C hC
   ·rintro e w' ⟨(r:Int),d,hr,rfl,hB⟩;obtain rfl:r=(0:Int):=Wm hr hg;exact⟨rfl,hB⟩
  have hdis:∀W c,Below w.heap.size w W→c∈S→Calls prog 70 #[.slice pa g.length ca,.int .i64 c] W fun e w'=>e=.returned (.bool true)∧Below W.heap.size W w':=fun W c hB hc=>by
   refine(Fn.Adf (fun _ h=>h) (S:=Mm) rfl rfl (hI (g,c)) func70 (by kernel_rfl) (hw.of hB) (μ:=μ) (show svs μ dv dl [.one (.sl .brw V8 AU g),.one (.int .i64 c)] [.one (Aa3 g),.one (.lit (.int .i64 c))]from⟨⟨_,rfl,rfl⟩,⟨_,rfl,rfl⟩,trivial⟩) (Aef rfl (fun s hs=>?_) fun C hC t s ht=>?_)).mono ?_
   ·simp only[Qa1,Qa0,or_false]at hs
    rcases hs with rfl|rfl<;>rfl
   ·match t,ht with
    |0,ht=>cases ht;exact hgR W hB C hC
    |1,ht=>cases ht;exact .lit _ rfl
   ·rintro e w' ⟨r,d,hr,rfl,hB2⟩;have hr:r=true:=hr.2 (hSr c hc);subst hr;exact⟨rfl,hB2⟩
  have hch:∀W,Below w.heap.size w W→Calls prog 71 #[.slice pa g.length ca,.slice ps S.length cs] W fun e w'=>Below W.heap.size W w'∧∃C0,Ph g S C0∧∃b off cap,e=.returned (.slice (some ⟨b,off,none⟩) g.length cap)∧Lg w' b off C0∧W.heap.size≤b∧b<w'.heap.size:=fun W hB=>by
   refine(Fn.AjZ (fun _ h=>h) (ps:=Dz.ps) rfl (hCh (g,S) hn hv hnd hpl hSl hSr) func71 (by kernel_rfl) (hw.of hB) (μ:=μ) (show svs μ dv dl [.one (.sl .brw V8 AU g),.one (.sl .brw .leaf (.int .i64) S)] [.one (Aa3 g),.one (Aii S)]from⟨⟨_,rfl,rfl⟩,⟨_,rfl,rfl⟩,trivial⟩) (Aef rfl (fun s hs=>?_) fun C hC t s ht=>?_)).mono ?_
   ·simp only[Qa1,Qa0,or_false]at hs
    rcases hs with rfl|rfl<;>rfl
   ·match t,ht with
    |0,ht=>cases ht;exact hgR W hB C hC
    |1,ht=>cases ht;exact hSR W hB C hC
   ·rintro e w' ⟨hB2,C0,d,hC0,v,C,f,rfl,hrv,_,hf⟩;have hC0:Ph g S C0:=hC0;refine⟨hB2,C0,hC0,?_⟩
    have hl:C0.length=g.length:=by obtain⟨A,_,hl,_⟩:=hC0;exact hl
    have hrv:RV C w' (AV.sl .own 1 (C0.map ((BT.int .i64).enc .leaf))) v f:=hrv;generalize ha:AV.sl .own 1 (C0.map ((BT.int .i64).enc .leaf))=qv at hrv
    cases hrv with
    |own k' xs' b off cap cs2 e2 f' hb hs2 hc hm hk hr=>
     simp only[AV.sl.injEq]at ha;obtain⟨_,rfl,rfl⟩:=ha;have hbf:=hf b (by simp);refine⟨b,off,cap,by rw[List.length_map,hl],⟨cs2,e2,hb,fun i hi=>?_⟩,hbf.1,hbf.2.1⟩
     have hfe:(C0.map ((BT.int .i64).enc .leaf)).flatten[i]?=some (.lit (.int .i64 (C0.getD i 0))):=by
      have:=LF (enc:=(BT.int .i64).enc .leaf) (k:=1) (fun _=>rfl) C0 (j:=i) (x:=C0.getD i 0) (c:=0) (by rw[getD_eq hi];exact List.getElem?_eq_getElem hi) (by omega)
      rw[Nat.mul_one,Nat.add_zero]at this;exact this
     obtain⟨m1,u,m2,g1,ga,g2,hm2,hl2,_,_,hu,_⟩:=hr.nth hfe;have:=RV.Dj hu;subst this
     have hwn:((cs2.toList.drop off).take ((C0.map ((BT.int .i64).enc .leaf)).length*1))[i]?=some (.int .i64 (C0.getD i 0)):=by rw[hm2,←hl2];simp
     have:=(FW cs2 off _ i _ hwn).1;exact this
    |shr τ k' xs' b' off' cap cs2 e2 fz ht hz hi hb hs2 hc hk hr=>simp only[AV.sl.injEq]at ha;exact absurd ha.1.symm ht
    |slNil τ k'=>
     simp only[AV.sl.injEq,List.map_eq_nil_iff]at ha;rw[ha.2.2]at hl;simp at hl;omega
    |shrE τ k' a cap ht=>simp only[AV.sl.injEq]at ha;exact absurd ha.1.symm ht
    |_=>cases ha
  refine(AbN g S pa ps ca cs w hv hSr hcy hn hnd hpl hpa hD hPr hS hSl hck hdis hch).mono ?_;rintro e w' ⟨v,l,hok,hown,rfl,hB⟩
  have hrow:w'.ownsRow w.heap.size 3 (BT.int .i64).size v l.length (l.map (BT.int .i64).fl).flatten:=by
   have:∀m:List Int,m.map (Value.int .i64)=(m.map (BT.int .i64).fl).flatten:=fun m=>by
    induction m with
    |nil=>rfl
    |cons x m ih=>rw[List.map_cons,List.map_cons,List.flatten_cons,ih];rfl
   rw[←this];exact hown
  obtain⟨_,f,hnd2,hfb,hrv⟩:=PD (t:=.int .i64) rfl hrow;refine⟨hB,l,0,(),⟨rfl,hok⟩,v,f,fun _=>False,rfl,?_,hnd2,fun x hx=>⟨(hfb x hx).1,(hfb x hx).2,id⟩,fun _ h=>h.elim⟩;have:=RVs.cons _ _ _ _ _ _ (hrv (hctx prog fun _=>False)) .nil;rw[List.append_nil]at this;exact this
end Go.Proofs.Tryz
