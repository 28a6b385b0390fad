/- similar.Renames, walked: what it answers. -/
import Derived.Test.YtfkfmokccekccaaGreatDoorKKRU
set_option linter.unusedVariables false
set_option linter.unusedSimpArgs false
namespace Go.Proofs.Tryz
open Go.Shelf Go.RowKit Go.VS Go Go.Maps Go.Sort Go.Lib
theorem AsO{vs:Array Value}{a b c:Value}(h:vs.size=3)(h0:vs.getD 0 undef=a)(h1:vs.getD 1 undef=b)(h2:vs.getD 2 undef=c):vs=#[a,b,c]:=by
 apply Array.ext
 ·simpa using h
 ·intro i hi1 hi2
  have hi:i=0∨i=1∨i=2:=by simp at hi2;omega
  rcases hi with rfl|rfl|rfl
  ·have:vs.getD 0 undef=vs[0]:=by simp[hi1]
   rw[←this,h0];rfl
  ·have:vs.getD 1 undef=vs[1]:=by simp[hi1]
   rw[←this,h1];rfl
  ·have:vs.getD 2 undef=vs[2]:=by simp[hi1]
   rw[←this,h2];rfl
theorem AsC(hBo:Ud (Pg.of prog))(hP:Apt (Pg.of prog)):Aq6 (Pg.of prog):=by
 rintro⟨a,b,least⟩ ha hb la lb hz
 dsimp only at ha hb la lb hz
 refine Fn.AkI (ps:=[.val false (.sl (.pair .str .str)) (.node .brw .leaf),.val false (.sl (.pair .str .str)) (.node .brw .leaf),.val false (.int .i64) .leaf]) (t:=AnU) (tt:=.node .own .leaf) rfl rfl (a,b,least) fun f fn hf hfn=>?_
 have hfi:f=7:=FK (by kernel_rfl) hf hfn
 subst hfi
 have hfe:=Option.some.inj (hf.symm.trans func7)
 subst hfe
 refine⟨by kernel_rfl,by kernel_rfl,fun μ sv w vs hsv hw hargs=>?_⟩
 have hsv:svs μ dv dl [.one (.sl .brw .leaf (.pair .str .str) a),.one (.sl .brw .leaf (.pair .str .str) b),.one (.int .i64 least)] sv:=hsv
 match sv,hsv with
 |[s0,s1,s2],⟨⟨a0,e0,r0⟩,⟨a1,e1,r1⟩,⟨a2,e2,r2⟩,_⟩=>
  have r0:a0=.sl .brw 2 (a.map ((BT.pair .str .str).enc .leaf)):=r0
  have r1:a1=.sl .brw 2 (b.map ((BT.pair .str .str).enc .leaf)):=r1
  have r2:a2=.lit (.int .i64 least):=r2
  subst e0 r0 e1 r1 e2 r2
  obtain⟨hsize,hat⟩:=hargs
  obtain⟨C0,f0,_,h0⟩:=hat 0 _ rfl
  obtain⟨C1,f1,_,h1⟩:=hat 1 _ rfl
  obtain⟨C2,f2,_,h2⟩:=hat 2 _ rfl
  obtain⟨pa,ca,hv0,hst0⟩:=Vd (show RV C0 w (.sl .brw 2 (a.map ((BT.pair .str .str).enc .leaf))) (vs.getD 0 undef) f0 from h0)
  obtain⟨pb,cb,hv1,hst1⟩:=Vd (show RV C1 w (.sl .brw 2 (b.map ((BT.pair .str .str).enc .leaf))) (vs.getD 1 undef) f1 from h1)
  have hv2:vs.getD 2 undef=.int .i64 least:=RV.DI (show RV C2 w (.lit (.int .i64 least)) (vs.getD 2 undef) f2 from h2)
  have hvs:=AsO hsize hv0 hv1 hv2
  subst hvs
  have hrdW:∀W:World,Below w.heap.size w W→Reads (Pg.of prog) W [.one (.sl .brw 2 (a.map ((BT.pair .str .str).enc .leaf))),.one (.sl .brw 2 (b.map ((BT.pair .str .str).enc .leaf)))] #[.slice pa a.length ca,.slice pb b.length cb]:=fun W hB=>by
   refine AiT ⟨rfl,fun t s hs=>?_⟩ (fun s hs=>by
    simp only[List.mem_cons,List.not_mem_nil,or_false]at hs
    rcases hs with rfl|rfl
    ·exact .inr ⟨2,_,rfl,Amf a⟩
    ·exact .inr ⟨2,_,rfl,Amf b⟩) (fun b hb=>hB.block b hb) hB.size
   match t,hs with
   |0,hs=>cases hs;exact⟨C0,f0,by assumption,h0⟩
   |1,hs=>cases hs;exact⟨C1,f1,by assumption,h1⟩
   |t+2,hs=>cases hs
  have hbo:Calls prog 70 #[.slice pa a.length ca,.slice pb b.length cb] w fun e w'=>e=.returned (.int .i64 0)∧Below w.heap.size w w':=by
   refine(Fn.Al0 (fun _ h=>h) (S:=JV) rfl rfl (hBo (a,b) ha hb) func70 (by kernel_rfl) hw (μ:=μ) (show svs μ dv dl [.one (.sl .brw .leaf (.pair .str .str) a),.one (.sl .brw .leaf (.pair .str .str) b)] [.one (.sl .brw 2 (a.map ((BT.pair .str .str).enc .leaf))),.one (.sl .brw 2 (b.map ((BT.pair .str .str).enc .leaf)))]from⟨⟨_,rfl,rfl⟩,⟨_,rfl,rfl⟩,trivial⟩) (hrdW w (Below.refl _ _))).mono ?_
   rintro e w' ⟨r,d,hr,rfl,hB⟩
   have hr:r=MH a b:=hr
   subst hr
   rw[hz]
   exact⟨rfl,hB⟩
  by_cases hl:1≤least∧least≤100
  ·have hprs:ArU a b least pa pb ca cb w:=fun W vd D hB hown hD=>by
    have hrd:=hrdW W hB
    refine(Fn.Asi (fun _ h=>h) (ps:=Aoz.ps) rfl (hP (a,(b,(D,least))) ha hb hD) func35 (by kernel_rfl) (hw.of hB) (μ:=μ) (show svs μ dv dl [.one (.sl .brw .leaf (.pair .str .str) a),.one (.sl .brw .leaf (.pair .str .str) b),.one (.sl .brw .leaf (.pair .str (.int .i64)) D),.one (.int .i64 least)] [.one (.sl .brw 2 (a.map ((BT.pair .str .str).enc .leaf))),.one (.sl .brw 2 (b.map ((BT.pair .str .str).enc .leaf))),.one (.sl .brw 2 (D.map ((BT.pair .str (.int .i64)).enc .leaf))),.one (.lit (.int .i64 least))]from⟨⟨_,rfl,rfl⟩,⟨_,rfl,rfl⟩,⟨_,rfl,rfl⟩,⟨_,rfl,rfl⟩,trivial⟩) ⟨rfl,fun t s hs=>?_⟩).mono ?_
    ·match t,hs with
     |0,hs=>exact hrd.2 0 s hs
     |1,hs=>exact hrd.2 1 s hs
     |2,hs=>
      cases hs
      obtain⟨hrv,_⟩:=Yx (t:=.pair .str (.int .i64)) rfl (show W.ownsRow w.heap.size 73 2 vd D.length (D.map (BT.pair .str (.int .i64)).fl).flatten from hown)
      exact⟨rfl,fun C _ hC=>hrv C fun b _ h2=>(hC b h2).1⟩
     |3,hs=>cases hs;exact⟨rfl,fun C _ _=>.lit _ rfl⟩
     |t+4,hs=>cases hs
    ·rintro e w' ⟨hB2,l,d,hl2,v,C,g,rfl,hrv,_,hgb⟩
     have hl2:l=Aoi a b least D D:=hl2
     subst hl2
     refine⟨v,rfl,hB2,?_⟩
     rcases Asn (t:=AnU) rfl hrv with h|⟨b1,off,cap,cs,e1,h1,h2,h3,h4,h5⟩
     ·exact .inl h
     ·exact .inr ⟨b1,off,cap,h1,(hgb b1 h2).1,cs,e1,h3,h4,h5⟩
   have hord:Dq a=0∧Dq b=0:=by
    unfold MH at hz
    split at hz
    ·rename_i h;exact absurd hz h
    ·rename_i h;exact⟨by omega,hz⟩
   refine(ArJ a b least ha hb la lb pa pb ca cb w hst0 hst1 hl.1 hl.2 (fun d hp hs=>Abd (TG hord.1) (TG hord.2) hp hs) hbo hprs).mono ?_
   rintro e w' ⟨D,hD,v,d,rfl,hB,hown,S,hS,hsrt,hp,hs⟩
   obtain⟨_,g,hnd,hgb,hrv⟩:=Yx (t:=AnU) rfl (show w'.ownsRow w.heap.size 68 3 v d.length (d.map AnU.fl).flatten from hown)
   refine⟨hB,d,0,(),⟨fun h=>absurd hl h,fun _=>⟨rfl,D,S,hD,hS,?_,Arc hp hs⟩⟩,v,g,fun _=>False,rfl,?_,hnd,fun x hx=>⟨(hgb x hx).1,(hgb x hx).2,id⟩,fun _ h=>h.elim⟩
   ·exact ArM hS (Ars hD.1) (hsrt.imp fun{x y} h=>by rw[←ltR];exact h)
   ·have:=RVs.cons _ _ _ _ _ _ (hrv (hctx prog fun _=>False)) .nil
    rw[List.append_nil]at this
    exact this
  ·refine(ArK a b least ha hb pa pb ca cb w hst0 hst1 hl hbo).mono ?_
   rintro e w' ⟨rfl,hB⟩
   exact⟨hB,[],3,(),⟨fun _=>rfl,fun h=>absurd h hl⟩,_,[],fun _=>False,rfl,.cons _ _ [] _ _ [] (.slNil _ _) .nil,List.nodup_nil,fun x hx=>(nomatch hx),fun _ h=>h.elim⟩
end Go.Proofs.Tryz
