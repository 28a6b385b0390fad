/- shortest.walk as a contract. -/
import Derived.Test.YtopngokkgogolaaGreatDoorKKSX
import Derived.Test.YtopngokkgogolaaGreatDoorKKFM
set_option linter.unusedVariables false
set_option linter.unusedSimpArgs false
namespace Go.Proofs.Tryz
open Go.Shelf Go.RowKit Go.VS Go Go.Sort
theorem YD{C:Ctx}{w:World}{l:List Int}{v:Value}{f:List Nat}(h:RV C w (.sl .brw 1 (l.map ((BT.int .i64).enc .leaf))) v f):∃a c,v=.slice a l.length c∧Mj w a l∧l.length≤c∧(a=none→l=[]∧c=0):=by
 obtain⟨a,c,hv,hat⟩:=Wo h;subst hv;obtain⟨hc,hn⟩:=Afw h;exact⟨a,c,rfl,hat,hc,fun ha=>⟨List.length_eq_zero_iff.1 (hn ha).1,(hn ha).2⟩⟩
theorem Aja:Rc (Pg.of prog):=by
 rintro⟨a,b⟩ hla hlb;dsimp only at hla hlb
 refine Fn.R7 (ps:=GS.ps) (t:=.pair (.int .i64) (.int .i64)) (tt:=.node .own .leaf) rfl rfl (a,b) fun f fn hf hfn=>?_
 have hfi:f=152:=E3 (by kernel_rfl) hf hfn;subst hfi;have hfe:=Option.some.inj (hf.symm.trans func152);subst hfe;refine⟨by kernel_rfl,by kernel_rfl,fun μ sv w vs hsv hw hargs=>?_⟩;have hsv:svs μ dv dl [.one (.sl .brw .leaf (.int .i64) a),.one (.sl .brw .leaf (.int .i64) b)] sv:=hsv
 match sv,hsv with
 |[s0,s1],⟨⟨a0,e0,r0⟩,⟨a1,e1,r1⟩,_⟩=>
  have r0:a0=.sl .brw 1 (a.map ((BT.int .i64).enc .leaf)):=r0;have r1:a1=.sl .brw 1 (b.map ((BT.int .i64).enc .leaf)):=r1;subst e0 r0 e1 r1;obtain⟨hsize,hat⟩:=hargs;obtain⟨C0,f0,_,h0⟩:=hat 0 _ rfl;obtain⟨C1,f1,_,h1⟩:=hat 1 _ rfl;obtain⟨pa,ca,hv0,hva,hca,hna⟩:=YD (show RV C0 w (.sl .brw 1 (a.map ((BT.int .i64).enc .leaf))) (vs.getD 0 undef) f0 from h0)
  obtain⟨pb,cb,hv1,hvb,hcb,hnb⟩:=YD (show RV C1 w (.sl .brw 1 (b.map ((BT.int .i64).enc .leaf))) (vs.getD 1 undef) f1 from h1);have hvs:=Aol hsize hv0 hv1;subst hvs;refine(AeD a b pa pb ca cb w hla hlb hca hcb hna hnb hva hvb).mono ?_;rintro e w' ⟨v,rfl,hown,hB⟩
  exact Afu (t:=.pair (.int .i64) (.int .i64)) (K:=fun d _=>d=GA a b 0 0) rfl (show w'.ownsRow w.heap.size 175 2 v (GA a b 0 0).length ((GA a b 0 0).map (BT.pair (.int .i64) (.int .i64)).fl).flatten from hown) hB rfl
end Go.Proofs.Tryz
