/- script.fromPairs, walked; as a contract. -/
import Derived.Test.YtopngokkgogolaaGreatDoorKKPR
set_option linter.unusedVariables false
set_option linter.unusedSimpArgs false
open List renaming getElem?_eq_getElem → Qa0, length_append → Qa2, append_nil → Qa3
open Nat renaming le_refl → Qa1
namespace Go.VS
def Up:List (Int×Int)→Int→Int→List Qc
 |[],_,_=>[]
 |s::r,old,now=>Aa4 old now s++Up r (s.1+1) (s.2+1)
theorem YF(m n:Int):∀(p:List (Int×Int)) (old now:Int),OM m n p old now=Up (p++[(m,n)]) old now
 |[],old,now=>by
  rw[OM,List.nil_append,Up,Up,Qa3]
 |s::r,old,now=>by
  rw[OM,List.cons_append,Up,YF m n r]
theorem Ahv:∀{p:List (Int×Int)} {lo:Int×Int} {m n:Int},AjR lo m n p→0≤lo.1→0≤lo.2→∀s∈p,(0≤s.1∧s.1<m)∧(0≤s.2∧s.2<n)
 |[],_,_,_,_,_,_,s,hs=>nomatch hs
 |t::r,lo,m,n,h,h1,h2,s,hs=>by
  obtain⟨⟨a1,a2,a3,a4⟩,a5⟩:=h
  rcases List.mem_cons.1 hs with rfl|hs
  ·omega
  ·exact Ahv a5 (by dsimp only;omega) (by dsimp only;omega) s hs
end Go.VS
namespace Go.Proofs.Tryz
open Go.Shelf Go.RowKit Go.VS Go Go.Sort
set_option maxHeartbeats 1000000 in
theorem Adj(pa:Option Addr)(n c:Nat)(hc:n≤c)(hn:pa=none→n=0∧c=0)(W:World):Calls prog 280 #[.slice pa n c] W fun e w'=>e=.returned (.slice pa n n)∧w'=W:=by
 cases pa with
 |none=>
  obtain⟨rfl,rfl⟩:=hn rfl
  go_enter func280,ntmps280
  go_wp2
  go_ret
  exact⟨rfl,rfl⟩
 |some p=>
  go_enter func280,ntmps280
  go_wp2
  go_ret
  exact⟨rfl,rfl⟩
def FpI(L:List (Int×Int))(M:List Qc)(k:Nat)(o:List Qc)(old now:Int):Prop:=o++Up (L.drop k) old now=M∧o.length≤k∧(0≤old∧old≤4097)∧(0≤now∧now≤4097)
theorem FpI.next{L:List (Int×Int)}{M:List Qc}{k:Nat}{o:List Qc}{old now:Int}(h:FpI L M k o old now){s:Int×Int}(hs:L[k]?=some s)(h1:0≤s.1∧s.1≤4096)(h2:0≤s.2∧s.2≤4096):FpI L M (k+1) (o++Aa4 old now s) (s.1+1) (s.2+1):=by
 obtain⟨a1,a2,a3,a4⟩:=h;obtain⟨hk,he⟩:=List.getElem?_eq_some_iff.1 hs;rw[List.drop_eq_getElem_cons hk,he,Up]at a1;refine⟨by rw[List.append_assoc];exact a1,?_,by omega,by omega⟩
 rw[Qa2]
 have:(Aa4 old now s).length≤1:=by unfold Aa4;split<;>simp
 omega
theorem Agv{w:World}{B B':Nat}{v:Value}{l:List Qc}(h:Y8 w B v l)(hb:B'≤B):Y8 w B' v l:=by
 refine⟨h.1,?_⟩
 rcases h.2 with h|⟨g,cap,cur,h1,h2,h3,h4⟩
 ·exact .inl h
 ·exact .inr ⟨g,cap,cur,h1,Nat.le_trans hb h2,h3,h4⟩
theorem cell_kept{w w':World}{B:Nat}{e:TypeId}{size:Nat}{v:Value}{n:Nat}{xs:List Value}{a b:Obj}(hC:w.ownsRow B e size v n xs)(hg:((w.alloc a).alloc b).grownBy w' v.ownBlock)(j:Nat):w'.cell? ⟨w.heap.size,j,none⟩=((w.alloc a).alloc b).cell? ⟨w.heap.size,j,none⟩:=by
 unfold World.cell?;rw[hg.block w.heap.size (by simp;omega) (fun e1=>by have:=(World.ownsRow.lt hC _ e1.symm).2;omega)]
set_option maxHeartbeats 4000000 in
set_option maxRecDepth 1000000 in
theorem AaY(p:List (Int×Int))(m n:Int)(pa:Option Addr)(ca:Nat)(w:World)(hp:p.length≤4096)(hm:0≤m∧m≤4096)(hn:0≤n∧n≤4096)(hasc:AjR (0,0) m n p)(hv:AfL w pa p)(hc:p.length≤ca)(hno:pa=none→p=[]∧ca=0):
  Calls prog 226 #[.slice pa p.length ca,.int .i64 m,.int .i64 n] w fun e w'=>∃v,e=.returned v∧Y8 w' w.heap.size v (OM m n p 0 0)∧Below w.heap.size w w':=by
 obtain⟨i0,hi,hz0,hz1,hz2⟩:=info_parts (P:=prog) (e:=175) (z:=.agg #[.int .i64 0,.int .i64 0]) (size:=2) (bytes:=16) (by kernel_rfl)
 have hL:∀s∈p++[(m,n)],(0≤s.1∧s.1≤4096)∧(0≤s.2∧s.2≤4096):=fun s hs=>by
  rcases List.mem_append.1 hs with hs|hs
  ·have:=Ahv hasc (Int.le_refl _) (Int.le_refl _) s hs;omega
  ·rw[List.mem_singleton.1 hs];exact⟨hm,hn⟩
 have hM0:FpI (p++[(m,n)]) (OM m n p 0 0) 0 [] 0 0:=⟨by rw[YF];rfl,Qa1 _,by omega,by omega⟩
 generalize OM m n p 0 0=M at*;have hclip:=Adj pa p.length ca hc (fun h=>by obtain⟨h1,h2⟩:=hno h;rw[h1];exact⟨rfl,h2⟩) w
 have hcells:∀b:Addr,pa=some b→∀j u,((p.map VP).flatten)[j]?=some u→(w.alloc (.cells #[.int .i64 m,.int .i64 n] 175)).cell? (b.add j)=some u:=fun b hb j u hu=>by
  have hj:j<p.length*2:=by
   have:=(List.getElem?_eq_some_iff.1 hu).1
   rwa [HE (enc:=VP) (k:=2) (fun _=>rfl)]at this
  have hk:j/2<p.length:=by omega
  obtain⟨bb,off,h1,h2,h3,h4⟩:=hv.at_ (j/2) p[j/2] (Qa0 hk);rw[hb]at h1;cases h1;have hB:=(Below.refl w.heap.size w).alloc (Qa1 _) (.cells #[.int .i64 m,.int .i64 n] 175);have hf:=LF (enc:=VP) (k:=2) (fun _=>rfl) p (Qa0 hk) (c:=j%2) (Nat.mod_lt _ (by decide));rw[show j/2*2+j%2=j by omega,hu]at hf
  rw[Addr.add_lit];refine(hB.cell (p:=⟨bb,off+j,none⟩) h2).trans ?_
  rcases(by omega:j%2=0∨j%2=1)with e|e
  ·rw[e]at hf;have hf:some u=some (Value.int .i64 (p[j/2]).1):=hf;rw[hf,←h3]
   congr 2
   omega
  ·rw[e]at hf;have hf:some u=some (Value.int .i64 (p[j/2]).2):=hf;rw[hf,←h4]
   congr 2
   omega
 have hnn:pa=none→p.length=0∧p.length=0:=fun h=>by obtain⟨h1,_⟩:=hno h;rw[h1];exact⟨rfl,rfl⟩
 have hfl:((p.map VP).flatten).length=p.length*2:=HE (enc:=VP) (k:=2) (fun _=>rfl) p;clear hv hno
 go_enter func226,ntmps226
 go_wp2_with (first|(go_at_call 280;refine hclip.mono ?_;rintro e w' ⟨rfl,hw⟩;have hw:=hw.symm;subst hw)|(at_builtin;refine wpList_append_grows _ rfl (.tmp 13) (.tmp 17) 95 rfl 175 i0 (.agg #[.int .i64 0,.int .i64 0]) 2 16 underlying95 hi hz0 hz1 hz2 rfl (by decide) pa p.length p.length ((p.map VP).flatten) rfl hnn hfl hcells ⟨w.heap.size,0,none⟩ 1 1 [.int .i64 m,.int .i64 n] rfl rfl ?c1 ?c2 (by omega) (by unfold maxLen;omega) (by omega) ?grow))
 case c1=>
  intro j u hj
  match j,hj with
  |0,hj=>
   have:Value.int .i64 m=u:=by simpa using hj
   subst this;show(w.alloc _).cell? ⟨w.heap.size,0,none⟩=_;simp
  |1,hj=>
   have:Value.int .i64 n=u:=by simpa using hj
   subst this;show(w.alloc _).cell? ⟨w.heap.size,1,none⟩=_;simp
  |j+2,hj=>simp at hj
 case c2=>
  intro u hu;simp only[List.mem_cons,List.not_mem_nil,or_false]at hu
  rcases hu with rfl|rfl<;>rfl
 case grow=>
  intro v1 w1 hown hg1;have hB1:Below w.heap.size w w1:=below_grow ((Below.refl _ w).alloc (Qa1 _) _) hg1 (fun i h=>nomatch h) (Qa1 _)
  have hP:M6 w1 (w.heap.size+1) v1 (p++[(m,n)]):=by
   unfold M6;rw[Qa2,←Yn];exact hown
  obtain⟨a1,c1,hv1,hva⟩:=Acl hP
  have hLl:(p++[(m,n)]).length≤4097:=by rw[Qa2];exact Nat.succ_le_succ hp
  subst hv1;clear hown hg1 hP hasc hclip hcells hnn hfl hi hz0 hz1 hz2 hc hp;generalize p++[(m,n)]=L at*
  go_wp2
  have hC0:Y8 w1 w1.heap.size (.slice none 0 0) []:=World.ownsRow_nil _ _ _ _
  go_loopw [7,8,9,20] (fun v7 v8 v9 i wr=>∃k:Nat,k≤L.length∧i=.int .i64 k∧∃o old now,v8=.int .i64 old∧v9=.int .i64 now∧FpI L M k o old now∧Y8 wr w1.heap.size v7 o∧Below w1.heap.size w1 wr) (fun _ _ _ i _=>L.length -(Lib.intOf i).toNat)
  case atStart=>exact⟨0,Nat.zero_le _,rfl,[],0,0,rfl,rfl,hM0,hC0,Below.refl _ _⟩
  case round=>
   clear hM0 hC0;obtain⟨k,hk,hi,o,old,now,rfl,rfl,hI,hC,hB⟩:=hrel;subst hi
   by_cases hks:k<L.length
   ·obtain⟨bl,off,rfl,hbl,q0,q1⟩:=hva.at_ k L[k] (Qa0 hks);have c0:=(hB.cell (p:=⟨bl,off+k*2,none⟩) hbl).trans q0;have c1:=(hB.cell (p:=⟨bl,off+k*2+1,none⟩) hbl).trans q1;obtain⟨hs1,hs2⟩:=hL _ (List.getElem_mem hks);have hnx:=hI.next (Qa0 hks) hs1 hs2;obtain⟨_,hol,hold,hnow⟩:=hI
    generalize L[k]=s at c0 c1 hs1 hs2 hnx;obtain⟨x,y⟩:=s;dsimp only at c0 c1 hs1 hs2 hnx;have hB2:=hB.alloc hB.size (.cells #[.int .i64 x,.int .i64 y] 175);have hC2:Y8 _ _ _ _:=hC.alloc (.cells #[.int .i64 x,.int .i64 y] 175);have hsz:=hB.size;clear q0 q1 hva hL
    by_cases hg:old<x∨now<y
    ·rw[show Aa4 old now (x,y)=[(old,(x -old,(now,y -now)))]from if_pos hg]at hnx
     by_cases ho:old<x
     ·go_wp2_with (at_builtin;refine Anj w1.heap.size (c:=(old,(x -old,(now,y -now)))) rfl rfl rfl (World.ownsRow.alloc hC2 _) rfl ?b0 ?b1 ?b2 ?b3 ?b4 ?b5 ?b6)
      case b4=>omega
      case b5=>simp;omega
      intro v2 w4 hown4 hg4;have hB4:=below_grow (hB2.alloc (by simp;omega) _) hg4 (fun i h=>(World.ownsRow.lt hC2 i h).1) (Qa1 _)
      have d0:=cell_kept hC hg4 0;have d1:=cell_kept hC hg4 1;have f0:w4.cell? ⟨wr.heap.size,0,none⟩=some (.int .i64 x):=d0.trans (by simp);have f1:w4.cell? ⟨wr.heap.size,1,none⟩=some (.int .i64 y):=d1.trans (by simp);clear d0 d1 hg4 hC2 hC c0 c1 hB2
      go_wp2_with fail
      go_region
      go_wp2
      go_roundw
      case rel=>exact⟨k+1,by omega,by simp,_,x+1,y+1,rfl,rfl,hnx,hown4,hB4.drew⟩
      case measure=>simp only[Lib.intOf];omega
     ·have ho2:now<y:=hg.resolve_left ho
      go_wp2_with (at_builtin;refine Anj w1.heap.size (c:=(old,(x -old,(now,y -now)))) rfl rfl rfl (World.ownsRow.alloc hC2 _) rfl ?d0 ?d1 ?d2 ?d3 ?d4 ?d5 ?d6)
      case d4=>omega
      case d5=>omega
      intro v2 w4 hown4 hg4;have hB4:=below_grow (hB2.alloc (by simp;omega) _) hg4 (fun i h=>(World.ownsRow.lt hC2 i h).1) (Qa1 _)
      have d0:=cell_kept hC hg4 0;have d1:=cell_kept hC hg4 1;have f0:w4.cell? ⟨wr.heap.size,0,none⟩=some (.int .i64 x):=d0.trans (by simp);have f1:w4.cell? ⟨wr.heap.size,1,none⟩=some (.int .i64 y):=d1.trans (by simp);clear d0 d1 hg4 hC2 hC c0 c1 hB2
      go_wp2_with fail
      go_region
      go_wp2
      go_roundw
      case rel=>exact⟨k+1,by omega,by simp,_,x+1,y+1,rfl,rfl,hnx,hown4,hB4.drew⟩
      case measure=>simp only[Lib.intOf];omega
    ·have g1:¬old<x:=fun h=>hg (.inl h)
     have g2:¬now<y:=fun h=>hg (.inr h)
     rw[show Aa4 old now (x,y)=[]from if_neg hg,Qa3]at hnx;clear hC
     go_wp2_with fail
     go_region
     go_wp2
     go_roundw
     case rel=>exact⟨k+1,by omega,by simp,_,x+1,y+1,rfl,rfl,hnx,hC2.drew,hB2.drew⟩
     case measure=>simp only[Lib.intOf];omega
   ·have hke:k=L.length:=by omega
    subst hke;obtain⟨hfin,_⟩:=hI;rw[List.drop_of_length_le (Qa1 _),Up,Qa3]at hfin;subst hfin
    go_wp2
    go_ret
    exact⟨_,rfl,Agv hC hB1.size,hB1.trans (hB.mono hB1.size)⟩
end Go.Proofs.Tryz
