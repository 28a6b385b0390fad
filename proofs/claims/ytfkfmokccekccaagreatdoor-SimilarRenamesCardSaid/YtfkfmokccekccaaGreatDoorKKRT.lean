/- similar.Renames, walked. -/
import Derived.Test.YtfkfmokccekccaaGreatDoorKKRS
set_option linter.unusedVariables false
set_option linter.unusedSimpArgs false
namespace Go.Proofs.Tryz
open Go.Shelf Go.RowKit Go.VS Go Go.Maps Go.Sort Go.Lib
theorem ArA(o:List Aoc)(x:Aoc):(o.map AoL).flatten++[.string ⟨x.1.toArray⟩,.string ⟨x.2.1.toArray⟩,.int .i64 x.2.2]=((o++[x]).map AoL).flatten:=by
 rw[List.map_append,List.flatten_append]
 rfl
def AoW(w:World)(B:Nat)(v:Value)(l:List Aoc):Prop:=w.ownsRow B 68 3 v l.length (l.map AoL).flatten
theorem Ar1(w:World)(B:Nat):AoW w B (.slice none 0 0) []:=World.ownsRow_nil _ _ _ _
theorem AsL(B:Nat){ops:Array Oper}{rest:List Oper}{o:Oper}{a:Act}{Q:Exit→Act→World→Prop}{s x:Operand}{w1:World}{v:Value}{l:List Aoc}{g:Nat}{p q:Bs}{k:Int}
  (hgd:o.guard=none) (ho:o.op=.call {callee:=.builtin .append,args:=#[s,x],argTypes:=#[26,26]}) (hs:a.eval s=v) (hown:AoW w1 B v l)
  (hx:a.eval x=.slice (some ⟨g,0,none⟩) 1 1) (hc0:w1.cell? ⟨g,0,none⟩=some (.string ⟨p.toArray⟩)) (hc1:w1.cell? ⟨g,1,none⟩=some (.string ⟨q.toArray⟩)) (hc2:w1.cell? ⟨g,2,none⟩=some (.int .i64 k)) (hn:l.length≤100000000) (hB:B≤w1.heap.size)
  (hk:∀v' w',AoW w' B v' (l++[(p,(q,k))])→w1.grownBy w' v.ownBlock→wpList prog ops Q rest (a.put o.dst v') w'):wpList prog ops Q (o::rest) a w1:=by
 obtain⟨i0,hi,hz0,hz1,hz2⟩:=info_parts (P:=prog) (e:=68) (z:=.agg #[.string ⟨#[]⟩,.string ⟨#[]⟩,.int .i64 0]) (size:=3) (bytes:=40) (by kernel_rfl)
 refine wpList_append_own w1 hgd s x 26 ho B 68 i0 (.agg #[.string ⟨#[]⟩,.string ⟨#[]⟩,.int .i64 0]) 3 40 underlying26 hi hz0 hz1 hz2 rfl (by decide) v l.length _ hs hown ⟨g,0,none⟩ 1 1 [.string ⟨p.toArray⟩,.string ⟨q.toArray⟩,.int .i64 k] hx rfl ?_ ?_ ?_ ?_ hB ?_
 ·intro j u hj
  match j,hj with
  |0,hj=>
   have:Value.string ⟨p.toArray⟩=u:=by simpa using hj
   subst this
   exact hc0
  |1,hj=>
   have:Value.string ⟨q.toArray⟩=u:=by simpa using hj
   subst this
   exact hc1
  |2,hj=>
   have:Value.int .i64 k=u:=by simpa using hj
   subst this
   exact hc2
  |j+3,hj=>simp at hj
 ·intro u hu
  simp only[List.mem_cons,List.not_mem_nil,or_false]at hu
  rcases hu with rfl|rfl|rfl<;>rfl
 ·unfold maxLen;omega
 ·omega
 ·intro v' w' h1 h2 _
  rw[ArA l (p,(q,k))]at h1
  exact hk v' w' (by unfold AoW;rw[List.length_append];exact h1) h2
theorem Aq1(B:Nat)(v:Value)(d:List Aoc)(W:World)(hown:AoW W B v d)(hd:d.length≤4000000):Calls prog 36 #[v,.func (.func 38) #[] #[]] W fun e w'=>e=.returned (.tuple #[])∧W.grownBy w' v.ownBlock∧∃d':List Aoc,d'.Perm d∧(d'.Pairwise fun x y=>Op.bytesLess y.2.1 x.2.1=false)∧AoW w' B v d':=by
 have hown':=hown
 obtain⟨hlen,h⟩:=hown
 rcases h with⟨rfl,hn⟩|⟨g,cap,cur,rfl,hg,hb,hnc,hcm,hcs,htk⟩
 ·have hn:d=[]:=List.length_eq_zero_iff.1 hn
  subst hn
  refine(Ap3 W 38).mono ?_
  rintro e w' ⟨rfl,rfl⟩
  exact⟨rfl,⟨rfl,rfl,rfl,Nat.le_refl _,fun _ _ _=>rfl⟩,[],.refl _,.nil,hown'⟩
 ·have hH:=Tp (enc:=AoL) (k:=3) (fun _=>rfl) hb htk
  have hlt:g<W.heap.size:=(Array.getElem?_eq_some_iff.1 hb).1
  have hcon:=AnyQ.slices_SortFunc Tryz.Ar9 3 Tryz.isAgg68 Tryz.sizeOf68 AoL (fun _=>rfl) (fun x u hu=>by simp[AoL]at hu;rcases hu with rfl|rfl|rfl<;>rfl) (fun x y=>Lib.compareBytes x.2.1 y.2.1) (AmX (·.2.1) ltT) 38 #[] g 0 cap d.toArray W (enters_of func38 (by kernel_rfl) rfl)
   (fun _ _ _ _ x y=>Ara x y _) hH hlt (by rw[List.size_toArray];omega)
  rw[List.size_toArray]at hcon
  refine hcon.mono ?_
  rintro e w' ⟨rfl,d',n,os,hp,hs,rfl⟩
  have hpl:=toList_perm (d:=d.toArray) (d':=d') (by rw[List.size_toArray];exact hp)
  rw[List.toList_toArray]at hpl
  refine⟨rfl,Tm _,d'.toList,hpl,?_,?_⟩
  ·have:=Xz (lt:=ltOf fun x y:Aoc=>Lib.compareBytes x.2.1 y.2.1) (d:=d.toArray) (d':=d') (by have:=hp.1;simpa using this) (by rw[List.size_toArray];exact hs)
   exact this.imp fun{x y} h=>by rw[←ltT];exact h
  ·have:=Ts (enc:=AoL) (k:=3) (fun _=>rfl) (w:=W) (base:=B) (n:=n) (os:=os) (ss:=d) (ts:=d'.toList) hpl.length_eq hg hb hnc hcm hcs
   rw[Array.toArray_toList]at this
   unfold AoW
   rw[hpl.length_eq]
   exact this
theorem Aqs(s:List Bs)(p:Bs):∀x,Aow (s++[p]) x=gput (Aow s) p true x:=fun x=>by
 unfold Aow gput
 dsimp only
 by_cases h:x=p
 ·rw[if_pos h,if_pos (by rw[h];simp)]
 ·rw[if_neg h]
  by_cases h2:x∈s
  ·rw[if_pos h2,if_pos (List.mem_append_left _ h2)]
  ·rw[if_neg h2,if_neg (fun h3=>by rcases List.mem_append.1 h3 with h3|h3;exact h2 h3;exact h (List.mem_singleton.1 h3))]
theorem Ash(out:List Aoc)(r:Aoc):Aod out r=(decide (r.1∈out.map (·.1))||decide (r.2.1∈out.map (·.2.1))):=by
 induction out with
 |nil=>rfl
 |cons o out ih=>
  unfold Aod at ih⊢
  rw[List.any_cons,ih,List.map_cons,List.map_cons]
  by_cases h1:o.1=r.1
  ·simp[h1]
  ·by_cases h2:o.2.1=r.2.1
   ·simp[h2]
   ·have h1':¬r.1=o.1:=fun k=>h1 k.symm
    have h2':¬r.2.1=o.2.1:=fun k=>h2 k.symm
    have b1:(r.1==o.1)=false:=beq_eq_false_iff_ne.2 h1'
    have b2:(r.2.1==o.2.1)=false:=beq_eq_false_iff_ne.2 h2'
    simp[h1,h2,b1,b2]
structure AsK(w:World)(ad:Option Addr)(l:List Aoc):Prop where
 at_:∀(k:Nat) (x:Aoc),l[k]?=some x→∃b off,ad=some ⟨b,off,none⟩∧b<w.heap.size∧w.cell? ⟨b,off+k*3,none⟩=some (.string ⟨x.1.toArray⟩)∧w.cell? ⟨b,off+k*3+1,none⟩=some (.string ⟨x.2.1.toArray⟩)∧w.cell? ⟨b,off+k*3+2,none⟩=some (.int .i64 x.2.2)
def Asz(B:Nat)(w:World)(v:Value)(l:List Aoc):Prop:=(v=.slice none 0 0∧l=[])∨∃g off cap,v=.slice (some ⟨g,off,none⟩) l.length cap∧B≤g∧Ap6 w g off l
theorem AqZ{B:Nat}{w w2:World}(hB:Below B w w2)(hs:B≤w.heap.size){v:Value}{l:List Aoc}(h:Asz B w2 v l)(hl:l.length≤4000000):∃ad cap,v=.slice ad l.length cap∧
  Calls prog 36 #[.slice ad l.length cap,.func (.func 37) #[] #[]] w2 fun e w'=>e=.returned (.tuple #[])∧∃S:List Aoc,S.Perm l∧(S.Pairwise fun x y=>ltOf AqA y x=false)∧AsK w' ad S∧Below B w w':=by
 rcases h with⟨rfl,rfl⟩|⟨g,off,cap,rfl,hg,hr⟩
 ·refine⟨none,0,rfl,(Ap3 w2 37).mono ?_⟩
  rintro e w' ⟨rfl,rfl⟩
  exact⟨rfl,[],.refl _,.nil,⟨fun k x hx=>nomatch hx⟩,hB⟩
 ·refine⟨some ⟨g,off,none⟩,cap,rfl,(Asa AqA AsN 37 _ func37 (enters_of func37 (by kernel_rfl) rfl) Aq9 l g off cap w2 hl hr).mono ?_⟩
  rintro e w' ⟨rfl,S,hp,hso,hgr,hr2⟩
  refine⟨rfl,S,hp,hso,⟨fun k x hx=>⟨g,off,rfl,Art hr2,ArL hr2 hx⟩⟩,?_⟩
  refine⟨hgr.os.trans hB.os,hgr.tape.trans hB.tape,hgr.output.trans hB.output,Nat.le_trans hB.size hgr.size,fun i hi=>?_⟩
  have hs2:=hB.size
  exact(hgr.block i (by omega) (fun e1=>by have:=Option.some.inj e1;omega)).trans (hB.block i hi)
structure LR(S:List Aoc)(R1 R2:Nat)(w:World)(k:Nat)(v:Value)(wr:World):Prop where
 own:AoW wr w.heap.size v (Aov [] (S.take k))
 m1:MB wr R1 k (Aow ((Aov [] (S.take k)).map (·.1)))
 m2:MB wr R2 k (Aow ((Aov [] (S.take k)).map (·.2.1)))
 bel:Below w.heap.size w wr
theorem ApF{A:Nat}{w0 w w':World}(h0:Below A w0 w)(h:Below w.heap.size w w')(hA:A≤w0.heap.size):Below A w0 w':=h0.trans (h.mono (Nat.le_trans hA h0.size))
theorem ArE{w:World}{B B':Nat}{v:Value}{l:List Aoc}(h:AoW w B v l)(hb:B'≤B):AoW w B' v l:=by
 refine⟨h.1,?_⟩
 rcases h.2 with h|⟨g,cap,cur,h1,h2,h3,h4⟩
 ·exact .inl h
 ·exact .inr ⟨g,cap,cur,h1,Nat.le_trans hb h2,h3,h4⟩
theorem AqP{w w':World}{B R:Nat}{v:Value}{l:List Aoc}(h:AoW w B v l)(hg:w.grownBy w' (some R))(hne:v.ownBlock≠some R):AoW w' B v l:=by
 refine⟨h.1,?_⟩
 rcases h.2 with h|⟨g,cap,cur,h1,h2,h3,h4⟩
 ·exact .inl h
 ·subst h1
  have hlt:g<w.heap.size:=(Array.getElem?_eq_some_iff.1 h3).1
  exact .inr ⟨g,cap,cur,rfl,h2,(hg.block g hlt (fun e=>hne (by rw[Value.ownBlock,←e]))).trans h3,h4⟩
theorem cell_far{w w':World}{R g j:Nat}(hg:w.grownBy w' (some R))(hne:g≠R)(hlt:g<w.heap.size):w'.cell? ⟨g,j,none⟩=w.cell? ⟨g,j,none⟩:=by
 have:=hg.block g hlt (fun e=>hne (Option.some.inj e))
 simp[World.cell?,this]
def ArV(a b:List Ao)(least:Int)(D:List Bz)(w:World)(e:Ending)(w':World):Prop:=∃(v:Value) (d:List Aoc),e=.returned (.tuple #[v,.int .i64 0])∧Below w.heap.size w w'∧AoW w' w.heap.size v d∧∃S:List Aoc,S.Perm (Aoi a b least D D)∧(S.Pairwise fun x y=>ltOf AqA y x=false)∧d.Perm (Aov [] S)∧d.Pairwise fun x y=>Op.bytesLess y.2.1 x.2.1=false
end Go.Proofs.Tryz
