/- shortest.distances, walked. -/
import Derived.Test.YtopngokkgogolaaGreatDoorKKRI
import Derived.Test.YtopngokkgogolaaGreatDoorKS0
import Derived.Deep.RegionHeld3
import Derived.Deep.DrawnRows
set_option linter.unusedVariables false
set_option linter.unusedSimpArgs false
open Nat renaming le_refl → Qa0, succ_mul → Qa3
open List renaming drop_eq_getElem_cons → Qa1, getElem?_eq_getElem → Qa2, length_drop → Qa4, drop_of_length_le → Qa5
namespace Go.Proofs.Tryz
open Go.Shelf Go.RowKit Go.VS Go Go.Sort
attribute [local go_sem ↓] Go.wp_at_zero Go.wp_at_succ
structure N4(w:World)(N Bv:Nat)(s:List Nat):Prop where
 len:s.length=N
 own:w.ownsRow Bv 345 1 (.slice (some ⟨Bv,0,none⟩) N N) N (s.map fun x=>Value.int .u16 ((x:Nat):Int))
 lv:Bv<w.heap.size
theorem N4.below{w w':World}{N Bv:Nat}{s:List Nat}(h:N4 w N Bv s)(hb:Below w.heap.size w w'):N4 w' N Bv s where
 len:=h.len
 own:=by
  refine⟨h.own.1,?_⟩
  rcases h.own.2 with h|⟨g,cap,cur,h1,h2,h3,h4⟩
  ·exact .inl h
  ·have hlt:g<w.heap.size:=(Array.getElem?_eq_some_iff.1 h3).1;exact .inr ⟨g,cap,cur,h1,h2,(hb.block g hlt).trans h3,h4⟩
 lv:=Nat.lt_of_lt_of_le h.lv hb.size
theorem N4.cell{w:World}{N Bv:Nat}{s:List Nat}(h:N4 w N Bv s){j:Nat}(hj:j<N):w.cell? ⟨Bv,j,none⟩=some (.int .u16 ((s.getD j 0:Nat):Int))∧w.frozen? ⟨Bv,j,none⟩=false:=by
 refine⟨?_,World.ownsRow.frozenAt h.own j⟩;rw[World.ownsRow.cellAt h.own j (by omega),List.getElem?_map,getD_eq (by rw[h.len];exact hj),Qa2 (by rw[h.len];exact hj)]
 rfl
theorem N4.put{w:World}{N Bv:Nat}{s:List Nat}(h:N4 w N Bv s)(j:Nat)(x:Nat):N4 (w.setCell ⟨Bv,j,none⟩ (.int .u16 ((x:Nat):Int))) N Bv (s.set j x) where
 len:=by rw[List.length_set];exact h.len
 own:=by
  have:=(World.ownsRow.stored h.own j (.int .u16 ((x:Nat):Int))).1;rw[List.map_set];exact this
 lv:=by have:=h.lv;simpa using this
theorem N4.drew{w:World}{N Bv:Nat}{s:List Nat}(h:N4 w N Bv s):N4 w.drew N Bv s:=⟨h.len,h.own,h.lv⟩
theorem AmU{n:Int}(h1:0≤n)(h2:n≤9223372036854775807):wrap64 n=n:=by unfold wrap64;omega
def EqN(x y:Nat):Prop:=x=y
def Tb0(a b:List Int)(i j:Nat):Nat:=IX (a.drop i) (b.drop j)
theorem Ak0(a b:List Int)(j:Nat):Tb0 a b a.length j=b.length -j:=by
 unfold Tb0;rw[Qa5 (Qa0 _),Zn,Qa4]
theorem Xw(a b:List Int)(i:Nat):Tb0 a b i b.length=a.length -i:=by
 unfold Tb0;rw[Qa5 (l:=b) (Qa0 _),AaM,Qa4]
theorem AnS{a b:List Int}{i j:Nat}(hi:i<a.length)(hj:j<b.length)(h:a[i]=b[j]):Tb0 a b i j=Tb0 a b (i+1) (j+1):=by
 unfold Tb0;rw[Qa1 hi,Qa1 hj,AhV h]
theorem AnT{a b:List Int}{i j:Nat}(hi:i<a.length)(hj:j<b.length)(h:a[i]≠b[j]):Tb0 a b i j=1+min (Tb0 a b (i+1) j) (Tb0 a b i (j+1)):=by
 unfold Tb0;rw[Qa1 hi,Qa1 hj,AhW h]
theorem Qa(a b:List Int)(i j:Nat):Tb0 a b i j≤a.length+b.length:=by
 have:=AlR _ (a.drop i) (b.drop j) (Qa0 _);rw[Qa4,Qa4]at this;unfold Tb0;omega
def TbK(a b:List Int)(s:List Nat)(i j:Nat):Prop:=∀i' j',i'≤a.length→j'≤b.length→(i≤i'∨i'+1=i∧j≤j')→s.getD (i'*(b.length+1)+j') 0=Tb0 a b i' j'
theorem Amt{W i j i' j':Nat}(hj:j<W)(hj':j'<W)(h:i*W+j=i'*W+j'):i=i'∧j=j':=by
 have h1:(i*W+j)/W=i:=by rw[Nat.mul_comm,Nat.mul_add_div (by omega),Nat.div_eq_of_lt hj];rfl
 have h2:(i'*W+j')/W=i':=by rw[Nat.mul_comm,Nat.mul_add_div (by omega),Nat.div_eq_of_lt hj'];rfl
 have h3:i=i':=by rw[←h1,h,h2]
 subst h3;exact⟨rfl,by omega⟩
theorem TbK.put{a b:List Int}{s:List Nat}{i j x:Nat}(h:TbK a b s (i+1) (j+1))(hi:i≤a.length)(hj:j≤b.length)(hs:i*(b.length+1)+j<s.length)(hx:x=Tb0 a b i j):TbK a b (s.set (i*(b.length+1)+j) x) (i+1) j:=fun i' j' hi' hj' hc=>by
 rw[FP hs]
 by_cases e:i*(b.length+1)+j=i'*(b.length+1)+j'
 ·obtain⟨rfl,rfl⟩:=Amt (by omega) (by omega) e;rw[if_pos rfl,hx]
 ·rw[if_neg e];refine h i' j' hi' hj' ?_
  rcases hc with hc|⟨h1,h2⟩
  ·exact .inl hc
  ·have h3:i'=i:=by omega
   subst h3;exact .inr ⟨rfl,by have:j≠j':=fun e2=>e (by rw[e2]);omega⟩
set_option maxHeartbeats 4000000 in
set_option maxRecDepth 1000000 in
theorem Adt(a b:List Int)(pa pb:Option Addr)(ca cb:Nat)(w:World)(la:a.length≤4096)(lb:b.length≤4096)(ha:Mj w pa a)(hb:Mj w pb b):
  Calls prog 228 #[.slice pa a.length ca,.slice pb b.length cb] w fun e w'=>∃s,e=.returned (.slice (some ⟨w.heap.size,0,none⟩) ((a.length+1)*(b.length+1)) ((a.length+1)*(b.length+1)))∧N4 w' ((a.length+1)*(b.length+1)) w.heap.size s∧(∀i j,i≤a.length→j≤b.length→s.getD (i*(b.length+1)+j) 0=Tb0 a b i j)∧Below w.heap.size w w':=by
 obtain⟨i0,hi,hz0,hz1,hz2⟩:=info_parts (P:=prog) (e:=345) (z:=.int .u16 0) (size:=1) (bytes:=2) (by kernel_rfl)
 obtain⟨N,hN⟩:∃N,EqN N ((a.length+1)*(b.length+1)):=⟨_,rfl⟩
 have hN2:N≤4097*4097:=by rw[show N=_ from hN];exact Nat.mul_le_mul (by omega) (by omega)
 have hw1:wrap64 (((a.length:Nat)+1:Int)*((b.length:Nat)+1:Int))=((N:Nat):Int):=by
  rw[show(((a.length:Nat):Int)+1)*(((b.length:Nat):Int)+1)=((N:Nat):Int)by rw[show N=_ from hN];push_cast;rfl]
  exact AmU (by omega) (by omega)
 rw[←show N=_ from hN]
 go_enter func228,ntmps228
 go_wp2_with (at_make;rw[hw1];refine wpList_make_full _ rfl _ _ 343 rfl w.heap.size 345 i0 (.int .u16 0) 1 underlying343 hi hz0 hz1 _ _ _ _ N rfl rfl rfl rfl ?m1 ?m2 ?m3 ?_)
 case m1=>rw[hz2];omega
 case m2=>unfold maxLen;omega
 case m3=>exact Qa0 _
 intro w1 hown1 hgr1
 have hlv:w.heap.size<w1.heap.size:=by
  have:=(World.ownsRow.lt hown1 w.heap.size rfl).2;exact this
 rw[toList_madeCells_one]at hown1
 have hT1:N4 w1 N w.heap.size (List.replicate N 0):=⟨by simp,by rw[List.map_replicate];exact hown1,hlv⟩
 have hB1:Below w.heap.size w w1:=below_grow (Below.refl _ w) hgr1 (fun i h=>nomatch h) (Qa0 _);clear hown1 hgr1 hlv hi hz0 hz1 hz2 hw1;generalize hBv:w.heap.size=Bv at*
 obtain⟨M,hM⟩:∃M,EqN M (a.length*(b.length+1)):=⟨_,rfl⟩
 have hMN:M+b.length+1=N:=by
  rw[show M=_ from hM,show N=_ from hN,Nat.add_mul,Nat.one_mul];omega
 have hw2:wrap64 (((a.length:Nat):Int)*((b.length:Nat)+1:Int))=((M:Nat):Int):=by
  rw[show((a.length:Nat):Int)*(((b.length:Nat):Int)+1)=((M:Nat):Int)by rw[show M=_ from hM];push_cast;rfl]
  exact AmU (by omega) (by omega)
 have hK1:∀j,(List.replicate N 0).getD j 0=0:=fun j=>by
  rw[List.getD_eq_getElem?_getD,List.getElem?_replicate];split<;>rfl
 go_wp2
 go_loopw [23] (fun i wr=>∃k:Nat,k≤b.length∧i=.int .i64 k∧∃s,N4 wr N Bv s∧((∀j,j<k→s.getD (M+j) 0=b.length -j)∧s.getD (M+b.length) 0=0)∧Below w.heap.size w wr) (fun i _=>b.length -(Lib.intOf i).toNat)
 case atStart=>exact⟨0,Nat.zero_le _,rfl,_,hT1,⟨fun j hj=>absurd hj (Nat.not_lt_zero _),hK1 _⟩,by rw[hBv];exact hB1⟩
 case round=>
  clear hT1 hB1 hK1;obtain⟨k,hk,hi,s,hT,hS,hB⟩:=hrel;subst hi
  by_cases hks:k<b.length
  ·obtain⟨cv,cf⟩:=hT.cell (j:=M+k) (by omega);have hput:=hT.put (M+k) (b.length -k)
   have hBp:∀x,Below w.heap.size w (wr.setCell ⟨Bv,M+k,none⟩ x):=fun x=>hB.setCell (p:=⟨Bv,M+k,none⟩) (by show w.heap.size≤Bv;omega) _
   have hlen:=hT.len;clear hT
   go_wp2
   refine⟨⟨k+1,by omega,by simp,s.set (M+k) (b.length -k),?_,⟨fun j hj=>?_,?_⟩,hBp _⟩,?_⟩
   ·rw[show((b.length:Nat):Int) -(k:Int)=((b.length -k:Nat):Int)by omega];exact hput
   ·rw[FP (by omega)]
    by_cases e:M+k=M+j
    ·rw[if_pos e];omega
    ·rw[if_neg e];exact hS.1 j (by omega)
   ·rw[FP (by omega),if_neg (by omega)];exact hS.2
   ·simp only[Lib.intOf];omega
  ·have hke:k=b.length:=by omega
   subst hke;have hlen:=hT.len
   have hTK:TbK a b s a.length (b.length+1):=fun i' j' hi' hj' hc=>by
    rcases hc with hc|⟨h1,h2⟩
    ·have h3:i'=a.length:=by omega
     subst h3;rw[←show M=_ from hM,Ak0]
     by_cases e:j'=b.length
     ·subst e;rw[hS.2];omega
     ·exact hS.1 j' (by omega)
    ·omega
   clear hS hlen hw2 hk hks
   go_wp2
   go_loopw [8] (fun i wr=>∃k:Nat,k≤a.length∧i=.int .i64 ((k:Int) -1)∧∃s,N4 wr N Bv s∧TbK a b s k (b.length+1)∧Below w.heap.size w wr) (fun i _=>(Lib.intOf i+1).toNat)
   case atStart=>exact⟨a.length,Qa0 _,rfl,s,hT,hTK,hB⟩
   case round=>
    clear hT hTK hB;rename_i wr0;obtain⟨k,hk,hi,s,hT,hTK,hB⟩:=hrel;subst hi
    cases k with
    |zero=>
     rw[show(((0:Nat):Int) -1)=-1 from rfl]
     go_wp2
     go_ret
     exact⟨s,by rw[hBv];rfl,by rw[hBv];exact hT,fun i j hi hj=>hTK i j hi hj (.inl (Nat.zero_le _)),hB⟩
    |succ k=>
     rw[show(((k+1:Nat):Int) -1)=(k:Int)by omega]
     obtain⟨Q,hQ⟩:∃Q,EqN Q (k*(b.length+1)):=⟨_,rfl⟩
     have hQN:Q+(b.length+1)+(b.length+1)≤N:=by
      rw[show Q=_ from hQ,show N=_ from hN,←Qa3,←Qa3];exact Nat.mul_le_mul (by omega) (Qa0 _)
     obtain⟨Q1,hQ1⟩:∃Q1,EqN Q1 (Q+(b.length+1)):=⟨_,rfl⟩
     obtain⟨Q2,hQ2⟩:∃Q2,EqN Q2 (Q1+(b.length+1)):=⟨_,rfl⟩
     have eQ1:Q1=Q+(b.length+1):=hQ1;have eQ2:Q2=Q1+(b.length+1):=hQ2
     have hq0:IntKind.i64.wrap ((k:Int)*((b.length:Nat)+1:Int))=((Q:Nat):Int):=by
      rw[show(k:Int)*(((b.length:Nat):Int)+1)=((Q:Nat):Int)by rw[show Q=_ from hQ];push_cast;rfl]
      exact w64 (by omega) (by omega)
     have hq1:IntKind.i64.wrap (((k:Int)+1)*((b.length:Nat)+1:Int))=((Q1:Nat):Int):=by
      rw[show((k:Int)+1)*(((b.length:Nat):Int)+1)=((Q1:Nat):Int)by rw[eQ1,show Q=_ from hQ,←Qa3];push_cast;rfl]
      exact w64 (by omega) (by omega)
     have hq2:IntKind.i64.wrap (((k:Int)+2)*((b.length:Nat)+1:Int))=((Q2:Nat):Int):=by
      rw[show((k:Int)+2)*(((b.length:Nat):Int)+1)=((Q2:Nat):Int)by rw[eQ2,eQ1,show Q=_ from hQ,←Qa3,←Qa3];push_cast;rfl]
      exact w64 (by omega) (by omega)
     have l0:(0:Int)≤((Q:Nat):Int):=by omega
     have l1:((Q:Nat):Int)≤((Q1:Nat):Int):=by omega
     have l2:((Q1:Nat):Int)≤((Q2:Nat):Int):=by omega
     have l3:((Q2:Nat):Int)≤((N:Nat):Int):=by omega
     have l4:((Q1:Nat):Int)≤((N:Nat):Int):=by omega
     have l5:(0:Int)≤((Q1:Nat):Int):=by omega
     have l6:(0:Int)≤((Q2:Nat):Int):=by omega
     have n1:¬N=Q1:=by omega
     have n0:¬N=Q:=by omega
     have e1:Q1 -Q=b.length+1:=by omega
     have e2:Q2 -Q1=b.length+1:=by omega
     have hlen:=hT.len;obtain⟨cv,cf⟩:=hT.drew.cell (j:=Q+b.length) (by omega);have hput:=hT.drew.put (Q+b.length) (a.length -k);rw[show((a.length -k:Nat):Int)=(a.length:Int) -(k:Int)by omega]at hput
     have hBp:∀x,Below w.heap.size w (wr.drew.setCell ⟨Bv,Q+b.length,none⟩ x):=fun x=>hB.drew.setCell (p:=⟨Bv,Q+b.length,none⟩) (by show w.heap.size≤Bv;omega) _
     have hTK1:TbK a b (s.set (Q+b.length) (a.length -k)) (k+1) b.length:=by
      rw[show Q=_ from hQ];exact hTK.put (by omega) (Qa0 _) (by rw[←show Q=_ from hQ];omega) (Xw a b k).symm
     have hTF:∀{s:List Nat},TbK a b s (k+1) 0→TbK a b s k (b.length+1):=fun h i' j' hi' hj' hc=>by
      refine h i' j' hi' hj' ?_
      rcases hc with hc|⟨h1,h2⟩
      ·omega
      ·omega
     have hQ3:EqN Q1 ((k+1)*(b.length+1)):=by
      show Q1=_;rw[eQ1,show Q=_ from hQ,←Qa3]
     clear eQ1 eQ2 hT hTK hB
     go_wp2_with fail
     go_region
     clear l0 l1 l2 l6 hq0 hq1 hq2 hlen
     go_wp2
     go_loopw [11] (fun i wq=>∃j:Nat,j≤b.length∧i=.int .i64 ((j:Int) -1)∧∃s,N4 wq N Bv s∧TbK a b s (k+1) j∧Below w.heap.size w wq) (fun i _=>(Lib.intOf i+1).toNat)
     case atStart=>exact⟨b.length,Qa0 _,rfl,_,hput,hTK1,hBp _⟩
     case round=>
      clear cv cf hput hTK1 hBp;obtain⟨j,hj,hi,s,hT,hTK,hB⟩:=hrel;subst hi
      cases j with
      |zero=>
       rw[show(((0:Nat):Int) -1)=-1 from rfl]
       go_wp2
       go_roundw
       case rel=>exact⟨k,by omega,rfl,s,hT,hTF hTK,hB⟩
       case measure=>simp only[Lib.intOf];omega
      |succ j=>
       rw[show(((j+1:Nat):Int) -1)=(j:Int)by omega];obtain⟨ba,oa,rfl,hba,ca0⟩:=ha.at_ k a[k] (Qa2 (by omega));obtain⟨bb,ob,rfl,hbb,cb0⟩:=hb.at_ j b[j] (Qa2 (by omega));have ca1:=(hB.cell (p:=⟨ba,oa+k,none⟩) hba).trans ca0;have cb1:=(hB.cell (p:=⟨bb,ob+j,none⟩) hbb).trans cb0;have hlen:=hT.len
       have q1:s.getD (Q1+(j+1)) 0=Tb0 a b (k+1) (j+1):=by rw[show Q1=_ from hQ3];exact hTK (k+1) (j+1) (by omega) hj (.inl (Qa0 _))
       have q2:s.getD (Q1+j) 0=Tb0 a b (k+1) j:=by rw[show Q1=_ from hQ3];exact hTK (k+1) j (by omega) (by omega) (.inl (Qa0 _))
       have q3:s.getD (Q+(j+1)) 0=Tb0 a b k (j+1):=by rw[show Q=_ from hQ];exact hTK k (j+1) (by omega) hj (.inr ⟨rfl,Qa0 _⟩)
       have b2:=Qa a b (k+1) j;have b3:=Qa a b k (j+1)
       have hnx:∀{x},x=Tb0 a b k j→TbK a b (s.set (Q+j) x) (k+1) j:=fun hx=>by
        rw[show Q=_ from hQ];exact hTK.put (by omega) (by omega) (by rw[←show Q=_ from hQ];omega) hx
       by_cases hab:a[k]=b[j]
       ·have hx:=AnS (a:=a) (b:=b) (i:=k) (j:=j) (by omega) (by omega) hab;obtain⟨cv,cf⟩:=hT.drew.cell (j:=Q1+(j+1)) (by omega);obtain⟨cv2,cf2⟩:=hT.drew.cell (j:=Q+j) (by omega);have hput:=hT.drew.put (Q+j) (s.getD (Q1+(j+1)) 0);have hnx1:=hnx (q1.trans hx.symm)
        have hBp:∀x,Below w.heap.size w (wr.drew.setCell ⟨Bv,Q+j,none⟩ x):=fun x=>hB.drew.setCell (p:=⟨Bv,Q+j,none⟩) (by show w.heap.size≤Bv;omega) _
        rw[hab]at ca1;clear hT hTK hB hnx q1 q2 q3 b2 b3 hx ca0 cb0 ha hb hab;generalize b[j]=y at ca1 cb1;generalize s.getD (Q1+(j+1)) 0=v at cv hput hnx1;generalize s.getD (Q+j) 0=v2 at cv2
        go_wp2_with fail
        go_region
        go_wp2
        go_roundw
        case rel=>exact⟨j,by omega,rfl,_,hput,hnx1,hBp _⟩
        case measure=>simp only[Lib.intOf];omega
       ·have hx:=AnT (a:=a) (b:=b) (i:=k) (j:=j) (by omega) (by omega) hab;obtain⟨cv,cf⟩:=hT.drew.drew.cell (j:=Q1+j) (by omega);obtain⟨cv3,cf3⟩:=hT.drew.drew.cell (j:=Q+(j+1)) (by omega);obtain⟨cv2,cf2⟩:=hT.drew.drew.cell (j:=Q+j) (by omega);rw[q2]at cv;rw[q3]at cv3
        have hput:=fun x=>hT.drew.drew.put (Q+j) x
        have hBp:∀x,Below w.heap.size w (wr.drew.drew.setCell ⟨Bv,Q+j,none⟩ x):=fun x=>hB.drew.drew.setCell (p:=⟨Bv,Q+j,none⟩) (by show w.heap.size≤Bv;omega) _
        generalize Tb0 a b (k+1) j=v1 at*;generalize Tb0 a b k (j+1)=v3 at*;clear hT hTK hB q1 q2 q3 ca0 cb0 ha hb;generalize a[k]=x at ca1 hab;generalize b[j]=y at cb1 hab;generalize s.getD (Q+j) 0=v2 at cv2
        have hab1:(x==y)=false:=by simpa using hab
        have hv1:(v1:Int)≤8192:=by omega
        have hv3:(v3:Int)≤8192:=by omega
        go_wp2_with fail
        go_region
        go_wp2_with fail
        go_region
        go_wp2
        go_roundw
        case rel=>
         have hp:=hput (min v1 v3+1);rw[show((min v1 v3+1:Nat):Int)=min (v1:Int) (v3:Int)+1 by omega]at hp;exact⟨j,by omega,rfl,_,hp,hnx (by rw[hx];omega),hBp _⟩
        case measure=>simp only[Lib.intOf];omega
end Go.Proofs.Tryz
