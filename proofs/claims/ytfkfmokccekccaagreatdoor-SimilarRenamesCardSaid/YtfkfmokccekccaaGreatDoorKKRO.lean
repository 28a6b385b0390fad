/- similar.Renames: the two comparisons and the two sorts. -/
import Derived.Test.YtfkfmokccekccaaGreatDoorKKRN
import Derived.Test.YtfkfmokccekccaaGreatDoorKKShelf
import Derived.Deep.RegionHeld3
import Derived.Shelf.SlSortCmp.NoneTotal
set_option linter.unusedVariables false
set_option linter.unusedSimpArgs false
namespace Go.Proofs.Tryz
open Go.Shelf Go.RowKit Go.VS Go Go.Maps Go.Sort Go.Lib
theorem Aqh:∀x y:Bs,Lib.compareBytes x y=0↔x=y
 |[],[]=>⟨fun _=>rfl,fun _=>rfl⟩
 |[],_::_=>⟨fun h=>(by cases h),fun h=>(by cases h)⟩
 |_::_,[]=>⟨fun h=>(by cases h),fun h=>(by cases h)⟩
 |a::x,b::y=>by
  have ih:=Aqh x y
  unfold Lib.compareBytes
  by_cases h1:a<b
  ·have:a≠b:=fun e=>by rw[e]at h1;exact absurd h1 (UInt8.lt_irrefl _)
   simp[h1,this]
  ·by_cases h2:b<a
   ·have:a≠b:=fun e=>by rw[e]at h2;exact absurd h2 (UInt8.lt_irrefl _)
    simp[h1,h2,this]
   ·have h3:a=b:=by
     by_cases e:a=b
     ·exact e
     ·rcases UInt8.lt_or_lt_of_ne e with h|h
      ·exact absurd h h1
      ·exact absurd h h2
    subst h3
    simp[h1,ih]
def AqA(x y:Aoc):Int:=or3 (Lib.compareInt y.2.2 x.2.2) (Lib.compareBytes x.1 y.1) (Lib.compareBytes x.2.1 y.2.1)
theorem Ary(a b:Int):(Lib.compareInt a b=0↔a=b)∧(Lib.compareInt a b<0↔a<b):=by
 unfold Lib.compareInt
 by_cases h1:a<b
 ·simp[h1];omega
 ·by_cases h2:a>b
  ·simp[h1,h2];omega
  ·simp[h1,h2];omega
theorem ArZ(b c:Int):or3 0 b c=if b≠0 then b else c:=by unfold or3;simp
theorem ltR(x y:Aoc):ltOf AqA x y=AoA x y:=by
 unfold ltOf AqA
 have c1:=AaD x.1 y.1
 have c2:=AaD x.2.1 y.2.1
 have z1:=Aqh x.1 y.1
 obtain⟨e1,e2⟩:=Ary y.2.2 x.2.2
 unfold AoA AoZ
 by_cases h:y.2.2=x.2.2
 ·have hb:decide (y.2.2<x.2.2)=false:=decide_eq_false (by omega)
  have hs:decide (x.2.2=y.2.2)=true:=decide_eq_true h.symm
  rw[e1.2 h,ArZ,hb,hs,Bool.false_or,Bool.true_and]
  by_cases h2:x.1=y.1
  ·rw[if_neg (fun k=>k (z1.2 h2)),c2,decide_eq_true h2,h2,FV,Bool.false_or,Bool.true_and]
  ·rw[if_pos (fun k=>h2 (z1.1 k)),c1,decide_eq_false h2,Bool.false_and,Bool.or_false]
 ·unfold or3
  rw[if_pos (fun k=>h (e1.1 k)),decide_eq_false (show¬x.2.2=y.2.2 from fun k=>h k.symm),Bool.false_and,Bool.or_false]
  exact decide_eq_decide.2 e2
theorem ApT{x y z:Aoc}(h1:AoA x y=true)(h2:AoA y z=true):AoA x z=true:=by
 unfold AoA AoZ at*
 simp only[Bool.or_eq_true,Bool.and_eq_true,decide_eq_true_eq]at*
 rcases h1 with h1|⟨e1,h1⟩
 ·rcases h2 with h2|⟨e2,h2⟩
  ·exact .inl (by omega)
  ·exact .inl (by omega)
 ·rcases h2 with h2|⟨e2,h2⟩
  ·exact .inl (by omega)
  ·refine .inr ⟨by omega,?_⟩
   rcases h1 with h1|⟨f1,h1⟩
   ·rcases h2 with h2|⟨f2,h2⟩
    ·exact .inl (HN h1 h2)
    ·exact .inl (by rw[←f2];exact h1)
   ·rcases h2 with h2|⟨f2,h2⟩
    ·exact .inl (by rw[f1];exact h2)
    ·exact .inr ⟨f1.trans f2,HN h1 h2⟩
theorem AsN:SWO (ltOf AqA) where
 irrefl x:=by
  rw[ltR]
  cases h:AoA x x with
  |false=>rfl
  |true=>exact(ApQ h h).elim
 trans x y z h1 h2:=by
  rw[ltR]at*
  exact ApT h1 h2
 ntrans x y z h1 h2:=by
  rw[ltR]at*
  cases h3:AoA x z with
  |false=>rfl
  |true=>
   by_cases e:x.1=y.1∧x.2.1=y.2.1
   ·by_cases s:x.2.2=y.2.2
    ·have:x=y:=Prod.ext e.1 (Prod.ext e.2 s)
     rw[this,h2]at h3;cases h3
    ·have s1:¬y.2.2<x.2.2:=fun k=>by
      unfold AoA at h1
      rw[decide_eq_true k]at h1
      cases h1
     have h5:=ApR h3
     have h6:AoA y z=true:=by unfold AoA;rw[decide_eq_true (show z.2.2<y.2.2 by omega)];rfl
     rw[h6]at h2;cases h2
   ·rcases ApS e with h4|h4
    ·rw[h4]at h1;cases h1
    ·rw[ApT h4 h3]at h2;cases h2
theorem AoU(w:World)(cs:Array Value)(e:TypeId)(b j:Nat)(u:Value)(hb:b=w.heap.size)(hu:cs[j]?=some u):(w.alloc (.cells cs e)).cell? ⟨b,j,none⟩=some u:=by
 subst hb
 exact(Aq (heap_alloc_new w (.cells cs e)) j).trans hu
theorem AsQ(w:World)(cs:Array Value)(e:TypeId)(b j:Nat)(u:Value)(hb:b=w.heap.size)(hu:cs[j]?=some u):(w.alloc (.cells cs e)).drew.cell? ⟨b,j,none⟩=some u:=AoU w cs e b j u hb hu
set_option maxHeartbeats 4000000 in
set_option maxRecDepth 1000000 in
theorem Aq9(x y:Aoc)(W:World):Calls prog 37 #[AqJ x,AqJ y] W fun e w'=>e=.returned (.int .i64 (AqA x y))∧∃q os',w'=grow (W.drewN q) os':=by
 obtain⟨xa,xb,xs⟩:=x
 obtain⟨ya,yb,ys⟩:=y
 unfold AqJ AqA
 dsimp only
 have hc1:∀W',Calls prog 77 #[.int .i64 ys,.int .i64 xs] W' fun e w'=>e=.returned (.int .i64 (Lib.compareInt ys xs))∧w'=W':=fun W'=>Tryz.cmp_Compare_int ys xs W'
 have hc2:∀W',Calls prog 39 #[.string ⟨xa.toArray⟩,.string ⟨ya.toArray⟩] W' fun e w'=>e=.returned (.int .i64 (Lib.compareBytes xa ya))∧w'=W':=fun W'=>by
  have:=Tryz.strings_Compare ⟨xa.toArray⟩ ⟨ya.toArray⟩ W'
  simpa using this
 have hc3:∀W',Calls prog 39 #[.string ⟨xb.toArray⟩,.string ⟨yb.toArray⟩] W' fun e w'=>e=.returned (.int .i64 (Lib.compareBytes xb yb))∧w'=W':=fun W'=>by
  have:=Tryz.strings_Compare ⟨xb.toArray⟩ ⟨yb.toArray⟩ W'
  simpa using this
 generalize Lib.compareInt ys xs=r1 at hc1⊢
 generalize Lib.compareBytes xa ya=r2 at hc2⊢
 generalize Lib.compareBytes xb yb=r3 at hc3⊢
 have hor:=fun(g:Nat) (W':World) h0 h1 h2=>Ar0 r1 r2 r3 g W' h0 h1 h2
 generalize or3 r1 r2 r3=r at hor⊢
 go_enter func37,ntmps37
 go_wp2_with fail
 go_region_held3 (fun w'=>w'.cell? ⟨W.heap.size,0,none⟩=some (.string ⟨xa.toArray⟩)∧w'.cell? ⟨W.heap.size,1,none⟩=some (.string ⟨xb.toArray⟩)∧w'.cell? ⟨W.heap.size,2,none⟩=some (.int .i64 xs)∧w'.cell? ⟨W.heap.size+1,0,none⟩=some (.string ⟨ya.toArray⟩)∧w'.cell? ⟨W.heap.size+1,1,none⟩=some (.string ⟨yb.toArray⟩)∧w'.cell? ⟨W.heap.size+1,2,none⟩=some (.int .i64 ys))
  ((go_split_ands;refine⟨?_,?_,?_,?_,?_,?_⟩<;>first|assumption|(simp;done)|(refine(Below.cell ((Below.refl _ _).alloc (Nat.le_refl _) _) ?_).trans ?_<;>first|assumption|(simp;done)|(simp;omega)|fail "none")))
  (first
   |(go_at_call 77;refine(hc1 _).mono ?_;rintro e w3 ⟨rfl,rfl⟩)
   |(go_at_call 39;refine(hc2 _).mono ?_;rintro e w3 ⟨rfl,rfl⟩)
   |(go_at_call 39;refine(hc3 _).mono ?_;rintro e w3 ⟨rfl,rfl⟩)
   |(go_at_call 76;refine(hor _ _ (AsQ _ _ _ _ _ _ (by simp) rfl) (AsQ _ _ _ _ _ _ (by simp) rfl) (AsQ _ _ _ _ _ _ (by simp) rfl)).mono ?_;rintro e w3 ⟨rfl,rfl⟩)
   |fail "no arm")
 go_wp2
 go_ret
 exact⟨rfl,1,_,by rw[alloc_eq_grow,alloc_eq_grow,alloc_eq_grow,grow_grow,grow_grow];rfl⟩
end Go.Proofs.Tryz
