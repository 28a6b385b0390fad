/- similar.Renames, walked: the function. -/
import Derived.Test.YtfkfmokccekccaaGreatDoorKKRT
set_option linter.unusedVariables false
set_option linter.unusedSimpArgs false
namespace Go.Proofs.Tryz
open Go.Shelf Go.RowKit Go.VS Go Go.Maps Go.Sort Go.Lib
set_option maxHeartbeats 1000000 in
theorem ArK(a b:List Ao)(least:Int)(ha:Du a)(hb:Du b)(pa pb:Option Addr)(ca cb:Nat)(w:World)(hva:Aag w pa a)(hvb:Aag w pb b)(hl:¬(1≤least∧least≤100))
  (hbo:Calls prog 70 #[.slice pa a.length ca,.slice pb b.length cb] w fun e w'=>e=.returned (.int .i64 0)∧Below w.heap.size w w'):
  Calls prog 7 #[.slice pa a.length ca,.slice pb b.length cb,.int .i64 least] w fun e w'=>e=.returned (.tuple #[.slice none 0 0,.int .i64 3])∧Below w.heap.size w w':=by
 have hcon:=Adn a b ha hb pa pb ca cb w hva hvb hbo (Aeg _)
 by_cases h1:least<1
 ·go_enter func7,ntmps7
  go_wp2_with (go_at_call 34;refine hcon.mono ?_;rintro e w1 ⟨vd,D,rfl,hB1,hown,hperm,hsrt⟩)
  go_ret2
  exact⟨rfl,hB1⟩
 ·have h2:least>100:=by omega
  go_enter func7,ntmps7
  go_wp2_with (go_at_call 34;refine hcon.mono ?_;rintro e w1 ⟨vd,D,rfl,hB1,hown,hperm,hsrt⟩)
  go_ret2
  exact⟨rfl,hB1⟩
theorem Ao0{w:World}{B:Nat}{v:Value}{l:List Aoc}(h:AoW w B v l)(o:Obj):AoW (w.alloc o) B v l:=World.ownsRow.alloc h o
def ArU(a b:List Ao)(least:Int)(pa pb:Option Addr)(ca cb:Nat)(w:World):Prop:=∀(W:World) (vd:Value) (D:List Bz),Below w.heap.size w W→Lf W w.heap.size vd D→D.length≤2000→
 Calls prog 35 #[.slice pa a.length ca,.slice pb b.length cb,vd,.int .i64 least] W fun e w'=>∃v',e=.returned v'∧Below W.heap.size W w'∧Asz W.heap.size w' v' (Aoi a b least D D)
theorem mk_one(w:World):(Instr.makeMap 70 none).run prog w=.ok (.map (some w.heap.size)) (w.alloc (.map #[] 0)):=rfl
theorem Arr(w:World):(w.alloc (.map #[] 0)).heap.size=w.heap.size+1:=by simp only[World.alloc,Array.size_push]
theorem AsB(w:World):(Instr.makeMap 70 none).run prog (w.alloc (.map #[] 0))=.ok (.map (some (w.heap.size+1))) ((w.alloc (.map #[] 0)).alloc (.map #[] 0)):=by rw[←Arr w];rfl
set_option maxHeartbeats 8000000 in
set_option maxRecDepth 1000000 in
theorem ArJ(a b:List Ao)(least:Int)(ha:Du a)(hb:Du b)(la:a.length≤1000)(lb:b.length≤1000)(pa pb:Option Addr)(ca cb:Nat)(w:World)(hva:Aag w pa a)(hvb:Aag w pb b)(hl0:1≤least)(hl1:least≤100)
  (hord:∀d:List Bz,d.Perm (O3 a b)→(d.Pairwise fun x y=>Op.bytesLess y.1 x.1=false)→IsDiff a b d)
  (hbo:Calls prog 70 #[.slice pa a.length ca,.slice pb b.length cb] w fun e w'=>e=.returned (.int .i64 0)∧Below w.heap.size w w')
  (hprs:ArU a b least pa pb ca cb w):
  Calls prog 7 #[.slice pa a.length ca,.slice pb b.length cb,.int .i64 least] w fun e w'=>∃D,IsDiff a b D∧ArV a b least D w e w':=by
 have hcon:=Adn a b ha hb pa pb ca cb w hva hvb hbo (Aeg _)
 have h1:¬least<1:=by omega
 have h2:¬least>100:=by omega
 go_enter func7,ntmps7
 go_wp2_with (go_at_call 34;refine hcon.mono ?_;rintro e w1 ⟨vd,D,rfl,hB1,hown,hperm,hsrt⟩)
 have hDiff:=hord D hperm hsrt
 have hDl:D.length≤2000:=by
  have:=hperm.length_eq
  have:=Aig a b
  omega
 have hpc:=hprs w1 vd D hB1 hown hDl
 clear hcon hprs hbo hva hvb hown hperm hsrt
 go_wp2_with (go_at_call 35;refine hpc.mono ?_;rintro e w2 ⟨vp,rfl,hB2,hrow⟩)
 have hsz1:=hB1.size
 have hB02:Below w.heap.size w w2:=ApF hB1 hB2 (Nat.le_refl _)
 have hrow:Asz w.heap.size w2 vp (Aoi a b least D D):=by
  rcases hrow with h|⟨g,off,cap,h1,h2,h3⟩
  ·exact .inl h
  ·exact .inr ⟨g,off,cap,h1,by omega,h3⟩
 have hLl:(Aoi a b least D D).length≤4000000:=Nat.le_trans Ao9 (Nat.le_trans (Nat.mul_le_mul hDl hDl) (by decide))
 have hlens:=Aso (least:=least) ha hb hDiff
 obtain⟨ad,cap,rfl,hsc⟩:=AqZ hB02 (Nat.le_refl _) hrow hLl
 have hfin:∀(S:List Aoc) (v:Value) (d:List Aoc) (w':World),S.Perm (Aoi a b least D D)→(S.Pairwise fun x y=>ltOf AqA y x=false)→Below w.heap.size w w'→AoW w' w.heap.size v d→d.Perm (Aov [] S)→(d.Pairwise fun x y=>Op.bytesLess y.2.1 x.2.1=false)→∃D,IsDiff a b D∧ArV a b least D w (.returned (.tuple #[v,.int .i64 0])) w':=fun S v d w' h1 h2 h3 h4 h5 h6=>⟨D,hDiff,v,d,rfl,h3,h4,S,h1,h2,h5,h6⟩
 generalize Aoi a b least D D=L at hrow hLl hlens hsc hfin
 clear hrow hpc hDiff hB1 hB2 hsz1 hDl hB02
 go_wp2_with (go_at_call 36;refine hsc.mono ?_;rintro e w3 ⟨rfl,S,hp,hso,hrs,hB3⟩;have hmk1:=mk_one w3;have hmk2:=AsB w3)
 have hSl:=hp.length_eq
 have hlenS:∀r∈S,r.1.length≤140737488351232∧r.2.1.length≤140737488351232:=fun r hr=>hlens r (hp.mem_iff.1 hr)
 have hfin:=fun(v:Value) (d:List Aoc) (w':World)=>hfin S v d w' hp hso
 clear hsc hlens hp hso
 rw[←hSl]at hLl⊢
 clear hSl
 have hs1:=Arr w3
 have hM1:MB ((w3.alloc (.map #[] 0)).alloc (.map #[] 0)) w3.heap.size 0 (Aow []):=Cs.alloc (Cs.congr (Cs.made (Elt.bool underlying4) w3) fun k=>by unfold Aow;simp) _
 have hM2:MB ((w3.alloc (.map #[] 0)).alloc (.map #[] 0)) (w3.heap.size+1) 0 (Aow []):=by
  have:=Cs.congr (Cs.made (Elt.bool (P:=prog) underlying4) (kt:=9) (w3.alloc (.map #[] 0))) (g':=Aow []) fun k=>by unfold Aow;simp
  rwa [hs1]at this
 have h0:LR S w3.heap.size (w3.heap.size+1) w3 0 (.slice none 0 0) ((w3.alloc (.map #[] 0)).alloc (.map #[] 0)):=⟨Ar1 _ _,hM1,hM2,((Below.refl _ w3).alloc (Nat.le_refl _) _).alloc (by rw[hs1];omega) _⟩
 clear hM1 hM2 hs1
 generalize(w3.alloc (.map #[] 0)).alloc (.map #[] 0)=w4 at h0⊢
 clear hmk1 hmk2
 generalize Value.bool (decide (least<1)||decide (100<least))=z1
 generalize Value.bool (decide (least<1))=z2
 generalize Value.bool (decide (100<least))=z3
 generalize Value.tuple #[vd,Value.int IntKind.i64 0]=z4
 generalize Value.slice pa a.length ca=z5
 generalize Value.slice pb b.length cb=z6
 generalize Value.int IntKind.i64 least=z7
 go_loopw [13,44] (fun v i wr=>∃k:Nat,k≤S.length∧i=.int .i64 k∧LR S w3.heap.size (w3.heap.size+1) w3 k v wr) (fun _ i _=>S.length -(Lib.intOf i).toNat)
 case atStart=>exact⟨0,Nat.zero_le _,rfl,h0⟩
 case round=>
  clear h0
  obtain⟨k,hk,hi,hL⟩:=hrel
  subst hi
  by_cases hks:k<S.length
  ·obtain⟨hown,hM1,hM2,hB⟩:=hL
   obtain⟨bl,off,rfl,hbl,q0,q1,q2⟩:=hrs.at_ k S[k] (List.getElem?_eq_getElem hks)
   have c0:=(hB.cell (p:=⟨bl,off+k*3,none⟩) hbl).trans q0
   have c1:=(hB.cell (p:=⟨bl,off+k*3+1,none⟩) hbl).trans q1
   have c2:=(hB.cell (p:=⟨bl,off+k*3+2,none⟩) hbl).trans q2
   obtain⟨hl1,hl2⟩:=hlenS _ (List.getElem_mem hks)
   have hlen:(Aov [] (S.take k)).length≤4000000:=by
    have:=ApN [] (S.take k)
    rw[List.length_take,List.length_nil]at this
    omega
   have hnx:=ArX (List.getElem?_eq_getElem hks)
   have hfx:∀(v:Value) (W:World),AoW W w3.heap.size v (Aok (Aov [] (S.take k)) S[k])→MB W w3.heap.size (k+1) (Aow ((Aok (Aov [] (S.take k)) S[k]).map (·.1)))→MB W (w3.heap.size+1) (k+1) (Aow ((Aok (Aov [] (S.take k)) S[k]).map (·.2.1)))→Below w3.heap.size w3 W→LR S w3.heap.size (w3.heap.size+1) w3 (k+1) v W:=fun v W h1 h2 h3 h4=>⟨by rw[hnx];exact h1,by rw[hnx];exact h2,by rw[hnx];exact h3,h4⟩
   clear hnx q0 q1 q2
   generalize Aov [] (S.take k)=o at hown hM1 hM2 hlen hfx
   generalize S[k]=x at c0 c1 c2 hl1 hl2 hfx
   obtain⟨p,q,sc⟩:=x
   dsimp only at c0 c1 c2 hl1 hl2 hfx
   have hus:=Ash o (p,(q,sc))
   dsimp only at hus
   have hM1a:=Cs.alloc hM1 (.cells #[.string ⟨p.toArray⟩,.string ⟨q.toArray⟩,.int .i64 sc] 68)
   have hM2a:=Cs.alloc hM2 (.cells #[.string ⟨p.toArray⟩,.string ⟨q.toArray⟩,.int .i64 sc] 68)
   have hBa:=hB.alloc hB.size (.cells #[.string ⟨p.toArray⟩,.string ⟨q.toArray⟩,.int .i64 sc] 68)
   have howna:AoW _ _ _ _:=World.ownsRow.alloc hown (.cells #[.string ⟨p.toArray⟩,.string ⟨q.toArray⟩,.int .i64 sc] 68)
   have hlk1:=Cs.Aoa hM1a underlying9 (t:=70) underlying70 (Asx _) trivial (k:=p) (by unfold maxLen;omega)
   have hlk2:=Cs.Aoa hM2a underlying9 (t:=70) underlying70 (Asx _) trivial (k:=q) (by unfold maxLen;omega)
   rw[Ar8]at hlk1 hlk2
   have hlk1':(Instr.lookup 70 (.map (some w3.heap.size)) (.string ⟨p.toArray⟩) false).run prog (wr.alloc (.cells #[.string ⟨p.toArray⟩,.string ⟨q.toArray⟩,.int .i64 sc] 68))=.ok (.bool (decide (p∈o.map (·.1)))) (wr.alloc (.cells #[.string ⟨p.toArray⟩,.string ⟨q.toArray⟩,.int .i64 sc] 68)):=hlk1
   have hlk2':(Instr.lookup 70 (.map (some (w3.heap.size+1))) (.string ⟨q.toArray⟩) false).run prog (wr.alloc (.cells #[.string ⟨p.toArray⟩,.string ⟨q.toArray⟩,.int .i64 sc] 68))=.ok (.bool (decide (q∈o.map (·.2.1)))) (wr.alloc (.cells #[.string ⟨p.toArray⟩,.string ⟨q.toArray⟩,.int .i64 sc] 68)):=hlk2
   have hR1':=hM1.lt
   have hR2':=hM2.lt
   clear hlk1 hlk2 hM1 hM2
   by_cases hu:Aod o (p,(q,sc))=true
   ·have hst:Aok o (p,(q,sc))=o:=by unfold Aok;rw[if_pos hu]
    rw[hst]at hfx
    have hL2:=hfx _ _ howna (hM1a.mono (Nat.le_succ k)) (hM2a.mono (Nat.le_succ k)) hBa
    rw[hu]at hus
    generalize decide (p∈o.map (·.1))=b1 at hlk1' hus
    generalize decide (q∈o.map (·.2.1))=b2 at hlk2' hus
    clear hfx howna hM1a hM2a hBa hst hu hown
    cases b1 with
    |true=>
     clear hus
     go_wp2
     go_roundw
     case rel=>exact⟨k+1,by omega,by simp,hL2⟩
     case measure=>simp only[Lib.intOf];omega
    |false=>
     have hb2:b2=true:=by simpa using hus.symm
     clear hus
     subst hb2
     go_wp2
     go_roundw
     case rel=>exact⟨k+1,by omega,by simp,hL2⟩
     case measure=>simp only[Lib.intOf];omega
   ·have hu:Aod o (p,(q,sc))=false:=by simpa using hu
    have hst:Aok o (p,(q,sc))=o++[(p,(q,sc))]:=by unfold Aok;rw[if_neg (by rw[hu];decide)]
    rw[hst]at hfx
    rw[hu]at hus
    have hn1:decide (p∈o.map (·.1))=false:=by
     cases h:decide (p∈o.map (·.1))with
     |false=>rfl
     |true=>rw[h]at hus;cases hus
    have hn2:decide (q∈o.map (·.2.1))=false:=by
     cases h:decide (q∈o.map (·.2.1))with
     |false=>rfl
     |true=>rw[h,Bool.or_true]at hus;cases hus
    rw[hn1]at hlk1'
    rw[hn2]at hlk2'
    clear hus hst hu hn1 hn2 hown
    have hws:(wr.alloc (.cells #[.string ⟨p.toArray⟩,.string ⟨q.toArray⟩,.int .i64 sc] 68)).heap.size=wr.heap.size+1:=by simp only[World.alloc,Array.size_push]
    have hBs:=hB.size
    have hR1:=hM1a.lt
    have hR2:=hM2a.lt
    have k0:=AoU wr #[.string ⟨p.toArray⟩,.string ⟨q.toArray⟩,.int .i64 sc] 68 wr.heap.size 0 _ rfl rfl
    have k1:=AoU wr #[.string ⟨p.toArray⟩,.string ⟨q.toArray⟩,.int .i64 sc] 68 wr.heap.size 1 _ rfl rfl
    have k2:=AoU wr #[.string ⟨p.toArray⟩,.string ⟨q.toArray⟩,.int .i64 sc] 68 wr.heap.size 2 _ rfl rfl
    have hM1d:MB (wr.alloc (.cells #[.string ⟨p.toArray⟩,.string ⟨q.toArray⟩,.int .i64 sc] 68)).drew w3.heap.size k (Aow (o.map (·.1))):=Cs.of_block hM1a rfl
    have hM2d:MB (wr.alloc (.cells #[.string ⟨p.toArray⟩,.string ⟨q.toArray⟩,.int .i64 sc] 68)).drew (w3.heap.size+1) k (Aow (o.map (·.2.1))):=Cs.of_block hM2a rfl
    obtain⟨W2,hrun1,hM1b,hg1⟩:=Cs.put hM1d underlying9 (t:=70) underlying70 (by unfold maxLen;omega) (k:=p) (by unfold maxLen;omega) (v:=true) trivial
    have hM2c:MB W2 (w3.heap.size+1) k (Aow (o.map (·.2.1))):=Cs.of_block hM2d (hg1.block _ hR2 (fun e=>by have:=Option.some.inj e;omega))
    obtain⟨W3,hrun2,hM2b,hg2⟩:=Cs.put hM2c underlying9 (t:=70) underlying70 (by unfold maxLen;omega) (k:=q) (by unfold maxLen;omega) (v:=true) trivial
    have hrun1:(Instr.mapUpdate 70 (.map (some w3.heap.size)) (.string ⟨p.toArray⟩) (.bool true)).run prog (wr.alloc (.cells #[.string ⟨p.toArray⟩,.string ⟨q.toArray⟩,.int .i64 sc] 68)).drew=.ok () W2:=hrun1
    have hrun2:(Instr.mapUpdate 70 (.map (some (w3.heap.size+1))) (.string ⟨q.toArray⟩) (.bool true)).run prog W2=.ok () W3:=hrun2
    have hs2:=hg1.size
    have hs3:=hg2.size
    have hM1c:MB W3 w3.heap.size (k+1) (gput (Aow (o.map (·.1))) p true):=Cs.of_block hM1b (hg2.block _ (Nat.lt_of_lt_of_le hR1 hs2) (fun e=>by have:=Option.some.inj e;omega))
    have hne1:wr.heap.size≠w3.heap.size:=by omega
    have hne2:wr.heap.size≠w3.heap.size+1:=by omega
    have j1:W2.cell? ⟨wr.heap.size,1,none⟩=some (.string ⟨q.toArray⟩):=(cell_far hg1 hne1 (by show wr.heap.size<(wr.alloc _).heap.size;omega)).trans k1
    have i0:W3.cell? ⟨wr.heap.size,0,none⟩=some (.string ⟨p.toArray⟩):=(cell_far hg2 hne2 (by have:(wr.alloc (.cells #[.string ⟨p.toArray⟩,.string ⟨q.toArray⟩,.int .i64 sc] 68)).drew.heap.size=wr.heap.size+1:=hws;omega)).trans ((cell_far hg1 hne1 (by show wr.heap.size<(wr.alloc _).heap.size;omega)).trans k0)
    have i1:W3.cell? ⟨wr.heap.size,1,none⟩=some (.string ⟨q.toArray⟩):=(cell_far hg2 hne2 (by have:(wr.alloc (.cells #[.string ⟨p.toArray⟩,.string ⟨q.toArray⟩,.int .i64 sc] 68)).drew.heap.size=wr.heap.size+1:=hws;omega)).trans j1
    have i2:W3.cell? ⟨wr.heap.size,2,none⟩=some (.int .i64 sc):=(cell_far hg2 hne2 (by have:(wr.alloc (.cells #[.string ⟨p.toArray⟩,.string ⟨q.toArray⟩,.int .i64 sc] 68)).drew.heap.size=wr.heap.size+1:=hws;omega)).trans ((cell_far hg1 hne1 (by show wr.heap.size<(wr.alloc _).heap.size;omega)).trans k2)
    have howd:AoW (wr.alloc (.cells #[.string ⟨p.toArray⟩,.string ⟨q.toArray⟩,.int .i64 sc] 68)).drew w3.heap.size u13 o:=howna
    have how2:=AqP howd hg1 (L9 howd hM1d)
    have how3:=AqP how2 hg2 (L9 how2 hM2c)
    have hBd:Below w3.heap.size w3 (wr.alloc (.cells #[.string ⟨p.toArray⟩,.string ⟨q.toArray⟩,.int .i64 sc] 68)).drew:=hBa.drew
    have hB3':Below w3.heap.size w3 W3:=Us (Us hBd hg1 (Nat.le_refl _) (Nat.le_refl _)) hg2 (Nat.le_succ _) (Nat.le_refl _)
    have hB3s:=hB3'.size
    have hfx2:=fun(v:Value) (W:World) h1 h2 h3 h4=>hfx v W h1 h2 h3 h4
    have hm1:=Cs.congr hM1c (Aqs (o.map (·.1)) p)
    have hm2:=Cs.congr hM2b (Aqs (o.map (·.2.1)) q)
    rw[List.map_append,List.map_append]at hfx2
    clear hfx howna howd how2 hBd hM1a hM2a hBa hM1d hM2d hM1b hM2c hM2b hM1c hg1 hg2 hs2 hs3 hR1 hR2 hR1' hR2' hBs hws
    go_wp2
    clear hlk1' hlk2'
    go_region
    clear hrun1 hrun2
    go_wp2_with (at_builtin;refine AsL w3.heap.size (p:=p) (q:=q) (k:=sc) rfl rfl rfl (Ao0 how3 _) rfl ?b0 ?b1 ?b2 ?b3 ?b4 ?b5)
    case b0=>simp
    case b1=>simp
    case b2=>simp
    case b3=>exact Nat.le_trans hlen (by decide)
    case b4=>simp;omega
    case b5=>
     intro v2 w8 hown8 hg8
     have hB8:=RI (hB3'.alloc hB3s (.cells #[.string ⟨p.toArray⟩,.string ⟨q.toArray⟩,.int .i64 sc] 68)) (Ao0 how3 _) hg8 (Nat.le_refl _)
     have ha1:=Cs.alloc hm1 (.cells #[.string ⟨p.toArray⟩,.string ⟨q.toArray⟩,.int .i64 sc] 68)
     have ha2:=Cs.alloc hm2 (.cells #[.string ⟨p.toArray⟩,.string ⟨q.toArray⟩,.int .i64 sc] 68)
     have hL2:=hfx2 v2 w8 hown8 (Cs.of_block ha1 (hg8.block _ ha1.lt (L9 (Ao0 how3 _) ha1).symm)) (Cs.of_block ha2 (hg8.block _ ha2.lt (L9 (Ao0 how3 _) ha2).symm)) hB8
     clear ha1 ha2
     clear hfx2 hm1 hm2 hB8 how3 hown8 hg8
     go_wp2
     go_roundw
     case rel=>exact⟨k+1,by omega,by simp,hL2⟩
     case measure=>simp only[Lib.intOf];omega
  ·have hke:k=S.length:=by omega
   subst hke
   obtain⟨hown,_,_,hB⟩:=hL
   rw[List.take_length]at hown
   have hgl:=ApN [] S
   have hgl2:(Aov [] S).length≤4000000:=by rw[List.length_nil]at hgl;omega
   have hf:=fun(d:List Aoc) (w':World)=>hfin u13 d w'
   clear hfin hrs hlenS hgl
   generalize Aov [] S=G at hown hgl2 hf
   have honce:True:=trivial
   go_wp2_with (go_at_call 36;have hx:=honce;clear hx honce;refine(Aq1 _ _ _ _ hown hgl2).mono ?_;rintro e w5 ⟨rfl,hg5,d',hp5,hs5,hown5⟩)
   go_ret2
   exact hf d' w5 (ApF hB3 (RI hB hown hg5 (Nat.le_refl _)) (Nat.le_refl _)) (ArE hown5 hB3.size) hp5 hs5
end Go.Proofs.Tryz
