/- similar.Score, walked: how often each line occurs, and what is common. -/
import Derived.Test.YtfkfmokccekccaaGreatDoorKKShelf
import Derived.Test.YtfkfmokccekccaaGreatDoorKKM
import Derived.Test.YtfkfmokccekccaaGreatDoorKSm1
import Derived.Test.YtfkfmokccekccaaGreatDoorFwD
import Derived.WalkSmall
import Derived.Deep.QuietTactic
import Derived.BigQuiet
import Derived.Laws.Cover1
import Derived.Maps.RangeWalk
set_option linter.unusedVariables false
set_option linter.unusedSimpArgs false
namespace Go.Proofs.Tryz
open Go.Shelf Go.RowKit Go.VS Go Go.Maps
structure Arx(w:World)(a:Option Addr)(l:List Bs):Prop where
 at_:∀(k:Nat) (s:Bs),l[k]?=some s→∃b off,a=some ⟨b,off,none⟩∧b<w.heap.size∧w.cell? ⟨b,off+k,none⟩=some (.string ⟨s.toArray⟩)
theorem Arx.below{w w':World}{a:Option Addr}{l:List Bs}(h:Arx w a l)(hb:Below w.heap.size w w'):Arx w' a l:=
 ⟨fun k s hs=>by
  obtain⟨b,off,h1,h2,h3⟩:=h.at_ k s hs
  exact⟨b,off,h1,Nat.lt_of_lt_of_le h2 hb.size,(hb.cell (p:=⟨b,off+k,none⟩) h2).trans h3⟩⟩
theorem Asw:∀(l:List Bs) {k:Nat} {s:Bs},l[k]?=some s→(l.map (BT.str.enc .leaf)).flatten[k]?=some (AV.lit (.string ⟨s.toArray⟩))
 |[],_,_,h=>nomatch h
 |t::l,0,s,h=>by
  obtain rfl:t=s:=by simpa using h
  rfl
 |t::l,k+1,s,h=>by
  show(AV.lit (.string ⟨t.toArray⟩)::(l.map (BT.str.enc .leaf)).flatten)[k+1]?=_
  rw[List.getElem?_cons_succ]
  exact Asw l (by simpa using h)
theorem AqN{C:Ctx}{w:World}{l:List Bs}{v:Value}{f:List Nat}(h:RV C w (.sl .own 1 (l.map (BT.str.enc .leaf))) v f):∃a c,v=.slice a l.length c∧Arx w a l:=by
 rcases Ar6 h with⟨hnil,a,c,hv⟩|⟨b,off,c,hv,hb,hc⟩
 ·have hnil:l=[]:=by simpa using hnil
  subst hnil
  exact⟨a,c,hv,⟨fun k s hk=>by simp at hk⟩⟩
 ·exact⟨some ⟨b,off,none⟩,c,by simpa using hv,⟨fun k s hk=>⟨b,off,rfl,hb,hc k _ (Asw l hk)⟩⟩⟩
def MI(w:World)(b n:Nat)(g:Bs→Option Int):Prop:=Cs prog 9 (Elt.int underlying3) w b n g
theorem Asy(w:World):(zeroValue 3).run prog w=.ok ((Elt.int (P:=prog) underlying3).val (0:Int)) w:=Tryz.zeroValue3 w
set_option maxHeartbeats 2000000 in
set_option maxRecDepth 1000000 in
theorem Aqn(l:List Bs)(hn:l.length≤4096)(hl:∀s∈l,s.length≤1048576)(a:Option Addr)(c:Nat)(w:World)(hv:Arx w a l):
  Calls prog 83 #[.slice a l.length c] w fun e w'=>e=.returned (.map (some w.heap.size))∧MI w' w.heap.size l.length (Apc l)∧Below w.heap.size w w':=by
 go_enter func83,ntmps83
 have hmk:(Instr.makeMap 120 none).run prog w=.ok (.map (some w.heap.size)) (w.alloc (.map #[] 0)):=rfl
 go_wp2
 have hM0:MI (w.alloc (.map #[] 0)) w.heap.size 0 (Apc (l.take 0)):=Cs.congr (Cs.made (Elt.int underlying3) w) fun k=>rfl
 have hB0:Below w.heap.size w (w.alloc (.map #[] 0)):=(Below.refl _ w).alloc (Nat.le_refl _) _
 generalize w.alloc (.map #[] 0)=w1 at hM0 hB0⊢
 go_loopw [9] (fun i wr=>∃k:Nat,k≤l.length∧i=.int .i64 k∧MI wr w.heap.size k (Apc (l.take k))∧Below w.heap.size w wr) (fun i _=>l.length -(Lib.intOf i).toNat)
 case atStart=>exact⟨0,Nat.zero_le _,rfl,hM0,hB0⟩
 case round=>
  obtain⟨k,hk,hi,hM,hB⟩:=hrel
  subst hi
  by_cases hks:k<l.length
  ·obtain⟨b,off,rfl,hb,q0⟩:=hv.at_ k l[k] (List.getElem?_eq_getElem hks)
   have c0:=(hB.cell (p:=⟨b,off+k,none⟩) hb).trans q0
   have hl1:=hl _ (List.getElem_mem hks)
   have hnx:∀s,Apc (l.take (k+1)) s=if s=l[k]then some (((((l.take k).count l[k]:Nat)):Int)+1)else Apc (l.take k) s:=fun s=>by
    rw[List.take_add_one,List.getElem?_eq_getElem hks]
    exact Arz (l.take k) l[k] s
   generalize l[k]=x at c0 hnx hl1
   have hlk:=Cs.Aoa hM underlying9 (t:=120) underlying120 (Asy wr) (by show(Lit.int .i64 0).wf=true;rfl) (k:=x) (by unfold maxLen;omega)
   rw[Apv]at hlk
   have hcn:(l.take k).count x≤4096:=Nat.le_trans List.count_le_length (by rw[List.length_take];omega)
   generalize(l.take k).count x=m at hlk hnx hcn
   have hlk2:(Instr.lookup 120 (.map (some w.heap.size)) (.string ⟨x.toArray⟩) false).run prog wr=.ok (.int .i64 (m:Int)) wr:=hlk
   clear hlk
   have hw1:IntKind.i64.wrap ((m:Int)+1)=(m:Int)+1:=w64 (by omega) (by omega)
   obtain⟨w3,hrun0,hM3,hg3⟩:=Cs.put hM underlying9 (t:=120) underlying120 (by unfold maxLen;omega) (k:=x) (by unfold maxLen;omega) (v:=(m:Int)+1) (by show(Lit.int .i64 ((m:Int)+1)).wf=true;simp[Lit.wf,IntKind.min,IntKind.max,IntKind.bits,IntKind.signed];omega)
   have hrun:(Instr.mapUpdate 120 (.map (some w.heap.size)) (.string ⟨x.toArray⟩) (.int .i64 ((m:Int)+1))).run prog wr=.ok () w3:=hrun0
   clear hrun0
   have hB3:Below w.heap.size w w3:=Us hB hg3 (Nat.le_refl _) (Nat.le_refl _)
   have hM3:=Cs.congr hM3 (g':=Apc (l.take (k+1))) fun s=>by rw[hnx];rfl
   clear hM hg3 q0 hnx
   go_wp2
   go_roundw
   case rel=>exact⟨k+1,by omega,by simp,hM3,hB3⟩
   case measure=>
    simp only[Lib.intOf]
    omega
  ·have hke:k=l.length:=by omega
   subst hke
   rw[List.take_length]at hM
   go_wp2
   go_ret
   exact⟨rfl,hM,hB⟩
theorem AsJ(a b:Bs):(ByteArray.toList ⟨a.toArray⟩==ByteArray.toList ⟨b.toArray⟩)=(a==b):=by rw[Lib.toList_data,Lib.toList_data]
theorem Aro{a:Bs}(h:B6 a=0):a.length≤1048576∧(lnF a).length≤4096:=by
 unfold B6 at h
 split at h
 ·cases h
 ·rename_i h1
  omega
theorem Asj{v:Value}{y:DataW Unit×List MemPlace}(h:plainElem prog 3 v=some y):∃a:Int,v=(Elt.int (P:=prog) underlying3).val a:=by
 obtain⟨c,rfl,_⟩:=plainElem_int_inv underlying3 h
 exact⟨c,rfl⟩
theorem Arn(hS:Ln (Pg.of prog)){a:Bs}(ha:a.length≤140737488351232)(hc:B6 a=0){w:World}(hw:Late (Pg.of prog) w):
  Calls prog 82 #[.string ⟨a.toArray⟩] w fun e w'=>∃p q,e=.returned (.tuple #[.slice p (lnF a).length q,.int .i64 0])∧Arx w' p (lnF a)∧Below w.heap.size w w':=by
 refine(Fn.ArW (fun _ h=>h) (ps:=[.val false .str .leaf]) (t:=.str) rfl (hS a ha) func82 (by kernel_rfl) hw).mono ?_
 rintro e w1 ⟨hB1,l1,c1,d1,hK,v1,C1,g1,rfl,hr1⟩
 have hK:(l1,c1)=if B6 a=0 then(lnF a,0)else([],1):=hK
 rw[if_pos hc]at hK
 cases hK
 obtain⟨p1,q1,rfl,hL1⟩:=AqN hr1
 exact⟨p1,q1,rfl,hL1,hB1⟩
theorem Asd(hS:Ln (Pg.of prog)){a:Bs}(ha:a.length≤140737488351232)(hc:¬B6 a=0){w:World}(hw:Late (Pg.of prog) w):
  Calls prog 82 #[.string ⟨a.toArray⟩] w fun e w'=>∃p q,e=.returned (.tuple #[.slice p 0 q,.int .i64 1])∧Below w.heap.size w w':=by
 refine(Fn.ArW (fun _ h=>h) (ps:=[.val false .str .leaf]) (t:=.str) rfl (hS a ha) func82 (by kernel_rfl) hw).mono ?_
 rintro e w1 ⟨hB1,l1,c1,d1,hK,v1,C1,g1,rfl,hr1⟩
 have hK:(l1,c1)=if B6 a=0 then(lnF a,0)else([],1):=hK
 rw[if_neg hc]at hK
 cases hK
 obtain⟨p1,q1,rfl,hL1⟩:=AqN hr1
 exact⟨p1,q1,rfl,hB1⟩
set_option maxHeartbeats 1000000 in
set_option maxRecDepth 1000000 in
theorem AqY(hS:Ln (Pg.of prog))(a b:Bs)(ha:a.length≤140737488351232)(hb:b.length≤140737488351232)(hmem:∀s∈lnF a,s.length≤a.length)(hmemb:∀s∈lnF b,s.length≤b.length)(w:World)(hw:Late (Pg.of prog) w):
  Calls prog 44 #[.string ⟨a.toArray⟩,.string ⟨b.toArray⟩] w fun e w'=>e=.returned (.tuple #[.int .i64 (Aor a b).1,.int .i64 (Aor a b).2])∧Below w.heap.size w w':=by
 generalize hRF:Aor a b=RF
 go_enter func44,ntmps44
 by_cases hca:B6 a=0
 ·have honce:True:=trivial
  go_wp2_with (go_at_call 82;have hx:=honce;clear hx honce;refine(Arn hS ha hca hw).mono ?_;rintro e w1 ⟨p1,q1,rfl,hL1,hB1⟩)
  by_cases hcb:B6 b=0
  ·by_cases hab:a=b
   ·obtain rfl:RF=(100,0):=by rw[←hRF];unfold Aor;rw[if_neg (by simp[hca]),if_neg (by simp[hcb]),if_pos hab]
    have hbe:(a==b)=true:=by simpa using hab
    have honce:True:=trivial
    go_wp2_with (go_at_call 82;have hx:=honce;clear hx honce;refine(Arn hS hb hcb (hw.of hB1)).mono ?_;rintro e w2 ⟨p2,q2,rfl,hL2,hB2⟩)
    go_ret2
    exact⟨rfl,hB1.trans (hB2.mono hB1.size)⟩
   ·have hbe:(a==b)=false:=by simpa using hab
    have hRF:RF=(if 99<AqT a b then 99 else AqT a b,0):=by rw[←hRF];unfold Aor;rw[if_neg (by simp[hca]),if_neg (by simp[hcb]),if_neg hab]
    obtain⟨a1,a2⟩:=Aro hca
    obtain⟨b1,b2⟩:=Aro hcb
    have honce:True:=trivial
    go_wp2_with (go_at_call 82;have hx:=honce;clear hx honce;refine(Arn hS hb hcb (hw.of hB1)).mono ?_;rintro e w2 ⟨p2,q2,rfl,hL2,hB2⟩)
    have hB02:=hB1.trans (hB2.mono hB1.size)
    have hL1:=hL1.below hB2
    have honce:True:=trivial
    go_wp2_with (go_at_call 83;have hx:=honce;clear hx honce;refine(Aqn (lnF b) b2 (fun s hs=>Nat.le_trans (hmemb s hs) b1) p2 q2 w2 hL2).mono ?_;rintro e w3 ⟨rfl,hMb,hB3⟩)
    have hB03:=hB02.trans (hB3.mono hB02.size)
    have hL1:=hL1.below hB3
    have honce:True:=trivial
    go_wp2_with (first|(go_at_call 83;have hx:=honce;clear hx honce;refine(Aqn (lnF a) a2 (fun s hs=>Nat.le_trans (hmem s hs) a1) p1 q1 w3 hL1).mono ?_;rintro e w4 ⟨rfl,hMa,hB4⟩)|(at_range;obtain⟨D,hown,hstart⟩:=AcQ.start hMa (xs:=ddF (lnF a)) (fun k=>by rw[Ao8];unfold Apc;split<;>simp_all) (fun k hk=>by have:=hmem k ((Ao8 _ _).1 hk);unfold maxLen;omega);refine wpList_range_own _ rfl _ 120 rfl 9 3 (string_keyed underlying9) underlying120 (plainElem prog 3) w3.heap.size (lnF a).length D rfl hown ?_;intro w5 hrg5 hg5 hs5)|go_in)
    go_frame
    have hB04:=hB03.trans (hB4.mono hB03.size)
    have hlt3:=hMb.lt
    have hlt4:=hMa.lt
    have hMb:=hMb.below hB4 hlt3
    have hst:=hstart hrg5
    have hB05:Below w.heap.size w w5:=Us hB04 (hg5.but (some w4.heap.size)) hB04.size (Nat.le_refl _)
    have hMb5:MI w5 w2.heap.size (lnF b).length (Apc (lnF b)):=hMb.of_block (hg5.block _ (Nat.lt_of_lt_of_le hlt3 hB4.size) (by simp))
    have hneR:w2.heap.size≠w4.heap.size:=by have:=hB4.size;omega
    have hRw:w.heap.size≤w4.heap.size:=hB04.size
    have hcb2:=Aqi (y:=lnF b) a2 (fun s hs=>Nat.le_trans (hmem s hs) a1)
    clear hown hrg5 hg5 hMb hMa hB4 hB3 hB2 hB1 hL1 hL2 hstart
    generalize w4.heap.size=R at*
    go_loopw [10] (fun c wr=>∃(C:Int) (xs:List Bs) (left:Lit→Bool) (cnt:Nat),c=.int .i64 C∧0≤C∧xs.Nodup∧xs.length≤4096∧(∀s∈xs,s.length≤1048576)∧C+AoM (lnF a) (lnF b) xs=AoX (lnF a) (lnF b)∧AcQ prog 9 (Elt.int underlying3) wr w3.heap.size R (lnF a).length (Apc (lnF a)) xs D left cnt∧MI wr w2.heap.size (lnF b).length (Apc (lnF b))∧Below w.heap.size w wr) (fun _ wr=>wr.rangeLeft w3.heap.size R)
    case atStart=>exact⟨0,ddF (lnF a),_,_,rfl,Int.le_refl _,Apq _,Nat.le_trans (Arb _) a2,fun s hs=>Nat.le_trans (hmem s ((Ao8 _ s).1 hs)) a1,Int.zero_add _,hst,hMb5,hB05⟩
    case round=>
     obtain⟨C,xs,left,cnt,hi,hC0,hnd,hxl,hxs,hsum,hR,hM,hB⟩:=hrel
     subst hi
     have hrg:=hR.1
     have hsb:=AoV (y:=lnF b) a2 hxs
     go_wp2_with (first|(at_next;refine wpList_next_ranges _ rfl _ rfl 9 (string_keyed underlying9) (plainElem prog 3) Value.string (Value.int .i64) (fun key kl h=>by obtain⟨s,rfl,_⟩:=Akt underlying9 h;exact⟨s,rfl⟩) (fun v y h=>by obtain⟨c,rfl,_⟩:=plainElem_int_inv underlying3 h;exact⟨c,rfl⟩) w3.heap.size R (lnF a).length D left cnt rfl hrg ?_ ?_)|go_in)
     ·intro hc0 hl0
      obtain rfl:=hR.done hl0
      have hCe:C=AoX (lnF a) (lnF b):=by rw[←hsum];exact(Int.add_zero C).symm
      have hmx:¬max ((a.length:Nat):Int) ((b.length:Nat):Int)=0:=fun h=>hab (by
       rw[List.length_eq_zero_iff.1 (show a.length=0 by omega),List.length_eq_zero_iff.1 (show b.length=0 by omega)])
      go_wp2
      go_ret2
      refine⟨?_,hB⟩
      have hmxe:ApL a b=max ((a.length:Nat):Int) ((b.length:Nat):Int):=by unfold ApL;split<;>omega
      have hrat:AqT a b=100*AoX (lnF a) (lnF b)/max ((a.length:Nat):Int) ((b.length:Nat):Int):=by unfold AqT;rw[hmxe,Int.tdiv_eq_ediv_of_nonneg (by omega)]
      rw[hRF,hrat]
      show Ending.returned (Value.tuple #[.int .i64 (min (100*AoX (lnF a) (lnF b)/max ((a.length:Nat):Int) ((b.length:Nat):Int)) 99),.int .i64 0])=Ending.returned (Value.tuple #[.int .i64 (if 99<100*AoX (lnF a) (lnF b)/max ((a.length:Nat):Int) ((b.length:Nat):Int)then 99 else 100*AoX (lnF a) (lnF b)/max ((a.length:Nat):Int) ((b.length:Nat):Int)),.int .i64 0])
      generalize 100*AoX (lnF a) (lnF b)/max ((a.length:Nat):Int) ((b.length:Nat):Int)=z
      rw[show min z 99=if 99<z then 99 else z by split<;>omega]
     ·intro x v kl y1 y2 w6 cnt6 hkey hlk hRv hat hrg6 hlt6 hgr6 hsz6 hen
      obtain⟨k,m,hkx,hkin,hkl,hgk,hv,hR6⟩:=AcQ.step hR underlying9 hnd hkey hlk hRv hat hrg6 (fun a z h=>by have:=plainElem_int_inv underlying3 h;obtain⟨c,hc,hz,_⟩:=this;cases hc;rw[hz];rfl) (fun v y h=>Asj h) (fun a c h=>by cases h;rfl)
      cases hkx
      obtain rfl:v=m:=by cases hv;rfl
      clear hv
      have hvc:=Apv (lnF a) k
      rw[hgk]at hvc
      have hvc:v=(((lnF a).count k:Nat):Int):=hvc
      have hM6:MI w6 w2.heap.size (lnF b).length (Apc (lnF b)):=hM.of_block (hgr6.block _ hM.lt (by simpa using hneR))
      have hlk0:=Cs.Aoa hM6 underlying9 (t:=120) underlying120 (Asy w6) (by show(Lit.int .i64 0).wf=true;rfl) (k:=k) hkl
      rw[Apv]at hlk0
      have hlk2:(Instr.lookup 120 (.map (some w2.heap.size)) (.string ⟨k.toArray⟩) false).run prog w6=.ok (.int .i64 (((lnF b).count k:Nat):Int)) w6:=hlk0
      clear hlk0
      have hse:=ApD (lnF a) (lnF b) hkin
      have htb:=Api (y:=lnF b) a2 (hxs k hkin)
      have hsb6:=AoV (y:=lnF b) a2 (l:=xs.erase k) fun s hs=>hxs s (List.mem_of_mem_erase hs)
      have htf:Apg (lnF a) (lnF b) k=min v (((lnF b).count k:Nat):Int)*((k.length:Nat):Int):=by
       unfold Apg
       rw[hvc]
       congr 1
       split<;>omega
      have hB6:Below w.heap.size w w6:=Us hB hgr6 hRw (Nat.le_refl _)
      generalize(lnF b).count k=n at hlk2 htf
      rw[htf]at hse htb
      subst hvc
      have hsz:ByteArray.size ⟨k.toArray⟩=k.length:=by simp[ByteArray.size]
      generalize hq:min (((lnF a).count k:Nat):Int) (n:Int)*((k.length:Nat):Int)=q at hse htb
      have hw1:IntKind.i64.wrap q=q:=w64 (by omega) (by omega)
      have hw2:IntKind.i64.wrap (C+q)=C+q:=w64 (by omega) (by omega)
      go_wp2
      refine⟨⟨C+q,xs.erase k,_,cnt6,?_,by omega,hnd.erase _,?_,fun s hs=>hxs s (List.mem_of_mem_erase hs),by omega,hR6,hM6,hB6⟩,?_⟩
      ·rfl
      ·exact Nat.le_trans (List.Sublist.length_le List.erase_sublist) hxl
      ·rw[hR6.1.left_eq,hrg.left_eq]
       exact hlt6
  ·obtain rfl:RF=(0,1):=by rw[←hRF];unfold Aor;rw[if_neg (by simp[hca]),if_pos hcb]
   have honce:True:=trivial
   go_wp2_with (go_at_call 82;have hx:=honce;clear hx honce;refine(Asd hS hb hcb (hw.of hB1)).mono ?_;rintro e w2 ⟨p2,q2,rfl,hB2⟩)
   go_ret2
   exact⟨rfl,hB1.trans (hB2.mono hB1.size)⟩
 ·obtain rfl:RF=(0,1):=by rw[←hRF];unfold Aor;rw[if_pos hca]
  have honce:True:=trivial
  go_wp2_with (go_at_call 82;have hx:=honce;clear hx honce;refine(Asd hS ha hca hw).mono ?_;rintro e w1 ⟨p1,q1,rfl,hB1⟩)
  go_ret2
  exact⟨rfl,hB1⟩
theorem Ar7(hS:Ln (Pg.of prog)):AoR (Pg.of prog):=by
 rintro⟨a,b⟩ ha hb
 refine Fn.Sa (S:=Aof) rfl rfl (a,b) (Aor a b) () rfl fun f fn hf hn=>?_
 have hfi:f=44:=FK (by kernel_rfl) hf hn
 subst hfi
 have hfe:=Option.some.inj (hf.symm.trans func44)
 subst hfe
 exact⟨by kernel_rfl,by kernel_rfl,fun w hw=>AqY hS a b ha hb (fun s hs=>AkF hs) (fun s hs=>AkF hs) w hw⟩
end Go.Proofs.Tryz
