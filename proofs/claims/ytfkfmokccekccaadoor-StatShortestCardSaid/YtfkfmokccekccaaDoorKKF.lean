/- stat.Format, walked. -/
import Derived.Test.YtfkfmokccekccaaDoorKKQ
import Derived.Test.YtfkfmokccekccaaDoorKKP
import Derived.Test.YtfkfmokccekccaaDoorKKG
import Derived.Test.YtfkfmokccekccaaDoorKSm0
import Derived.Test.YtfkfmokccekccaaDoorFwD
import Derived.Deep.RegionHeld3
import Derived.WalkSmall
set_option linter.unusedVariables false
set_option linter.unusedSimpArgs false
namespace Go.Proofs.Tryd
open Go.Shelf Go.RowKit Go.VS
structure YS(w:World)(a:Option Addr)(l:List Go.VS.Stat):Prop where
 at_:∀(k:Nat) (s:Go.VS.Stat),l[k]?=some s→∃b off,a=some ⟨b,off,none⟩∧b<w.heap.size∧w.cell? ⟨b,off+k*3,none⟩=some ((Value.string ⟨(s.1:Bs).toArray⟩))∧w.cell? ⟨b,off+k*3+1,none⟩=some (.int .i64 s.2.1)∧w.cell? ⟨b,off+k*3+2,none⟩=some (.int .i64 s.2.2)
theorem U2(hB:Lg (Pg.of prog))(a r m wd:Int)(hok:MA a r m wd)(w:World)(hw:Late (Pg.of prog) w):
  Calls prog 46 #[.int .i64 a,.int .i64 r,.int .i64 m,.int .i64 wd] w fun e w'=>e=.returned (.tuple #[.int .i64 (D3 a r m wd).1,.int .i64 (D3 a r m wd).2])∧Below w.heap.size w w':=by
 refine(Fn.WA (fun _ h=>h) (S:=CI) rfl rfl (hB (a,(r,(m,wd))) hok) func46 (by kernel_rfl) hw).mono ?_
 rintro e w' ⟨r,d,hr,he,hb⟩
 cases hr
 exact⟨he,hb⟩
theorem Iw(hF:GD (Pg.of prog))(n:Int)(w:World)(hw:Late (Pg.of prog) w):
  Calls prog 50 #[.int .i64 n] w fun e w'=>e=.returned ((Value.string ⟨((FJ n):Bs).toArray⟩))∧Below w.heap.size w w':=by
 refine(Fn.WA (fun _ h=>h) (S:=Cm) rfl rfl (hF n) func50 (by kernel_rfl) hw).mono ?_
 rintro e w' ⟨r,d,hr,he,hb⟩
 cases hr
 exact⟨he,hb⟩
theorem Pv(c:UInt8)(n:Int)(h0:0≤n)(h1:n≤1000)(w:World):
  Calls prog 51 #[(Value.string ⟨([c]:Bs).toArray⟩),.int .i64 n] w fun e w'=>e=.returned ((Value.string ⟨((List.replicate n.toNat c):Bs).toArray⟩))∧Below w.heap.size w w':=by
 obtain⟨k,rfl⟩:∃k:Nat,n=k:=⟨n.toNat,by omega⟩
 refine(Tryd.strings_Repeat ⟨#[c]⟩ k w (by omega) (by show 1*k≤_;omega)).mono ?_
 rintro e w' ⟨rfl,hb⟩
 refine⟨?_,hb⟩
 have:Lib.repeatL [c] k=List.replicate k c:=by
  clear hb h0 h1
  induction k with
  |zero=>rfl
  |succ k ih=>rw[Lib.repeatL,ih,List.replicate_succ];rfl
 show Ending.returned (.string ⟨(Lib.repeatL [c] k).toArray⟩)=_
 rw[this]
 rfl
theorem VC(hEsc:Dj (Pg.of prog))(s:Bs)(hs:s.length≤60)(w:World)(hw:Late (Pg.of prog) w):
  Calls prog 49 #[(Value.string ⟨(s:Bs).toArray⟩)] w fun e w'=>e=.returned ((Value.string ⟨((DV s):Bs).toArray⟩))∧Below w.heap.size w w':=
 Me hEsc ⟨s.toArray⟩ (by simp[ByteArray.size];omega) w hw
theorem Dx(x y z:Bs)(hz:z=x++y)(hx:x.length≤100000)(hy:y.length≤100000):∀w:World,(Op.stringOp .add ⟨x.toArray⟩ ⟨y.toArray⟩).run prog w=.ok (.string ⟨z.toArray⟩) w:=fun w=>by
 rw[hz]
 exact run_string_add_lists w x y (by omega) (by omega)
theorem Ys{T e:TypeId}{B b:Nat}{bs:List Value}{wr w:World}(h:Lib.IsBuilder T e B b bs wr)(hk:Below wr.heap.size wr w){k:Nat}(hk2:wr.heap.size≤k):∀v,w.cell? ⟨b,1,none⟩=some v→v.ownBlock≠some k:=by
 intro v hv hb
 have hlt:∀{p:Value},Lib.BuilderAt T e B b p bs wr→False:=fun{p} ⟨hB,v',hbk,hown,hne⟩=>by
  have hbl:b<wr.heap.size:=by
   rcases Nat.lt_or_ge b wr.heap.size with h|h
   ·exact h
   ·rw[Array.getElem?_eq_none h]at hbk;cases hbk
  have hc:w.cell? ⟨b,1,none⟩=some v':=by
   have:=(hk.block b hbl).trans hbk
   simp[World.cell?,this]
  rw[hc]at hv
  cases hv
  have:=(hown.lt k hb).2
  omega
 rcases h with h|h
 ·exact hlt h
 ·exact hlt h
theorem OT{M wd:Int}:∀{l:List Go.VS.Stat},(∀s∈l,(FW M wd s).length≤3000)→(l.flatMap (FW M wd)).length≤3000*l.length
 |[],_=>by simp
 |s::l,h=>by
  have h1:=h s (by simp)
  have h2:=OT (l:=l) fun t ht=>h t (by simp[ht])
  rw[List.flatMap_cons,List.length_append,List.length_cons]
  omega
theorem Q6:∀(l:List Go.VS.Stat) {k:Nat} {s:Go.VS.Stat},l[k]?=some s→∀{j:Nat},j<3→(l.map (Hw.enc .leaf)).flatten[k*3+j]?=[AV.lit (.string ⟨s.1.toArray⟩),AV.lit (.int .i64 s.2.1),AV.lit (.int .i64 s.2.2)][j]?
 |[],_,_,h,_,_=>nomatch h
 |t::l,0,s,h,j,hj=>by
  obtain rfl:t=s:=by simpa using h
  show([AV.lit (.string ⟨t.1.toArray⟩),AV.lit (.int .i64 t.2.1),AV.lit (.int .i64 t.2.2)]++(l.map (Hw.enc .leaf)).flatten)[0*3+j]?=_
  rw[List.getElem?_append_left (by simp;omega)]
  simp
 |t::l,k+1,s,h,j,hj=>by
  show([AV.lit (.string ⟨t.1.toArray⟩),AV.lit (.int .i64 t.2.1),AV.lit (.int .i64 t.2.2)]++(l.map (Hw.enc .leaf)).flatten)[(k+1)*3+j]?=_
  rw[List.getElem?_append_right (by simp;omega)]
  have:=Q6 l (k:=k) (s:=s) (by simpa using h) hj
  rw[←this]
  congr 1
  simp only[List.length_cons,List.length_nil]
  omega
theorem Zb{wr W2:World}{s:Bs}{x y:Int}(b2:Below (wr.alloc (Obj.cells #[.string ⟨s.toArray⟩,.int .i64 x,.int .i64 y] 73)).heap.size (wr.alloc (Obj.cells #[.string ⟨s.toArray⟩,.int .i64 x,.int .i64 y] 73)) W2):
  wr.heap.size<W2.heap.size∧Below wr.heap.size wr W2∧W2.cell? ⟨wr.heap.size,0,none⟩=some (.string ⟨s.toArray⟩)∧W2.cell? ⟨wr.heap.size,1,none⟩=some (.int .i64 x)∧W2.cell? ⟨wr.heap.size,2,none⟩=some (.int .i64 y):=by
 have hs:(wr.alloc (Obj.cells #[.string ⟨s.toArray⟩,.int .i64 x,.int .i64 y] 73)).heap.size=wr.heap.size+1:=by simp only[World.alloc,Array.size_push]
 have hb:(wr.alloc (Obj.cells #[.string ⟨s.toArray⟩,.int .i64 x,.int .i64 y] 73)).heap[wr.heap.size]?=some (Obj.cells #[.string ⟨s.toArray⟩,.int .i64 x,.int .i64 y] 73 (0,0)):=by
  simp only[World.alloc]
  rw[Array.getElem?_push,if_pos rfl]
 have h2:=(b2.block wr.heap.size (by omega)).trans hb
 have hsz:=b2.size
 refine⟨by omega,((Below.refl _ wr).alloc (Nat.le_refl _) _).trans (b2.mono (by omega)),?_,?_,?_⟩<;>simp[World.cell?,h2]
set_option maxHeartbeats 4000000 in
set_option maxRecDepth 1000000 in
theorem Xy(hEsc:Dj (Pg.of prog))(hB:Lg (Pg.of prog))(hF:GD (Pg.of prog))(l:List Go.VS.Stat)(hl:Few l)(wd:Int)(a:Option Addr)(c:Nat)(w:World)(hw:Late (Pg.of prog) w)(hv:YS w a l)
  (htot:∀w',Below w.heap.size w w'→Calls prog 47 #[.slice a l.length c] w' fun e w''=>e=.returned (.tuple #[.int .i64 (Hr l).1,.int .i64 (Hr l).2.1,.int .i64 (Hr l).2.2.1,.bool (Hr l).2.2.2])∧Below w'.heap.size w' w''):
  Calls prog 28 #[.slice a l.length c,.int .i64 wd] w fun e w'=>e=.returned (.tuple #[(Value.string ⟨((sfF l wd).1:Bs).toArray⟩),.int .i64 (sfF l wd).2])∧Below w.heap.size w w':=by
 have hsf:sfF l wd=if(Hr l).2.2.2=false∨wd<2∨wd>1000 then([],3)else(l.flatMap (FW (Hr l).2.2.1 wd)++PX l.length (Hr l).1 (Hr l).2.1,0):=rfl
 generalize htt:Hr l=T at*
 obtain⟨A,R,M,ok⟩:=T
 dsimp only at hsf htot
 have h0:=htot w (Below.refl _ w)
 go_enter func28,ntmps28
 cases ok with
 |false=>
  have e1:sfF l wd=([],3):=by rw[hsf,if_pos (Or.inl rfl)]
  rw[e1]
  clear hsf
  go_wp2_with (go_at_call 47;refine h0.mono ?_;rintro e w1 ⟨rfl,b1⟩)
  go_ret2
  exact⟨rfl,b1⟩
 |true=>
  by_cases hw2:wd<2
  ·have e1:sfF l wd=([],3):=by rw[hsf,if_pos (Or.inr (Or.inl hw2))]
   rw[e1]
   clear hsf
   go_wp2_with (go_at_call 47;refine h0.mono ?_;rintro e w1 ⟨rfl,b1⟩)
   go_ret2
   exact⟨rfl,b1⟩
  by_cases hw3:wd>1000
  ·have e1:sfF l wd=([],3):=by rw[hsf,if_pos (Or.inr (Or.inr hw3))]
   rw[e1]
   clear hsf
   go_wp2_with (go_at_call 47;refine h0.mono ?_;rintro e w1 ⟨rfl,b1⟩)
   go_ret2
   exact⟨rfl,b1⟩
  rw[show sfF l wd=(l.flatMap (FW M wd)++PX l.length A R,0)by rw[hsf,if_neg (by simp;omega)]]
  clear hsf
  have htok:=UR (l:=l) (a:=0) (r:=0) (m:=0) (by rw[show Hs l 0 0 0=_ from htt]) (by decide) (by decide) (by decide) (by decide) (by decide)
  rw[show Hs l 0 0 0=_ from htt]at htok
  dsimp only at htok
  obtain⟨tA,tR,tAR,tM0,tM1,tS⟩:=htok
  have hfl:∀n:Nat,((l.take n).flatMap (FW M wd)).length≤24000:=fun n=>by
   have h1:=OT (M:=M) (wd:=wd) (l:=l.take n) fun s hs=>by
    have hs:=List.mem_of_mem_take hs
    obtain⟨s1,s2,s3⟩:=tS s hs
    exact XF s1 s2 s3 (by omega) (by omega) (hl.2 s hs)
   have h2:(l.take n).length≤8:=by rw[List.length_take];have:=hl.1;omega
   omega
  go_wp2_with (go_at_call 47;refine h0.mono ?_;rintro e w1 ⟨rfl,b1⟩)
  go_loopw [34] (fun i wr=>∃k:Nat,k≤l.length∧i=.int .i64 k∧Lib.IsBuilder 101 5 w1.heap.size w1.heap.size (Lib.byteCells ((l.take k).flatMap (FW M wd))) wr∧Below w1.heap.size w1 wr) (fun i _=>l.length -(Lib.intOf i).toNat)
  case atStart=>
   exact⟨0,by omega,rfl,Lib.fresh_isBuilder 101 5 w1,(Below.refl _ w1).alloc (Nat.le_refl _) _⟩
  case round=>
   obtain⟨k,hk,hi,hI,hbw⟩:=hrel
   subst hi
   have hsz:w1.heap.size≤wr.heap.size:=hbw.size
   have hwsz:w.heap.size≤w1.heap.size:=b1.size
   have hbwr:Below w.heap.size w wr:=b1.trans (hbw.mono hwsz)
   have hlate:Late (Pg.of prog) wr:=hw.of hbwr
   by_cases hks:k<l.length
   ·obtain⟨b,off,rfl,hb,q0,q1,q2⟩:=hv.at_ k l[k] (List.getElem?_eq_getElem hks)
    have c0:=(hbwr.cell (p:=⟨b,off+k*3,none⟩) hb).trans q0
    have c1:=(hbwr.cell (p:=⟨b,off+k*3+1,none⟩) hb).trans q1
    have c2:=(hbwr.cell (p:=⟨b,off+k*3+2,none⟩) hb).trans q2
    generalize hs:l[k]=s at c0 c1 c2
    obtain⟨p,sa,sr⟩:=s
    have hmem:(p,(sa,sr))∈l:=hs▸List.getElem_mem hks
    obtain⟨s1,s2,s3⟩:=tS _ hmem
    have sp:=hl.2 _ hmem
    dsimp only at c0 c1 c2 s1 s2 s3 sp
    have hok:MA sa sr M wd:=⟨by omega,by omega,s1,s2,tM1,s3⟩
    go_wp2_with (go_at_call 46;refine(U2 hB sa sr M wd hok _ (hlate.of ?lt)).mono ?_)
    case lt=>exact(((Below.refl _ wr).alloc (Nat.le_refl _) _))
    rintro e W2 ⟨rfl,b2⟩
    obtain⟨hB2,bb,d0,d1,d2⟩:=Zb b2
    have hI2:Lib.IsBuilder 101 5 w1.heap.size w1.heap.size (Lib.byteCells ((l.take k).flatMap (FW M wd))) W2:=hI.imp (fun h=>BQ h bb) (fun h=>BQ h bb)
    have hI0:=hI
    have hnb:wr.heap.size≠w1.heap.size:=by
     rcases hI with h|h
     ·have:=h.lt;omega
     ·have:=h.lt;omega
    clear c0 c1 c2 b2 hI
    have bb:Below wr.heap.size wr W2.drew:=bb.drew
    have hI2:=hI2.imp (fun h=>BQ h (Below.refl _ W2).drew) (fun h=>BQ h (Below.refl _ W2).drew)
    have hB2:wr.heap.size<W2.drew.heap.size:=hB2
    have hq:=Ps p
    have hfl':=hfl
    have hfl:=Kf (sa+sr)
    have hbr:=QP s1 s2 s3 (by omega:2≤wd) (by omega:wd≤1000)
    have hwrap:IntKind.i64.wrap (sa+sr)=sa+sr:=w64 (by omega) (by omega)
    have hquo:=fun(w:World) (hw:Late (Pg.of prog) w)=>VC hEsc p sp w hw
    have hfmt:=fun(w:World) (hw:Late (Pg.of prog) w)=>Iw hF (sa+sr) w hw
    have hr1:=fun(w:World)=>Pv 43 (D3 sa sr M wd).1 hbr.1 hbr.2.1 w
    have hr2:=fun(w:World)=>Pv 45 (D3 sa sr M wd).2 hbr.2.2.1 hbr.2.2.2 w
    have hline:FW M wd (p,(sa,sr))=((((((([32]:Bs)++DV p)++[32,124,32])++FJ (sa+sr))++[32])++List.replicate (D3 sa sr M wd).1.toNat 43)++List.replicate (D3 sa sr M wd).2.toNat 45)++[10]:=rfl
    have l1:(List.replicate (D3 sa sr M wd).1.toNat (43:UInt8)).length≤1000:=by rw[List.length_replicate];omega
    have l2:(List.replicate (D3 sa sr M wd).2.toNat (45:UInt8)).length≤1000:=by rw[List.length_replicate];omega
    generalize D3 sa sr M wd=BR at*
    obtain⟨br1,br2⟩:=BR
    dsimp only at*
    generalize DV p=Q at*
    generalize FJ (sa+sr)=F at*
    generalize List.replicate br1.toNat (43:UInt8)=R1 at*
    generalize List.replicate br2.toNat (45:UInt8)=R2 at*
    obtain⟨S1,hS1⟩:∃S:Bs,S=[32]++Q:=⟨_,rfl⟩
    obtain⟨S2,hS2⟩:∃S:Bs,S=S1++[32,124,32]:=⟨_,rfl⟩
    obtain⟨S3,hS3⟩:∃S:Bs,S=S2++F:=⟨_,rfl⟩
    obtain⟨S4,hS4⟩:∃S:Bs,S=S3++[32]:=⟨_,rfl⟩
    obtain⟨S5,hS5⟩:∃S:Bs,S=S4++R1:=⟨_,rfl⟩
    obtain⟨S6,hS6⟩:∃S:Bs,S=S5++R2:=⟨_,rfl⟩
    obtain⟨S7,hS7⟩:∃S:Bs,S=S6++[10]:=⟨_,rfl⟩
    have k1:S1.length≤400:=by rw[hS1,List.length_append];simp only[List.length_cons,List.length_nil];omega
    have k2:S2.length≤403:=by rw[hS2,List.length_append];simp only[List.length_cons,List.length_nil];omega
    have k3:S3.length≤413:=by rw[hS3,List.length_append];omega
    have k4:S4.length≤414:=by rw[hS4,List.length_append];simp only[List.length_cons,List.length_nil];omega
    have k5:S5.length≤1414:=by rw[hS5,List.length_append];omega
    have k6:S6.length≤2414:=by rw[hS6,List.length_append];omega
    have k7:S7.length≤2415:=by rw[hS7,List.length_append];simp only[List.length_cons,List.length_nil];omega
    have e1:=Dx [32] Q S1 hS1 (by decide) (by omega)
    have e2:=Dx S1 [32,124,32] S2 hS2 (by omega) (by decide)
    have e3:=Dx S2 F S3 hS3 (by omega) (by omega)
    have e4:=Dx S3 [32] S4 hS4 (by omega) (by decide)
    have e5:=Dx S4 R1 S5 hS5 (by omega) (by omega)
    have e6:=Dx S5 R2 S6 hS6 (by omega) (by omega)
    have e7:=Dx S6 [10] S7 hS7 (by omega) (by decide)
    have hline:FW M wd (p,(sa,sr))=S7:=by rw[hline,←hS1,←hS2,←hS3,←hS4,←hS5,←hS6,←hS7]
    have hl8:=hl.1
    have hk8:(k:Int)+1≤9:=by omega
    clear hS1 hS2 hS3 hS4 hS5 hS6 hS7 l1 l2 hq hfl k1 k2 k3 k4 k5 k6 tS hv hl
    have hlw:(Lib.byteCells ((l.take k).flatMap (FW M wd))).length+ByteArray.size ⟨S7.toArray⟩≤140737488355328:=by
     rw[Lib.byteCells_length]
     have h1:=hfl' k
     have h2:ByteArray.size ⟨S7.toArray⟩=S7.length:=rfl
     omega
    have hnext:Lib.byteCells ((l.take k).flatMap (FW M wd))++Lib.strCells ⟨S7.toArray⟩=Lib.byteCells ((l.take (k+1)).flatMap (FW M wd)):=by
     rw[List.take_add_one,List.getElem?_eq_getElem hks,hs,Option.toList_some,List.flatMap_append,List.flatMap_cons,List.flatMap_nil,List.append_nil,hline,Lib.byteCells_append]
     rfl
    have hbl:((Lib.byteCells ((l.take (k+1)).flatMap (FW M wd))).length:Int)≤16777216:=by
     rw[Lib.byteCells_length]
     have h1:=hfl' (k+1)
     omega
    go_wp2_with fail
    go_region_held3 (fun w'=>w'.cell? ⟨wr.heap.size,0,none⟩=some (.string ⟨p.toArray⟩)∧w'.cell? ⟨wr.heap.size,1,none⟩=some (.int .i64 sa)∧w'.cell? ⟨wr.heap.size,2,none⟩=some (.int .i64 sr))
     ((go_split_ands;refine⟨?_,?_,?_⟩<;>first|assumption|(rw[b3.cell hBo];assumption)|(rw[World.cell?_of_block fr4];assumption)))
     (first
      |(go_at_call 49;refine(hquo _ (hlate.of bb)).mono ?_;rintro e W3 ⟨rfl,b3⟩;have hBo:=hB2;have hB2:=Nat.lt_of_lt_of_le hBo b3.size;have bb:=bb.trans (b3.mono (Nat.le_of_lt hBo));have hI2:=hI2.imp (fun h=>BQ h b3) (fun h=>BQ h b3))
      |(go_at_call 50;refine(hfmt _ (hlate.of bb)).mono ?_;rintro e W3 ⟨rfl,b3⟩;have hBo:=hB2;have hB2:=Nat.lt_of_lt_of_le hBo b3.size;have bb:=bb.trans (b3.mono (Nat.le_of_lt hBo));have hI2:=hI2.imp (fun h=>BQ h b3) (fun h=>BQ h b3))
      |(go_at_call 51;refine(hr1 _).mono ?_;clear hr1;rintro e W3 ⟨rfl,b3⟩;have hBo:=hB2;have hB2:=Nat.lt_of_lt_of_le hBo b3.size;have bb:=bb.trans (b3.mono (Nat.le_of_lt hBo));have hI2:=hI2.imp (fun h=>BQ h b3) (fun h=>BQ h b3))
      |(go_at_call 51;refine(hr2 _).mono ?_;rintro e W3 ⟨rfl,b3⟩;have hBo:=hB2;have hB2:=Nat.lt_of_lt_of_le hBo b3.size;have bb:=bb.trans (b3.mono (Nat.le_of_lt hBo));have hI2:=hI2.imp (fun h=>BQ h b3) (fun h=>BQ h b3))
      |(go_at_call 48;refine(Tv hI2 hlw (Nat.le_trans hsz bb.size)).mono ?_;rintro e W4 ⟨rfl,h4,b4,fr4⟩;have fr4:=fr4 _ hB2 hnb (Ys hI0 bb (Nat.le_refl _))))
    rw[hnext]at h4
    generalize hBS:Lib.byteCells ((l.take (k+1)).flatMap (FW M wd))=BS at h4 hbl
    go_wp2_with (go_at_call 52;refine(Tryd.Builder_Len _ _ _ _ (Or.inr h4)).mono ?_;rintro e w' ⟨rfl,rfl⟩)
    go_roundw
    case rel=>
     refine⟨k+1,by omega,by simp,Or.inr ?_,(hbw.trans (bb.mono hsz)).trans b4⟩
     rw[hBS]
     exact h4
    case measure=>
     simp only[Lib.intOf]
     omega
   ·have hke:k=l.length:=by omega
    subst hke
    rw[List.take_length]at hI
    have hflat:=hfl l.length
    rw[List.take_length]at hflat
    have hend0:PX l.length A R=(((((([32]:Bs)++FJ l.length)++[32,102,105,108,101,115,44,32])++FJ A)++[32,97,100,100,101,100,44,32])++FJ R)++[32,114,101,109,111,118,101,100,10]:=rfl
    have f1:=Kf l.length
    have f2:=Kf A
    have f3:=Kf R
    have g1:=fun(w:World) (hw:Late (Pg.of prog) w)=>Iw hF l.length w hw
    have g2:=fun(w:World) (hw:Late (Pg.of prog) w)=>Iw hF A w hw
    have g3:=fun(w:World) (hw:Late (Pg.of prog) w)=>Iw hF R w hw
    generalize FJ l.length=F1 at hend0 f1 g1
    generalize FJ A=F2 at hend0 f2 g2
    generalize FJ R=F3 at hend0 f3 g3
    obtain⟨S1,hS1⟩:∃S:Bs,S=[32]++F1:=⟨_,rfl⟩
    obtain⟨S2,hS2⟩:∃S:Bs,S=S1++[32,102,105,108,101,115,44,32]:=⟨_,rfl⟩
    obtain⟨S3,hS3⟩:∃S:Bs,S=S2++F2:=⟨_,rfl⟩
    obtain⟨S4,hS4⟩:∃S:Bs,S=S3++[32,97,100,100,101,100,44,32]:=⟨_,rfl⟩
    obtain⟨S5,hS5⟩:∃S:Bs,S=S4++F3:=⟨_,rfl⟩
    obtain⟨S6,hS6⟩:∃S:Bs,S=S5++[32,114,101,109,111,118,101,100,10]:=⟨_,rfl⟩
    have k1:S1.length≤11:=by rw[hS1,List.length_append];simp only[List.length_cons,List.length_nil];omega
    have k2:S2.length≤19:=by rw[hS2,List.length_append];simp only[List.length_cons,List.length_nil];omega
    have k3:S3.length≤29:=by rw[hS3,List.length_append];omega
    have k4:S4.length≤37:=by rw[hS4,List.length_append];simp only[List.length_cons,List.length_nil];omega
    have k5:S5.length≤47:=by rw[hS5,List.length_append];omega
    have k6:S6.length≤56:=by rw[hS6,List.length_append];simp only[List.length_cons,List.length_nil];omega
    have e1:=Dx [32] F1 S1 hS1 (by decide) (by omega)
    have e2:=Dx S1 [32,102,105,108,101,115,44,32] S2 hS2 (by omega) (by decide)
    have e3:=Dx S2 F2 S3 hS3 (by omega) (by omega)
    have e4:=Dx S3 [32,97,100,100,101,100,44,32] S4 hS4 (by omega) (by decide)
    have e5:=Dx S4 F3 S5 hS5 (by omega) (by omega)
    have e6:=Dx S5 [32,114,101,109,111,118,101,100,10] S6 hS6 (by omega) (by decide)
    have hend:PX l.length A R=S6:=by rw[hend0,←hS1,←hS2,←hS3,←hS4,←hS5,←hS6]
    have hlw:(Lib.byteCells (l.flatMap (FW M wd))).length+ByteArray.size ⟨S6.toArray⟩≤140737488355328:=by
     rw[Lib.byteCells_length]
     have h2:ByteArray.size ⟨S6.toArray⟩=S6.length:=rfl
     omega
    have hnext:Lib.byteCells (l.flatMap (FW M wd))++Lib.strCells ⟨S6.toArray⟩=Lib.byteCells (l.flatMap (FW M wd)++PX l.length A R):=by
     rw[hend,Lib.byteCells_append]
     rfl
    have hbl:((Lib.byteCells (l.flatMap (FW M wd)++PX l.length A R)).length:Int)≤16777216:=by
     rw[Lib.byteCells_length,List.length_append,hend]
     omega
    generalize hEN:PX l.length A R=EN at*
    generalize hLI:l.flatMap (FW M wd)=LI at*
    clear hend0 hS1 hS2 hS3 hS4 hS5 hS6 f1 f2 f3 k1 k2 k3 k4 k5 k6 tS hv hend
    go_wp2_with (go_at_call 50;refine(g1 _ hlate).mono ?_)
    rintro e W1 ⟨rfl,b3⟩
    have bb:Below wr.heap.size wr W1:=b3
    go_wp2_with (go_at_call 50;refine(g2 _ (hlate.of bb)).mono ?_)
    rintro e W2 ⟨rfl,b4⟩
    have bb:=bb.trans (b4.mono b3.size)
    go_wp2_with (go_at_call 50;refine(g3 _ (hlate.of bb)).mono ?_)
    rintro e W3 ⟨rfl,b5⟩
    have bb:Below wr.heap.size wr W3:=bb.trans (b5.mono (Nat.le_trans b3.size b4.size))
    have hI3:=hI.imp (fun h=>BQ h bb) (fun h=>BQ h bb)
    have hsz3:w1.heap.size≤W3.heap.size:=Nat.le_trans hsz bb.size
    go_wp2_with (go_at_call 48;refine(Po hI3 hlw hsz3).mono ?_)
    rintro e W4 ⟨rfl,h4,b6⟩
    rw[hnext]at h4
    have bw4:Below w1.heap.size w1 W4:=(hbw.trans (bb.mono hsz)).trans b6
    have h5:=h4
    generalize hBS:Lib.byteCells (LI++EN)=BS at h4 hbl
    go_wp2_with (go_at_call 52;refine(Tryd.Builder_Len _ _ _ _ (Or.inr h4)).mono ?_;rintro e w' ⟨rfl,rfl⟩)
    go_wp2_with (go_at_call 53;refine(Tryd.Builder_String_any w1.heap.size w1.heap.size _ _ (Or.inr h5) bw4.size).mono ?_)
    rintro e W5 ⟨rfl,b7⟩
    go_wp2
    go_ret2
    subst hEN hLI
    exact⟨rfl,b1.trans ((bw4.trans b7).mono hwsz)⟩
theorem TK(hEsc:Dj (Pg.of prog))(hB:Lg (Pg.of prog))(hF:GD (Pg.of prog))(hT:Lh (Pg.of prog)):Ja (Pg.of prog):=by
 rintro⟨l,wd⟩ hl
 refine Fn.Pc (S:=EJ) rfl rfl (l,wd) (sfF l wd) () rfl fun f fn hf hn=>?_
 have hfi:f=28:=Fo (by kernel_rfl) hf hn
 subst hfi
 have hfe:=Option.some.inj (hf.symm.trans func28)
 subst hfe
 refine⟨by kernel_rfl,by kernel_rfl,fun μ sv w vs hsv hw hargs=>?_⟩
 obtain⟨hsize,hat⟩:=hargs
 have hsv:svs μ dv dl [.one (.sl .brw .leaf Hw l),.one (.int .i64 wd)] sv:=hsv
 match sv,hsv with
 |[s0,s1],⟨⟨a0,e0,r0⟩,⟨a1,e1,r1⟩,_⟩=>
  have r0:a0=.sl .brw 3 (l.map (Hw.enc .leaf)):=r0
  have r1:a1=.lit (.int .i64 wd):=r1
  subst e0 e1 r0 r1
  obtain⟨C0,f0,_,h0⟩:=hat 0 _ rfl
  obtain⟨C1,f1,_,h1⟩:=hat 1 _ rfl
  have hlit:∀x∈l.map (Hw.enc .leaf),∀a∈x,∃u,a=AV.lit u:=by
   intro x hx a ha
   obtain⟨s,_,rfl⟩:=List.mem_map.1 hx
   have ha:a∈[AV.lit (.string ⟨s.1.toArray⟩),AV.lit (.int .i64 s.2.1),AV.lit (.int .i64 s.2.2)]:=ha
   simp only[List.mem_cons,List.not_mem_nil,or_false]at ha
   rcases ha with rfl|rfl|rfl<;>exact⟨_,rfl⟩
  obtain⟨hrd,hany⟩:=Qq (show RV C0 w (.sl .brw 3 (l.map (Hw.enc .leaf))) (vs.getD 0 undef) f0 from h0) hlit
  have hv1:vs.getD 1 undef=.int .i64 wd:=RV.BV (show RV C1 w (.lit (.int .i64 wd)) (vs.getD 1 undef) f1 from h1)
  obtain⟨a,c,hv0,hst⟩:∃a c,vs.getD 0 undef=.slice a l.length c∧YS w a l:=by
   rcases hrd with⟨hnil,a,c,hv⟩|⟨b,off,c,hv,hb,hc⟩
   ·have hnil:l=[]:=by simpa using hnil
    subst hnil
    exact⟨a,c,hv,⟨fun k s hk=>by simp at hk⟩⟩
   ·refine⟨some ⟨b,off,none⟩,c,by simpa using hv,⟨fun k s hk=>⟨b,off,rfl,hb,?_⟩⟩⟩
    have hfl:∀j,j<3→(l.map (Hw.enc .leaf)).flatten[k*3+j]?=[AV.lit (.string ⟨s.1.toArray⟩),AV.lit (.int .i64 s.2.1),AV.lit (.int .i64 s.2.2)][j]?:=by
     intro j hj
     exact Q6 l hk hj
    refine⟨?_,?_,?_⟩
    ·have:=hc (k*3+0) _ ((hfl 0 (by decide)).trans rfl)
     simpa using this
    ·have:=hc (k*3+1) _ ((hfl 1 (by decide)).trans rfl)
     simpa[Nat.add_assoc]using this
    ·have:=hc (k*3+2) _ ((hfl 2 (by decide)).trans rfl)
     simpa[Nat.add_assoc]using this
  have hvs:vs=#[.slice a l.length c,.int .i64 wd]:=by
   apply Array.ext
   ·simpa using hsize
   ·intro i hi1 hi2
    have hi:i=0∨i=1:=by simp at hi2;omega
    rcases hi with rfl|rfl
    ·have:vs.getD 0 undef=vs[0]:=by simp[hi1]
     rw[←this,hv0];rfl
    ·have:vs.getD 1 undef=vs[1]:=by simp[hi1]
     rw[←this,hv1];rfl
  subst hvs
  refine Xy hEsc hB hF l hl wd a c w hw hst fun w' hbw=>?_
  refine(Fn.Zc (fun _ h=>h) (t:=Hw) (τ:=.brw) (rs:=Cn.rs) rfl (hT l (by have:l.length≤8:=hl.1;omega)) func47 (by kernel_rfl) (hw.of hbw) rfl fun C hC=>?_).mono ?_
  ·have:=hany (C':=C) (w':=w') hbw.block fun b hb=>(hC b (Nat.lt_of_lt_of_le hb hbw.size)).1
   rw[hv0]at this
   exact this
  ·rintro e w'' ⟨r,d,hr,he,hb⟩
   have hr:r=Hr l:=hr
   subst hr
   exact⟨he,hb⟩
end Go.Proofs.Tryd
