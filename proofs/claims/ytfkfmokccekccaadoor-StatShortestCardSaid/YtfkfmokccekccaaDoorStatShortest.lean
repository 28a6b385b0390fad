/-
 StatShortest: for every input the law answers true, and leaves its arguments as they are. No condition but the tied tables.
 The functions that it reaches are read as typed code; each has a contract, shown once; the law follows from the contracts.
-/
import Derived.Test.YtfkfmokccekccaaDoorKSm1
import Derived.Test.YtfkfmokccekccaaDoorKKShelf
import Derived.Test.YtfkfmokccekccaaDoorKKB
import Derived.Test.YtfkfmokccekccaaDoorKKQ
import Derived.Test.YtfkfmokccekccaaDoorKKP
import Derived.Test.YtfkfmokccekccaaDoorKKI
import Derived.Test.YtfkfmokccekccaaDoorKKG
import Derived.Test.YtfkfmokccekccaaDoorKKF
import Derived.Test.YtfkfmokccekccaaDoorKKT
import Derived.Test.YtfkfmokccekccaaDoorKKM
import Derived.Test.YtfkfmokccekccaaDoorKKY
import Derived.Test.YtfkfmokccekccaaDoorKKRW
import Derived.Test.YtfkfmokccekccaaDoorKKRI
import Derived.Test.YtfkfmokccekccaaDoorKKPR
import Derived.Test.YtfkfmokccekccaaDoorKKFP
import Derived.Test.YtfkfmokccekccaaDoorKKFM
import Derived.Test.YtfkfmokccekccaaDoorKKDI
import Derived.Test.YtfkfmokccekccaaDoorKKSW
import Derived.Test.YtfkfmokccekccaaDoorKKSX
import Derived.Test.YtfkfmokccekccaaDoorKKSY
import Derived.Test.YtfkfmokccekccaaDoorKKNU
import Derived.Test.YtfkfmokccekccaaDoorKKNW
import Derived.Test.YtfkfmokccekccaaDoorKKNX
import Derived.Test.YtfkfmokccekccaaDoorKKNY
import Derived.Test.YtfkfmokccekccaaDoorKKNZ
import Derived.Test.YtfkfmokccekccaaDoorKLn0
import Derived.Test.YtfkfmokccekccaaDoorKLn1
import Derived.Test.YtfkfmokccekccaaDoorKLn2
import Derived.Test.YtfkfmokccekccaaDoorRows
import Derived.Test.YtfkfmokccekccaaDoorCards
import Derived.Test.YtfkfmokccekccaaDoorTie
import Derived.WalkKit
import Derived.ProofKit
import Derived.JoinedOf
import Derived.LaidMore
import Derived.Lay
import Derived.SevenTiedAt
import Derived.Stop.Joined
import Derived.Lib.LaidTab
set_option linter.unusedVariables false
set_option linter.unusedSimpArgs false
namespace Go.Proofs.YtfkfmokccekccaaDoor.statShortest
open Go.VS Go.Proofs.YtfkfmokccekccaaDoor

theorem Xo:OD (Pg.of Tryd.prog):=Aax WX
theorem UC:Lb (Pg.of Tryd.prog):=ZM Vj
theorem R8:Mo (Pg.of Tryd.prog):=YH Tf UC
theorem Xp:PH (Pg.of Tryd.prog):=YG Te Xo UC R8
theorem Mc:G7 (Pg.of Tryd.prog):=TP Oo
theorem VB:MF (Pg.of Tryd.prog):=XC Tg Xo R8 Mc
theorem RY:Fy (Pg.of Tryd.prog):=Go.Proofs.Tryd.SX (fun _=>False)
theorem Qn:ET (Pg.of Tryd.prog):=Go.Proofs.Tryd.Su (fun _=>False)
theorem Tz:Lf (Pg.of Tryd.prog):=VN P7 Qn
theorem Ty:Ld (Pg.of Tryd.prog):=VM P6 RY Tz
theorem LF:CV (Pg.of Tryd.prog):=Go.Proofs.Tryd.OB (fun _=>False)
theorem TA:GF (Pg.of Tryd.prog):=VO P8 Ty LF
theorem RZ:I9 (Pg.of Tryd.prog):=Go.Proofs.Tryd.Vt
theorem Yv:SE (Pg.of Tryd.prog):=ZL P3 RZ
theorem Vz:MH (Pg.of Tryd.prog):=Go.Proofs.Tryd.XG
theorem R9:Mp (Pg.of Tryd.prog):=YI Mj
theorem Xn:PJ (Pg.of Tryd.prog):=Go.Proofs.Tryd.Yn
theorem Ox:G6 (Pg.of Tryd.prog):=Qy Jm R9 Xn
theorem Tx:Lc (Pg.of Tryd.prog):=VL Kl Jn Vz Ox
theorem Pr:GC (Pg.of Tryd.prog):=XA LB TA Yv Tx
theorem R7:I8 (Pg.of Tryd.prog):=TO LA R9
theorem Xq:PK (Pg.of Tryd.prog):=YJ Ot R7
theorem VA:HI (Pg.of Tryd.prog):=XB P4 Pr Xq
theorem NJ:Fs (Pg.of Tryd.prog):=VP Ou
theorem Xr:PL (Pg.of Tryd.prog):=YK P5
theorem UD:Lg (Pg.of Tryd.prog):=ZN Ti Xr
theorem Yu:ME (Pg.of Tryd.prog):=ZK Th NJ UD
theorem Sb:Dj (Pg.of Tryd.prog):=TR Nk
theorem Xm:PI (Pg.of Tryd.prog):=Go.Proofs.Tryd.X9
theorem Tw:GD (Pg.of Tryd.prog):=VK Oq Xm
theorem TD:Lh (Pg.of Tryd.prog):=VQ Ov NJ
theorem R6:Ja (Pg.of Tryd.prog):=Go.Proofs.Tryd.TK Sb UD Tw TD
theorem Sa:Fz (Pg.of Tryd.prog):=TQ Om Yu R6
theorem Zj(x:DP AK.ps)(gx:(tyP AK.ps).Good x):Go.VS.Fn (Pg.of Tryd.prog) "mergelens/mergelenslaw27.StatShortest" AK x fun(d:Bool) _=>d=true:=Mn HU Xp VB VA Pr Mc Sa x

theorem own:ownKnob Tryd.prog.godebug=none:=by kernel_rfl
theorem laidOut:laidOutB Tryd.prog=true:=by kernel_rfl
theorem WM:Im Tryd.prog Tryd.f4.params.toList AK.ps=true:=by kernel_rfl
theorem readable:Tryd.f4.params.toList.all (fun t=>Tryd.prog.readableRec t&&decide (t<Tryd.prog.types.size))=true:=by kernel_rfl
theorem O7{P:Program}{x:String×DataW Unit}{r:List (String×DataW Unit)}{w:World}(h:laidMet P (x::r) w):laidMet P r w:=by
 obtain⟨ps,⟨g,t,cs,fuel,p,q,h1,h2,h3,h4,h5,rfl⟩,hnd,hall⟩:=h
 exact⟨q,h5,(List.nodup_append.1 hnd).2.1,fun b off hm=>hall b off (List.mem_append_right _ hm)⟩
theorem tabs{W:World}(h:laidMetH Tryd.prog Rows.statShortestRow.laid W)(hsh:W.ShapedOpen Tryd.prog):Hu Tryd.prog W:=⟨fun e he hs=>by
 obtain rfl:=List.mem_singleton.1 he
 rw[MakeChecks.laidMetH_plain _ _ _ (by kernel_rfl)]at h
 have hd:(Rows.laid_internal_strconv_uint64pow10:DataW Unit)=Lib.tabData .u64 Lib.pow10Tab:=by kernel_rfl
 have h':laidMet Tryd.prog [("internal/strconv.uint64pow10",Lib.tabData .u64 Lib.pow10Tab),("unicode/utf8.acceptRanges",Rows.laid_unicode_utf8_acceptRanges),("unicode/utf8.first",Rows.laid_unicode_utf8_first)] W:=by
  rw[←hd]
  exact(O7 (O7 h))
 exact Lib.tabIs_of_head (g:=3) (t:=199) (e:=82) (n:=20) (by kernel_rfl) (by kernel_rfl) Tryd.underlying199 Tryd.underlying82 (by kernel_rfl) (by kernel_rfl) h',fun g hg=>by
 obtain rfl:g=0:=Option.some.inj (hg.symm.trans (show Tryd.prog.globalNamed "internal/bytealg.MaxLen" =some 0 by kernel_rfl))
 exact TL (t:=3) hsh (of_decide_eq_true (by kernel_rfl)) (by kernel_rfl) (by kernel_rfl) (by kernel_rfl) Tryd.underlying3⟩

set_option maxRecDepth 100000 in
theorem lifted(os:Os)(started:os.Started)(H:Type)(enc:TypeId×Value→H):
  ReturnsInHanded {} Tryd.checked os 4 .any (fun w args=>(Rows.statShortestSpec.pre enc Tryd.prog Tryd.f4 Rows.statShortestRow.domain false w args∧laidMetH Tryd.prog Rows.statShortestRow.laid w)∧sizedMet enc Tryd.prog Tryd.f4 (OpenSpec.ofChange Rows.statShortestSpec) false w args)
   (Rows.statShortestSpec.post enc Tryd.prog Tryd.f4 false true false false):=by
 refine Ju (C:=Tryd.checked) (X:=fun w _=>laidMetH Tryd.prog Rows.statShortestRow.laid w) (fun _ _ _ hh h=>h.of_heap hh) own started (by kernel_rfl) Tryd.func4
  (ChangeSpec.witness_shaped (enc:=enc) (C:=Tryd.checked) (os:=os) (X:=fun w _=>laidMetH Tryd.prog Rows.statShortestRow.laid w) false (World.laidAll Tryd.prog os Rows.statShortestRow.laid) #[.slice none 0 0,.string ⟨#[]⟩] 8 (World.laidAll_os _ _ _)
   (World.shaped_of_ZipB (by kernel_rfl) (by kernel_rfl)) (by kernel_rfl) (by kernel_rfl) (by kernel_rfl)
   (by rw[MakeChecks.laidMetH_plain _ _ _ (by kernel_rfl)];exact laidMet_laidAll _ (by kernel_rfl) (by kernel_rfl))) ?_
 intro W base args ds gs before hsh hval hW hc hsz hL _
 exact Qb (P:=Tryd.prog) (fun x gx=>Zj x gx) Tryd.func4 rfl WM laidOut readable rfl Tryd.underlying4 rfl (fun ds hds=>by
  match ds,hds with
  |[d1,d2],_=>rfl) W (tabs hL hsh) base args ds gs before hval hW hc hsz

theorem row_holds:Rows.StatShortestSaid:=
 OpenClaim.holds_of_wide 4 Tryd.f4 rfl rfl rfl rfl rfl rfl rfl ⟨rfl,rfl,rfl,rfl,rfl⟩ rfl rfl rfl rfl rfl (by kernel_rfl) Tryd.func4 (by kernel_rfl)
  (of_decide_eq_true (by kernel_rfl)) (by unfold Func.isWrapper;first|(rw[if_pos (by decide+kernel)];kernel_rfl)|(rw[if_neg (by decide+kernel)];exact⟨rfl,rfl⟩))
  (fun os started H enc henc=>lifted os started H enc)

theorem proved:Rows.StatShortestCardSaid:=
 Claim7.holds_tied_plain_at .later [] [.data,.data,.data,.data,.pinned] true (true, "1b1793acc467ef3ffcf4283088472626a7d34b1beba2155576930cb96845ca0e") false
  row_holds (fun _ h=>by cases h) (by kernel_rfl) (fun _ h=>by cases h) statShortest_row_tie rfl ⟨rfl,rfl⟩ (by kernel_rfl) rfl
  (fun f fn hf hfn=>by
   obtain rfl:f=4:=Option.some.inj ((show Tryd.prog.funcNamed "mergelens/mergelenslaw27.StatShortest" =some 4 by kernel_rfl).symm.trans hf)|>.symm
   obtain rfl:fn=Tryd.f4:=(Option.some.inj (Tryd.func4.symm.trans hfn)).symm
   exact⟨by kernel_rfl,fun j t ht=>by
    rw[Tryd.params4]at ht
    have hm:t∈[22,9]:=by simpa using Array.mem_of_getElem? ht
    have hall:([22,9].all fun u=>!Tryd.prog.wantsStandIn u)=true:=by kernel_rfl
    exact(show Tryd.prog.wantsStandIn t=false by simpa using List.all_eq_true.1 hall t hm)⟩)
  (by kernel_rfl)
#print axioms proved
end Go.Proofs.YtfkfmokccekccaaDoor.statShortest
