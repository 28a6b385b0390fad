/-
 StatCounts: for every input the law answers true, and leaves its arguments as they are. No condition but the tied tables.
 The functions that it reaches are read as typed code; each has a contract, shown once; the law follows from the contracts.
-/
import Derived.Test.YtfkfmokccekccaaGreatDoorKS1
import Derived.Test.YtfkfmokccekccaaGreatDoorKKShelf
import Derived.Test.YtfkfmokccekccaaGreatDoorKKI
import Derived.Test.YtfkfmokccekccaaGreatDoorKKT
import Derived.Test.YtfkfmokccekccaaGreatDoorKKW
import Derived.Test.YtfkfmokccekccaaGreatDoorKKV
import Derived.Test.YtfkfmokccekccaaGreatDoorKKM
import Derived.Test.YtfkfmokccekccaaGreatDoorKKN
import Derived.Test.YtfkfmokccekccaaGreatDoorKKX
import Derived.Test.YtfkfmokccekccaaGreatDoorKKY
import Derived.Test.YtfkfmokccekccaaGreatDoorKKZ
import Derived.Test.YtfkfmokccekccaaGreatDoorKKRW
import Derived.Test.YtfkfmokccekccaaGreatDoorKKRI
import Derived.Test.YtfkfmokccekccaaGreatDoorKKPR
import Derived.Test.YtfkfmokccekccaaGreatDoorKKFP
import Derived.Test.YtfkfmokccekccaaGreatDoorKKFM
import Derived.Test.YtfkfmokccekccaaGreatDoorKKDI
import Derived.Test.YtfkfmokccekccaaGreatDoorKKSW
import Derived.Test.YtfkfmokccekccaaGreatDoorKKSX
import Derived.Test.YtfkfmokccekccaaGreatDoorKKSY
import Derived.Test.YtfkfmokccekccaaGreatDoorKKNU
import Derived.Test.YtfkfmokccekccaaGreatDoorKKNW
import Derived.Test.YtfkfmokccekccaaGreatDoorKKNX
import Derived.Test.YtfkfmokccekccaaGreatDoorKKNY
import Derived.Test.YtfkfmokccekccaaGreatDoorKKNZ
import Derived.Test.YtfkfmokccekccaaGreatDoorKKFC
import Derived.Test.YtfkfmokccekccaaGreatDoorKLn0
import Derived.Test.YtfkfmokccekccaaGreatDoorKLn1
import Derived.Test.YtfkfmokccekccaaGreatDoorKLn2
import Derived.Test.YtfkfmokccekccaaGreatDoorRows
import Derived.Test.YtfkfmokccekccaaGreatDoorCards
import Derived.Test.YtfkfmokccekccaaGreatDoorTie
import Derived.WalkKit
import Derived.ProofKit
import Derived.JoinedOf
import Derived.LaidMore
import Derived.Lay
import Derived.SevenTiedAt
import Derived.Stop.Joined
import Derived.Lib.LaidTab
set_option linter.unusedVariables false
set_option linter.unusedSimpArgs false
namespace Go.Proofs.YtfkfmokccekccaaGreatDoor.statCounts
open Go.VS Go.Proofs.YtfkfmokccekccaaGreatDoor

theorem Se:OB (Pg.of Tryz.prog):=AnJ Aik
theorem Q7:LV (Pg.of Tryz.prog):=AmM Agb
theorem Yr:P7 (Pg.of Tryz.prog):=Aja Ady Q7
theorem Agz:Sp_BlobF (Pg.of Tryz.prog):=Ai4 Adx Se Q7 Yr
theorem Sf:IU (Pg.of Tryz.prog):=Ai8 Aa4 Se Agz
theorem NB:IV (Pg.of Tryz.prog):=Ael WQ
theorem AgD:T7 (Pg.of Tryz.prog):=Ajb Adz Se Yr NB
theorem AdX:Rr (Pg.of Tryz.prog):=AgS Zf Se Q7 AgD Sf
theorem Ad8:Rz (Pg.of Tryz.prog):=Ag5 Ze Se
theorem Ad0:Rs (Pg.of Tryz.prog):=AgV Aa5 Se Q7 Sf AdX Ad8
theorem AbS:IQ (Pg.of Tryz.prog):=Go.Proofs.Tryz.Adk (fun _=>False)
theorem ZJ:HM (Pg.of Tryz.prog):=Go.Proofs.Tryz.Acv (fun _=>False)
theorem Ad6:Ry (Pg.of Tryz.prog):=Ag3 Zq ZJ
theorem VI:N1 (Pg.of Tryz.prog):=Ag2 Zp AbS Ad6
theorem Sd:El (Pg.of Tryz.prog):=Go.Proofs.Tryz.Xx (fun _=>False)
theorem Ad7:Ln (Pg.of Tryz.prog):=Ag4 Zr VI Sd
theorem AbT:Pb (Pg.of Tryz.prog):=Go.Proofs.Tryz.Agr
theorem AkU:AcV (Pg.of Tryz.prog):=AmL Zg AbT
theorem Agx:Uc (Pg.of Tryz.prog):=Go.Proofs.Tryz.Ajo
theorem Ab3:Tz (Pg.of Tryz.prog):=Alk To
theorem AiJ:YO (Pg.of Tryz.prog):=Go.Proofs.Tryz.AkG
theorem Xl:LU (Pg.of Tryz.prog):=ZY PA Ab3 AiJ
theorem Ad5:Rx (Pg.of Tryz.prog):=Ag1 QI PB Agx Xl
theorem AgA:MU (Pg.of Tryz.prog):=Ai5 R6 Ad7 AkU Ad5
theorem AbW:Pa (Pg.of Tryz.prog):=Aej RZ Ab3
theorem AiN:YR (Pg.of Tryz.prog):=Alm Xd AbW
theorem Yq:Li (Pg.of Tryz.prog):=Ai7 Zm AgA AiN
theorem NC:HB (Pg.of Tryz.prog):=Xt WO NB
theorem ZN:MZ (Pg.of Tryz.prog):=Acn WR NC NB
theorem Ys:Ll (Pg.of Tryz.prog):=Ajc WU
theorem Ad2:Ru (Pg.of Tryz.prog):=AgX WT Ys
theorem AiM:YQ (Pg.of Tryz.prog):=Alj Aa7 Ad2 Ys
theorem Ad4:Rw (Pg.of Tryz.prog):=AgZ WX
theorem AgF:T8 (Pg.of Tryz.prog):=Ajf Zh
theorem AgH:Ua (Pg.of Tryz.prog):=Ajh Zj Ad4 AgF
theorem ZM:MY (Pg.of Tryz.prog):=Acm WW AiM AgH
theorem ZL:MW (Pg.of Tryz.prog):=Ack WV ZN ZM
theorem AgE:MX (Pg.of Tryz.prog):=Aje AdA
theorem AgG:T9 (Pg.of Tryz.prog):=Ajg Zi AgE
theorem Q8:FU (Pg.of Tryz.prog):=Acl Xa ZL AgG
theorem Xk:Gl (Pg.of Tryz.prog):=Go.Proofs.Tryz.YX (fun _=>False)
theorem AkV:AcW (Pg.of Tryz.prog):=AmN Vj Xk
theorem AkX:AcY (Pg.of Tryz.prog):=AmP Ds AkV
theorem AkZ:Ac0 (Pg.of Tryz.prog):=AmR C9 AkX
theorem AbV:Pl (Pg.of Tryz.prog):=Go.Proofs.Tryz.AdO
theorem AkW:AcX (Pg.of Tryz.prog):=AmO Vk VI
theorem AkY:AcZ (Pg.of Tryz.prog):=AmQ Dt AkW
theorem Ak0:Ac1 (Pg.of Tryz.prog):=AmS Da AkY
theorem O6:EZ (Pg.of Tryz.prog):=Z1 QJ AkZ AbV Ak0
theorem AgJ:Ud (Pg.of Tryz.prog):=Ajj Aba O6
theorem Agy:Ue (Pg.of Tryz.prog):=Go.Proofs.Tryz.Akh AgJ
theorem AgK:M1 (Pg.of Tryz.prog):=Ajk Aa9
theorem VH:N0 (Pg.of Tryz.prog):=Ag0 Zn Agy AgK Yq
theorem VG:Ft (Pg.of Tryz.prog):=Xs QH
theorem Ad1:Rt (Pg.of Tryz.prog):=AgW WY
theorem ND:Ep (Pg.of Tryz.prog):=Xu O4 VG Ad1 NC
theorem Ad3:Rv (Pg.of Tryz.prog):=AgY WZ
theorem Yt:Lm (Pg.of Tryz.prog):=Ajd Zl
theorem AbZ:Pe (Pg.of Tryz.prog):=Aen Vg Ad3 Yt
theorem Ab0:Pf (Pg.of Tryz.prog):=Aeo Zk ND AbZ
theorem Q9:JW (Pg.of Tryz.prog):=Acp Xb Ab0 Yt Q8
theorem AkQ:AcR (Pg.of Tryz.prog):=AmH CY Tn
theorem AkS:AcT (Pg.of Tryz.prog):=AmJ CJ AkQ
theorem AbX:Pc (Pg.of Tryz.prog):=Aek WL AkS
theorem AiK:YM (Pg.of Tryz.prog):=Alh L7
theorem AgB:Sp_ContI (Pg.of Tryz.prog):=Ai6 JG AiK
theorem Ab1:Ph (Pg.of Tryz.prog):=Aep WM AgB
theorem Ad9:RA (Pg.of Tryz.prog):=Ag6 Zd
theorem AkR:AcS (Pg.of Tryz.prog):=AmI Db WK
theorem AkT:AcU (Pg.of Tryz.prog):=AmK CV AkR
theorem VJ:Kk (Pg.of Tryz.prog):=Xw QJ O6
theorem ZK:MV (Pg.of Tryz.prog):=Acj Aa3 AbX Ab1 Ad9 AkT VJ
theorem AbY:Pd (Pg.of Tryz.prog):=Aem QG
theorem Ab2:Pj (Pg.of Tryz.prog):=Aeq Xe Aij ZK AbY VH
theorem AiL:YP (Pg.of Tryz.prog):=Ali Aa8
theorem AgI:Ub (Pg.of Tryz.prog):=Aji W7
theorem Tt:IW (Pg.of Tryz.prog):=V1 O4 ND
theorem Xn:LX (Pg.of Tryz.prog):=Z0 W0 AiL AgI Tt
theorem AgC:Sp_Known (Pg.of Tryz.prog):=Ai9 W8 Xn
theorem ZO:M0 (Pg.of Tryz.prog):=Aco W9
theorem Xm:LW (Pg.of Tryz.prog):=ZZ Vh AgC ZO Q9
theorem AdZ:Lk (Pg.of Tryz.prog):=AgU Aa6
theorem As0:AsS (Pg.of Tryz.prog):=Ath Xf
theorem As9:AsY (Pg.of Tryz.prog):=Ati Zo
theorem As5:AsV (Pg.of Tryz.prog):=Atd AdC As9
theorem As8:AsX (Pg.of Tryz.prog):=Atg AdB As0 As5
theorem As6:AsW (Pg.of Tryz.prog):=Ate AdC
theorem AiI:YN (Pg.of Tryz.prog):=Go.Proofs.Tryz.Akq
theorem AdY:Lj (Pg.of Tryz.prog):=AgT Xc AiI
theorem Ata:AsZ (Pg.of Tryz.prog):=Atj Xg As0
theorem As4:AsU (Pg.of Tryz.prog):=Go.Proofs.Tryz.Atc As6 AdY Ata
theorem As1:IX (Pg.of Tryz.prog):=As3 WN As8 As4
theorem Al8(x:DP Ck.ps)(gx:(tyP Ck.ps).Good x):Go.VS.Fn (Pg.of Tryz.prog) "mergelens/mergelenslaw27.StatCounts" Ck x fun(d:Bool) _=>d=true:=Xv Pz Ad0 Q7 Yq Q8 Sf VH Q9 Ab2 Xm AdZ As1 x

theorem own:ownKnob Tryz.prog.godebug=none:=by kernel_rfl
theorem laidOut:laidOutB Tryz.prog=true:=by kernel_rfl
theorem Ah8:N2 Tryz.prog Tryz.f5.params.toList Ck.ps=true:=by kernel_rfl
theorem readable:Tryz.f5.params.toList.all (fun t=>Tryz.prog.readableRec t&&decide (t<Tryz.prog.types.size))=true:=by kernel_rfl
theorem Ya{P:Program}{x:String×DataW Unit}{r:List (String×DataW Unit)}{w:World}(h:laidMet P (x::r) w):laidMet P r w:=by
 obtain⟨ps,⟨g,t,cs,fuel,p,q,h1,h2,h3,h4,h5,rfl⟩,hnd,hall⟩:=h;exact⟨q,h5,(List.nodup_append.1 hnd).2.1,fun b off hm=>hall b off (List.mem_append_right _ hm)⟩
theorem tabs{W:World}(h:laidMetH Tryz.prog Rows.statCountsRow.laid W)(hsh:W.ShapedOpen Tryz.prog):MR Tryz.prog W:=⟨fun e he hs=>by
 obtain rfl:=List.mem_singleton.1 he;rw[MakeChecks.laidMetH_plain _ _ _ (by kernel_rfl)]at h
 have hd:(Rows.laid_internal_strconv_uint64pow10:DataW Unit)=Lib.tabData .u64 Lib.pow10Tab:=by kernel_rfl
 have h':laidMet Tryz.prog [("internal/strconv.uint64pow10",Lib.tabData .u64 Lib.pow10Tab),("unicode/utf8.acceptRanges",Rows.laid_unicode_utf8_acceptRanges),("unicode/utf8.first",Rows.laid_unicode_utf8_first)] W:=by
  rw[←hd];exact(Ya (Ya h))
 exact Lib.tabIs_of_head (g:=1) (t:=242) (e:=107) (n:=20) (by kernel_rfl) (by kernel_rfl) Tryz.underlying242 Tryz.underlying107 (by kernel_rfl) (by kernel_rfl) h',fun g hg=>by
 obtain rfl:g=0:=Option.some.inj (hg.symm.trans (show Tryz.prog.globalNamed "internal/bytealg.MaxLen" =some 0 by kernel_rfl))
 exact Aef (t:=3) hsh (of_decide_eq_true (by kernel_rfl)) (by kernel_rfl) (by kernel_rfl) (by kernel_rfl) Tryz.underlying3⟩

set_option maxRecDepth 100000 in
theorem lifted(os:Os)(started:os.Started)(H:Type)(enc:TypeId×Value→H):
  ReturnsInHanded {} Tryz.checked os 5 .any (fun w args=>(Rows.statCountsSpec.pre enc Tryz.prog Tryz.f5 Rows.statCountsRow.domain false w args∧laidMetH Tryz.prog Rows.statCountsRow.laid w)∧sizedMet enc Tryz.prog Tryz.f5 (OpenSpec.ofChange Rows.statCountsSpec) false w args)
   (Rows.statCountsSpec.post enc Tryz.prog Tryz.f5 false true false false):=by
 refine PI (C:=Tryz.checked) (X:=fun w _=>laidMetH Tryz.prog Rows.statCountsRow.laid w) (fun _ _ _ hh h=>h.of_heap hh) own started (by kernel_rfl) Tryz.func5
  (ChangeSpec.witness_shaped (enc:=enc) (C:=Tryz.checked) (os:=os) (X:=fun w _=>laidMetH Tryz.prog Rows.statCountsRow.laid w) false (World.laidAll Tryz.prog os Rows.statCountsRow.laid) #[.slice none 0 0,.string ⟨#[]⟩,.string ⟨#[]⟩,.int .i64 0,.bool false] 8 (World.laidAll_os _ _ _)
   (World.shaped_of_ZipB (by kernel_rfl) (by kernel_rfl)) (by kernel_rfl) (by kernel_rfl) (by kernel_rfl)
   (by rw[MakeChecks.laidMetH_plain _ _ _ (by kernel_rfl)];exact laidMet_laidAll _ (by kernel_rfl) (by kernel_rfl))) ?_
 intro W base args ds gs before hsh hval hW hc hsz hL _
 exact Zu (P:=Tryz.prog) (fun x gx=>Al8 x gx) Tryz.func5 rfl Ah8 laidOut readable rfl Tryz.underlying4 rfl (fun ds hds=>by
  match ds,hds with
  |[d1,d2,d3,d4,d5],_=>rfl) W (tabs hL hsh) base args ds gs before hval hW hc hsz

theorem row_holds:Rows.StatCountsSaid:=
 OpenClaim.holds_of_wide 5 Tryz.f5 rfl rfl rfl rfl rfl rfl rfl ⟨rfl,rfl,rfl,rfl,rfl⟩ rfl rfl rfl rfl rfl (by kernel_rfl) Tryz.func5 (by kernel_rfl)
  (of_decide_eq_true (by kernel_rfl)) (by unfold Func.isWrapper;first|(rw[if_pos (by decide+kernel)];kernel_rfl)|(rw[if_neg (by decide+kernel)];exact⟨rfl,rfl⟩))
  (fun os started H enc henc=>lifted os started H enc)

theorem proved:Rows.StatCountsCardSaid:=
 Claim7.holds_tied_plain_at .later [] [.data,.data,.data,.data,.pinned] true (true, "3cd95f106b2559200bc47660a361c06c57d4dda6b11209d93a3222477e1926d6") false
  row_holds (fun _ h=>by cases h) (by kernel_rfl) (fun _ h=>by cases h) statCounts_row_tie rfl ⟨rfl,rfl⟩ (by kernel_rfl) rfl
  (fun f fn hf hfn=>by
   obtain rfl:f=5:=Option.some.inj ((show Tryz.prog.funcNamed "mergelens/mergelenslaw27.StatCounts" =some 5 by kernel_rfl).symm.trans hf)|>.symm
   obtain rfl:fn=Tryz.f5:=(Option.some.inj (Tryz.func5.symm.trans hfn)).symm
   exact⟨by kernel_rfl,fun j t ht=>by
    rw[Tryz.params5]at ht
    have hm:t∈[22,9,9,3,4]:=by simpa using Array.mem_of_getElem? ht
    have hall:([22,9,9,3,4].all fun u=>!Tryz.prog.wantsStandIn u)=true:=by kernel_rfl
    exact(show Tryz.prog.wantsStandIn t=false by simpa using List.all_eq_true.1 hall t hm)⟩)
  (by kernel_rfl)
#print axioms proved
end Go.Proofs.YtfkfmokccekccaaGreatDoor.statCounts
