/-
 SimilarRenames: for every input the law answers true, and leaves its arguments as they are. No condition but the tied tables.
 The functions that it reaches are read as typed code; each has a contract, shown once; the law follows from the contracts.
-/
import Derived.Test.YtfkfmokccekccaaGreatDoorKSm3
import Derived.Test.YtfkfmokccekccaaGreatDoorKKShelf
import Derived.Test.YtfkfmokccekccaaGreatDoorKKT
import Derived.Test.YtfkfmokccekccaaGreatDoorKKW
import Derived.Test.YtfkfmokccekccaaGreatDoorKKV
import Derived.Test.YtfkfmokccekccaaGreatDoorKKM
import Derived.Test.YtfkfmokccekccaaGreatDoorKKN
import Derived.Test.YtfkfmokccekccaaGreatDoorKKO
import Derived.Test.YtfkfmokccekccaaGreatDoorKKX
import Derived.Test.YtfkfmokccekccaaGreatDoorKKY
import Derived.Test.YtfkfmokccekccaaGreatDoorKKZ
import Derived.Test.YtfkfmokccekccaaGreatDoorKKMB
import Derived.Test.YtfkfmokccekccaaGreatDoorKKRN
import Derived.Test.YtfkfmokccekccaaGreatDoorKKRO
import Derived.Test.YtfkfmokccekccaaGreatDoorKKRS
import Derived.Test.YtfkfmokccekccaaGreatDoorKKRT
import Derived.Test.YtfkfmokccekccaaGreatDoorKKRU
import Derived.Test.YtfkfmokccekccaaGreatDoorKKRV
import Derived.Test.YtfkfmokccekccaaGreatDoorKLn0
import Derived.Test.YtfkfmokccekccaaGreatDoorKLn1
import Derived.Test.YtfkfmokccekccaaGreatDoorKLn2
import Derived.Test.YtfkfmokccekccaaGreatDoorRows
import Derived.Test.YtfkfmokccekccaaGreatDoorCards
import Derived.Test.YtfkfmokccekccaaGreatDoorTie
import Derived.WalkKit
import Derived.ProofKit
import Derived.JoinedOf
import Derived.LaidMore
import Derived.Lay
import Derived.SevenTiedAt
import Derived.Stop.Joined
import Derived.Lib.LaidTab
set_option linter.unusedVariables false
set_option linter.unusedSimpArgs false
namespace Go.Proofs.YtfkfmokccekccaaGreatDoor.similarRenames
open Go.VS Go.Proofs.YtfkfmokccekccaaGreatDoor

theorem Se:OB (Pg.of Tryz.prog):=AnJ Aik
theorem Q7:LV (Pg.of Tryz.prog):=AmM Agb
theorem AqQ:ApM (Pg.of Tryz.prog):=Ass Ady Q7
theorem Ar2:Aqw (Pg.of Tryz.prog):=Asr Adx Se Q7 AqQ
theorem NB:IV (Pg.of Tryz.prog):=Ael WQ
theorem ArF:ApO (Pg.of Tryz.prog):=Asb Adz Se AqQ NB
theorem AqR:Aph (Pg.of Tryz.prog):=Arl Aqb Se Q7 Ar2 ArF
theorem Xk:Gl (Pg.of Tryz.prog):=Go.Proofs.Tryz.YX (fun _=>False)
theorem AkV:AcW (Pg.of Tryz.prog):=AmN Vj Xk
theorem AkX:AcY (Pg.of Tryz.prog):=AmP Ds AkV
theorem AkZ:Ac0 (Pg.of Tryz.prog):=AmR C9 AkX
theorem AbV:Pl (Pg.of Tryz.prog):=Go.Proofs.Tryz.AdO
theorem AbS:IQ (Pg.of Tryz.prog):=Go.Proofs.Tryz.Adk (fun _=>False)
theorem ZJ:HM (Pg.of Tryz.prog):=Go.Proofs.Tryz.Acv (fun _=>False)
theorem Ad6:Ry (Pg.of Tryz.prog):=Ag3 Zq ZJ
theorem VI:N1 (Pg.of Tryz.prog):=Ag2 Zp AbS Ad6
theorem AkW:AcX (Pg.of Tryz.prog):=AmO Vk VI
theorem AkY:AcZ (Pg.of Tryz.prog):=AmQ Dt AkW
theorem Ak0:Ac1 (Pg.of Tryz.prog):=AmS Da AkY
theorem O6:EZ (Pg.of Tryz.prog):=Z1 QJ AkZ AbV Ak0
theorem AgJ:Ud (Pg.of Tryz.prog):=Ajj Aba O6
theorem AgK:M1 (Pg.of Tryz.prog):=Ajk Aa9
theorem Sd:El (Pg.of Tryz.prog):=Go.Proofs.Tryz.Xx (fun _=>False)
theorem Ad7:Ln (Pg.of Tryz.prog):=Ag4 Zr VI Sd
theorem Aqo:AoR (Pg.of Tryz.prog):=Go.Proofs.Tryz.Ar7 Ad7
theorem Arj:Apt (Pg.of Tryz.prog):=ArO ApK AgK Aqo
theorem Asq:Aq6 (Pg.of Tryz.prog):=Go.Proofs.Tryz.AsC AgJ Arj
theorem VG:Ft (Pg.of Tryz.prog):=Xs QH
theorem Ad1:Rt (Pg.of Tryz.prog):=AgW WY
theorem NC:HB (Pg.of Tryz.prog):=Xt WO NB
theorem ND:Ep (Pg.of Tryz.prog):=Xu O4 VG Ad1 NC
theorem Ad3:Rv (Pg.of Tryz.prog):=AgY WZ
theorem Yt:Lm (Pg.of Tryz.prog):=Ajd Zl
theorem AbZ:Pe (Pg.of Tryz.prog):=Aen Vg Ad3 Yt
theorem Ab0:Pf (Pg.of Tryz.prog):=Aeo Zk ND AbZ
theorem ZN:MZ (Pg.of Tryz.prog):=Acn WR NC NB
theorem Ar3:Apj (Pg.of Tryz.prog):=Ast AqE
theorem Ari:AoQ (Pg.of Tryz.prog):=ArN Aqc ZN Ar3
theorem ArG:Ao7 (Pg.of Tryz.prog):=Asc AqF
theorem Ar4:Aqx (Pg.of Tryz.prog):=Asu ApJ Ab0 Yt Ari ArG
theorem Ark:Apu (Pg.of Tryz.prog):=ArP AqD
theorem AqS:AoK (Pg.of Tryz.prog):=Arm Aqa Aqo
theorem Al8(x:DP Aoe.ps)(gx:(tyP Aoe.ps).Good x):Go.VS.Fn (Pg.of Tryz.prog) "mergelens/mergelenslaw22.SimilarRenames" Aoe x fun(d:Bool) _=>d=true:=Apr AoY AqR Asq Ar4 Q7 Ark AqS x

theorem own:ownKnob Tryz.prog.godebug=none:=by kernel_rfl
theorem laidOut:laidOutB Tryz.prog=true:=by kernel_rfl
theorem Ah8:N2 Tryz.prog Tryz.f3.params.toList Aoe.ps=true:=by kernel_rfl
theorem readable:Tryz.f3.params.toList.all (fun t=>Tryz.prog.readableRec t&&decide (t<Tryz.prog.types.size))=true:=by kernel_rfl
theorem Ya{P:Program}{x:String×DataW Unit}{r:List (String×DataW Unit)}{w:World}(h:laidMet P (x::r) w):laidMet P r w:=by
 obtain⟨ps,⟨g,t,cs,fuel,p,q,h1,h2,h3,h4,h5,rfl⟩,hnd,hall⟩:=h
 exact⟨q,h5,(List.nodup_append.1 hnd).2.1,fun b off hm=>hall b off (List.mem_append_right _ hm)⟩
theorem tabs{W:World}(h:laidMetH Tryz.prog Rows.similarRenamesRow.laid W)(hsh:W.ShapedOpen Tryz.prog):MR Tryz.prog W:=⟨fun e he _=>absurd he (by simp[Afv]),fun g hg=>by
 obtain rfl:g=0:=Option.some.inj (hg.symm.trans (show Tryz.prog.globalNamed "internal/bytealg.MaxLen" =some 0 by kernel_rfl))
 exact Aef (t:=3) hsh (of_decide_eq_true (by kernel_rfl)) (by kernel_rfl) (by kernel_rfl) (by kernel_rfl) Tryz.underlying3⟩

set_option maxRecDepth 100000 in
theorem lifted(os:Os)(started:os.Started)(H:Type)(enc:TypeId×Value→H):
  ReturnsInHanded {} Tryz.checked os 3 .any (fun w args=>(Rows.similarRenamesSpec.pre enc Tryz.prog Tryz.f3 Rows.similarRenamesRow.domain false w args∧laidMetH Tryz.prog Rows.similarRenamesRow.laid w)∧sizedMet enc Tryz.prog Tryz.f3 (OpenSpec.ofChange Rows.similarRenamesSpec) false w args)
   (Rows.similarRenamesSpec.post enc Tryz.prog Tryz.f3 false true false false):=by
 refine PI (C:=Tryz.checked) (X:=fun w _=>laidMetH Tryz.prog Rows.similarRenamesRow.laid w) (fun _ _ _ hh h=>h.of_heap hh) own started (by kernel_rfl) Tryz.func3
  (ChangeSpec.witness_shaped (enc:=enc) (C:=Tryz.checked) (os:=os) (X:=fun w _=>laidMetH Tryz.prog Rows.similarRenamesRow.laid w) false (World.laidAll Tryz.prog os Rows.similarRenamesRow.laid) #[.slice none 0 0,.int .i64 0] 8 (World.laidAll_os _ _ _)
   (World.shaped_of_ZipB (by kernel_rfl) (by kernel_rfl)) (by kernel_rfl) (by kernel_rfl) (by kernel_rfl)
   (by rw[MakeChecks.laidMetH_plain _ _ _ (by kernel_rfl)];exact laidMet_laidAll _ (by kernel_rfl) (by kernel_rfl))) ?_
 intro W base args ds gs before hsh hval hW hc hsz hL _
 exact Zu (P:=Tryz.prog) (fun x gx=>Al8 x gx) Tryz.func3 rfl Ah8 laidOut readable rfl Tryz.underlying4 rfl (fun ds hds=>by
  match ds,hds with
  |[d1,d2],_=>rfl) W (tabs hL hsh) base args ds gs before hval hW hc hsz

theorem row_holds:Rows.SimilarRenamesSaid:=
 OpenClaim.holds_of_wide 3 Tryz.f3 rfl rfl rfl rfl rfl rfl rfl ⟨rfl,rfl,rfl,rfl,rfl⟩ rfl rfl rfl rfl rfl (by kernel_rfl) Tryz.func3 (by kernel_rfl)
  (of_decide_eq_true (by kernel_rfl)) (by unfold Func.isWrapper;first|(rw[if_pos (by decide+kernel)];kernel_rfl)|(rw[if_neg (by decide+kernel)];exact⟨rfl,rfl⟩))
  (fun os started H enc henc=>lifted os started H enc)

theorem proved:Rows.SimilarRenamesCardSaid:=
 Claim7.holds_tied_plain_at .later [] [.data,.pinned] true (true, "3cd95f106b2559200bc47660a361c06c57d4dda6b11209d93a3222477e1926d6") false
  row_holds (fun _ h=>by cases h) (by kernel_rfl) (fun _ h=>by cases h) similarRenames_row_tie rfl ⟨rfl,rfl⟩ (by kernel_rfl) rfl
  (fun f fn hf hfn=>by
   obtain rfl:f=3:=Option.some.inj ((show Tryz.prog.funcNamed "mergelens/mergelenslaw22.SimilarRenames" =some 3 by kernel_rfl).symm.trans hf)|>.symm
   obtain rfl:fn=Tryz.f3:=(Option.some.inj (Tryz.func3.symm.trans hfn)).symm
   exact⟨by kernel_rfl,fun j t ht=>by
    rw[Tryz.params3]at ht
    have hm:t∈[22,3]:=by simpa using Array.mem_of_getElem? ht
    have hall:([22,3].all fun u=>!Tryz.prog.wantsStandIn u)=true:=by kernel_rfl
    exact(show Tryz.prog.wantsStandIn t=false by simpa using List.all_eq_true.1 hall t hm)⟩)
  (by kernel_rfl)
#print axioms proved
end Go.Proofs.YtfkfmokccekccaaGreatDoor.similarRenames
