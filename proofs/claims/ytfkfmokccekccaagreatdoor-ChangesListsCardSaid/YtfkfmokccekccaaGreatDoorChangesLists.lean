/-
 ChangesLists: for every input the law answers true, and leaves its arguments as they are. No condition but the tied tables.
 The functions that it reaches are read as typed code; each has a contract, shown once; the law follows from the contracts.
-/
import Derived.Test.YtfkfmokccekccaaGreatDoorKSm5
import Derived.Test.YtfkfmokccekccaaGreatDoorKKShelf
import Derived.Test.YtfkfmokccekccaaGreatDoorKKT
import Derived.Test.YtfkfmokccekccaaGreatDoorKKW
import Derived.Test.YtfkfmokccekccaaGreatDoorKKV
import Derived.Test.YtfkfmokccekccaaGreatDoorKKM
import Derived.Test.YtfkfmokccekccaaGreatDoorKKN
import Derived.Test.YtfkfmokccekccaaGreatDoorKKX
import Derived.Test.YtfkfmokccekccaaGreatDoorKKY
import Derived.Test.YtfkfmokccekccaaGreatDoorKKZ
import Derived.Test.YtfkfmokccekccaaGreatDoorKKDS
import Derived.Test.YtfkfmokccekccaaGreatDoorKKE2
import Derived.Test.YtfkfmokccekccaaGreatDoorKKEV
import Derived.Test.YtfkfmokccekccaaGreatDoorKKRW
import Derived.Test.YtfkfmokccekccaaGreatDoorKKEW
import Derived.Test.YtfkfmokccekccaaGreatDoorKLn0
import Derived.Test.YtfkfmokccekccaaGreatDoorKLn1
import Derived.Test.YtfkfmokccekccaaGreatDoorKLn2
import Derived.Test.YtfkfmokccekccaaGreatDoorRows
import Derived.Test.YtfkfmokccekccaaGreatDoorCards
import Derived.Test.YtfkfmokccekccaaGreatDoorTie
import Derived.WalkKit
import Derived.ProofKit
import Derived.JoinedOf
import Derived.LaidMore
import Derived.Lay
import Derived.SevenTiedAt
import Derived.Stop.Joined
import Derived.Lib.LaidTab
set_option linter.unusedVariables false
set_option linter.unusedSimpArgs false
namespace Go.Proofs.YtfkfmokccekccaaGreatDoor.changesLists
open Go.VS Go.Proofs.YtfkfmokccekccaaGreatDoor

theorem Pr:Mo (Pg.of Tryz.prog):=Ahb AcR
theorem Ow:JS (Pg.of Tryz.prog):=Agp AaW
theorem Ux:NA (Pg.of Tryz.prog):=Adr YO Ow
theorem Abj:QG (Pg.of Tryz.prog):=Adm YN Pr Ow Ux
theorem Uv:Jo (Pg.of Tryz.prog):=Ado WQ Pr Abj
theorem P3:JR (Pg.of Tryz.prog):=Zs Ti
theorem Abm:QK (Pg.of Tryz.prog):=Ads YP Pr Ux P3
theorem Y6:OO (Pg.of Tryz.prog):=Abx Vg Pr Ow Abm Uv
theorem Zf:OW (Pg.of Tryz.prog):=AbG Vf Pr
theorem Y7:OP (Pg.of Tryz.prog):=Aby WR Pr Ow Uv Y6 Zf
theorem Abl:QJ (Pg.of Tryz.prog):=Adp Y7
theorem AeK:Yg (Pg.of Tryz.prog):=Agl C8 Qf
theorem AeM:Yi (Pg.of Tryz.prog):=Agn CR AeK
theorem XE:MS (Pg.of Tryz.prog):=Zr Td AeM
theorem Ac6:UQ (Pg.of Tryz.prog):=Ae9 JZ
theorem Abk:QH (Pg.of Tryz.prog):=Adn Io Ac6
theorem XG:MU (Pg.of Tryz.prog):=Zv Te Abk
theorem Zg:OX (Pg.of Tryz.prog):=AbH Vd
theorem AeL:Yh (Pg.of Tryz.prog):=Agm Di Tc
theorem AeN:Yj (Pg.of Tryz.prog):=Ago C5 AeL
theorem Tt:FK (Pg.of Tryz.prog):=Go.Proofs.Tryz.UZ (fun _=>False)
theorem AeO:Yk (Pg.of Tryz.prog):=Agq RH Tt
theorem AeQ:Ym (Pg.of Tryz.prog):=Ags DF AeO
theorem AeS:Yo (Pg.of Tryz.prog):=Agu Dg AeQ
theorem XD:MW (Pg.of Tryz.prog):=Go.Proofs.Tryz.Y0
theorem XC:HE (Pg.of Tryz.prog):=Go.Proofs.Tryz.YD (fun _=>False)
theorem Vz:GP (Pg.of Tryz.prog):=Go.Proofs.Tryz.X1 (fun _=>False)
theorem Ze:OV (Pg.of Tryz.prog):=AbF Vk Vz
theorem Zd:OU (Pg.of Tryz.prog):=AbE Vj XC Ze
theorem AeP:Yl (Pg.of Tryz.prog):=Agr RI Zd
theorem AeR:Yn (Pg.of Tryz.prog):=Agt DG AeP
theorem AeT:Yp (Pg.of Tryz.prog):=Agv Dh AeR
theorem MO:E6 (Pg.of Tryz.prog):=VK N5 AeS XD AeT
theorem Sf:IU (Pg.of Tryz.prog):=TD N5 MO
theorem VA:K2 (Pg.of Tryz.prog):=XV WO XE XG Zg AeN Sf
theorem G2:EX (Pg.of Tryz.prog):=Zp Qe AcQ VA
theorem Ly:HF (Pg.of Tryz.prog):=Zt N3
theorem Abs:QQ (Pg.of Tryz.prog):=Adz WV MO
theorem Abi:QR (Pg.of Tryz.prog):=Go.Proofs.Tryz.Ael Abs
theorem Za:VY (Pg.of Tryz.prog):=Ahc Vc Ly Abi
theorem Y8:OQ (Pg.of Tryz.prog):=Abz KL G2 Za
theorem Ac8:US (Pg.of Tryz.prog):=Afb WT
theorem Abr:QP (Pg.of Tryz.prog):=Ady Tm
theorem Sb:Fh (Pg.of Tryz.prog):=Ty N4
theorem Zb:OS (Pg.of Tryz.prog):=AbB Tj
theorem Sd:IQ (Pg.of Tryz.prog):=Tz Th P3
theorem Se:Fi (Pg.of Tryz.prog):=TA ML Sb Zb Sd
theorem Qj:HG (Pg.of Tryz.prog):=Sx ML Se
theorem Tu:JT (Pg.of Tryz.prog):=VJ Tl Ac8 Abr Qj
theorem Uw:Nz (Pg.of Tryz.prog):=Adq Tn Tu
theorem Ox:IC (Pg.of Tryz.prog):=XW Tp
theorem Zc:OT (Pg.of Tryz.prog):=AbD Tk
theorem Uy:Jp (Pg.of Tryz.prog):=Adw Vh
theorem XF:MT (Pg.of Tryz.prog):=Zu RG Zc Uy
theorem Sc:LS (Pg.of Tryz.prog):=AbC To Uw Ox XF
theorem Abh:QI (Pg.of Tryz.prog):=Go.Proofs.Tryz.Aeq G2 Za
theorem Ac7:UR (Pg.of Tryz.prog):=Afa YQ
theorem Abp:QN (Pg.of Tryz.prog):=Adv M7 Sc Ac7
theorem Uz:Jq (Pg.of Tryz.prog):=AdA WU
theorem Abn:QL (Pg.of Tryz.prog):=Adt Ll G2 Ly Uz
theorem Abq:QO (Pg.of Tryz.prog):=Adx Vi Uw Ox Uy
theorem P2:Gg (Pg.of Tryz.prog):=Zq Ve
theorem XH:MV (Pg.of Tryz.prog):=Zw Tf
theorem Y9:OR (Pg.of Tryz.prog):=AbA KL G2 Za
theorem Abo:QM (Pg.of Tryz.prog):=Adu Ll G2 Ly Uz
theorem XI:HH (Pg.of Tryz.prog):=Zx Tg Y9 Abo P2
theorem AfT(x:DP Bu.ps)(gx:(tyP Bu.ps).Good x):Go.VS.Fn (Pg.of Tryz.prog) "mergelens/mergelenslaw26.ChangesLists" Bu x fun(d:Bool) _=>d=true:=Qn Lm Abl Ow Y8 Sc Abh Abp Abn Abq P2 XH XI x

theorem own:ownKnob Tryz.prog.godebug=none:=by kernel_rfl
theorem laidOut:laidOutB Tryz.prog=true:=by kernel_rfl
theorem AcB:LU Tryz.prog Tryz.f4.params.toList Bu.ps=true:=by kernel_rfl
theorem readable:Tryz.f4.params.toList.all (fun t=>Tryz.prog.readableRec t&&decide (t<Tryz.prog.types.size))=true:=by kernel_rfl
theorem AgD{P:Program}{x:String×DataW Unit}{r:List (String×DataW Unit)}{w:World}(h:laidMet P (x::r) w):laidMet P r w:=by
 obtain⟨ps,⟨g,t,cs,fuel,p,q,h1,h2,h3,h4,h5,rfl⟩,hnd,hall⟩:=h
 exact⟨q,h5,(List.nodup_append.1 hnd).2.1,fun b off hm=>hall b off (List.mem_append_right _ hm)⟩
theorem tabs{W:World}(h:laidMetH Tryz.prog Rows.changesListsRow.laid W)(hsh:W.ShapedOpen Tryz.prog):Kz Tryz.prog W:=⟨fun e he _=>absurd he (by simp[VN]),fun g hg=>by
 obtain rfl:g=0:=Option.some.inj (hg.symm.trans (show Tryz.prog.globalNamed "internal/bytealg.MaxLen" =some 0 by kernel_rfl))
 exact Zm (t:=3) hsh (of_decide_eq_true (by kernel_rfl)) (by kernel_rfl) (by kernel_rfl) (by kernel_rfl) Tryz.underlying3⟩

set_option maxRecDepth 100000 in
theorem lifted(os:Os)(started:os.Started)(H:Type)(enc:TypeId×Value→H):
  ReturnsInHanded {} Tryz.checked os 4 .any (fun w args=>(Rows.changesListsSpec.pre enc Tryz.prog Tryz.f4 Rows.changesListsRow.domain false w args∧laidMetH Tryz.prog Rows.changesListsRow.laid w)∧sizedMet enc Tryz.prog Tryz.f4 (OpenSpec.ofChange Rows.changesListsSpec) false w args)
   (Rows.changesListsSpec.post enc Tryz.prog Tryz.f4 false true false false):=by
 refine Nd (C:=Tryz.checked) (X:=fun w _=>laidMetH Tryz.prog Rows.changesListsRow.laid w) (fun _ _ _ hh h=>h.of_heap hh) own started (by kernel_rfl) Tryz.func4
  (ChangeSpec.witness_shaped (enc:=enc) (C:=Tryz.checked) (os:=os) (X:=fun w _=>laidMetH Tryz.prog Rows.changesListsRow.laid w) false (World.laidAll Tryz.prog os Rows.changesListsRow.laid) #[.slice none 0 0,.int .i64 0,.int .i64 0,.string ⟨#[]⟩,.bool false] 8 (World.laidAll_os _ _ _)
   (World.shaped_of_ZipB (by kernel_rfl) (by kernel_rfl)) (by kernel_rfl) (by kernel_rfl) (by kernel_rfl)
   (by rw[MakeChecks.laidMetH_plain _ _ _ (by kernel_rfl)];exact laidMet_laidAll _ (by kernel_rfl) (by kernel_rfl))) ?_
 intro W base args ds gs before hsh hval hW hc hsz hL _
 exact Vo (P:=Tryz.prog) (fun x gx=>AfT x gx) Tryz.func4 rfl AcB laidOut readable rfl Tryz.underlying4 rfl (fun ds hds=>by
  match ds,hds with
  |[d1,d2,d3,d4,d5],_=>rfl) W (tabs hL hsh) base args ds gs before hval hW hc hsz

theorem row_holds:Rows.ChangesListsSaid:=
 OpenClaim.holds_of_wide 4 Tryz.f4 rfl rfl rfl rfl rfl rfl rfl ⟨rfl,rfl,rfl,rfl,rfl⟩ rfl rfl rfl rfl rfl (by kernel_rfl) Tryz.func4 (by kernel_rfl)
  (of_decide_eq_true (by kernel_rfl)) (by unfold Func.isWrapper;first|(rw[if_pos (by decide+kernel)];kernel_rfl)|(rw[if_neg (by decide+kernel)];exact⟨rfl,rfl⟩))
  (fun os started H enc henc=>lifted os started H enc)

theorem proved:Rows.ChangesListsCardSaid:=
 Claim7.holds_tied_plain_at .later [] [.data,.pinned] true (true, "3cd95f106b2559200bc47660a361c06c57d4dda6b11209d93a3222477e1926d6") false
  row_holds (fun _ h=>by cases h) (by kernel_rfl) (fun _ h=>by cases h) changesLists_row_tie rfl ⟨rfl,rfl⟩ (by kernel_rfl) rfl
  (fun f fn hf hfn=>by
   obtain rfl:f=4:=Option.some.inj ((show Tryz.prog.funcNamed "mergelens/mergelenslaw26.ChangesLists" =some 4 by kernel_rfl).symm.trans hf)|>.symm
   obtain rfl:fn=Tryz.f4:=(Option.some.inj (Tryz.func4.symm.trans hfn)).symm
   exact⟨by kernel_rfl,fun j t ht=>by
    rw[Tryz.params4]at ht
    have hm:t∈[22,3,3,9,4]:=by simpa using Array.mem_of_getElem? ht
    have hall:([22,3,3,9,4].all fun u=>!Tryz.prog.wantsStandIn u)=true:=by kernel_rfl
    exact(show Tryz.prog.wantsStandIn t=false by simpa using List.all_eq_true.1 hall t hm)⟩)
  (by kernel_rfl)
#print axioms proved
end Go.Proofs.YtfkfmokccekccaaGreatDoor.changesLists
