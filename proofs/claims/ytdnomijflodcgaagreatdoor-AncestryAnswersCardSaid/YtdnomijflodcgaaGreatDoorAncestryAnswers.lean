/-
 AncestryAnswers: for every input the law answers true, and leaves its arguments as they are. No condition but the tied tables.
 The functions that it reaches are read as typed code; each has a contract, shown once; the law follows from the contracts.
-/
import Derived.Test.YtdnomijflodcgaaGreatDoorKS0
import Derived.Test.YtdnomijflodcgaaGreatDoorKKShelf
import Derived.Test.YtdnomijflodcgaaGreatDoorKKT
import Derived.Test.YtdnomijflodcgaaGreatDoorKKW
import Derived.Test.YtdnomijflodcgaaGreatDoorKKV
import Derived.Test.YtdnomijflodcgaaGreatDoorKKM
import Derived.Test.YtdnomijflodcgaaGreatDoorKKN
import Derived.Test.YtdnomijflodcgaaGreatDoorKKY
import Derived.Test.YtdnomijflodcgaaGreatDoorKKRW
import Derived.Test.YtdnomijflodcgaaGreatDoorKKRI
import Derived.Test.YtdnomijflodcgaaGreatDoorKKAN
import Derived.Test.YtdnomijflodcgaaGreatDoorKKAO
import Derived.Test.YtdnomijflodcgaaGreatDoorKKAP
import Derived.Test.YtdnomijflodcgaaGreatDoorKKAQ
import Derived.Test.YtdnomijflodcgaaGreatDoorKLn0
import Derived.Test.YtdnomijflodcgaaGreatDoorKLn1
import Derived.Test.YtdnomijflodcgaaGreatDoorKLn2
import Derived.Test.YtdnomijflodcgaaGreatDoorRows
import Derived.Test.YtdnomijflodcgaaGreatDoorCards
import Derived.Test.YtdnomijflodcgaaGreatDoorTie
import Derived.WalkKit
import Derived.ProofKit
import Derived.JoinedOf
import Derived.LaidMore
import Derived.Lay
import Derived.SevenTiedAt
import Derived.Stop.Joined
import Derived.Lib.LaidTab
set_option linter.unusedVariables false
set_option linter.unusedSimpArgs false
namespace Go.Proofs.YtdnomijflodcgaaGreatDoor.ancestryAnswers
open Go.VS Go.Proofs.YtdnomijflodcgaaGreatDoor

theorem OG : LC (Pg.of Tryz.prog) := AfA Abx
theorem NF : Jj (Pg.of Tryz.prog) := AeS ZO
theorem Ti : MM (Pg.of Tryz.prog) := Ab6 XK NF
theorem Z7 : PQ (Pg.of Tryz.prog) := Ab2 XI OG NF Ti
theorem Th : IL (Pg.of Tryz.prog) := Ab4 Vz OG Z7
theorem Pa : Ji (Pg.of Tryz.prog) := Ym RS
theorem Aaa : PU (Pg.of Tryz.prog) := Ab7 XL OG Ti Pa
theorem X6 : NW (Pg.of Tryz.prog) := Aah T5 OG NF Aaa Th
theorem Yc : N2 (Pg.of Tryz.prog) := Aan T4 OG
theorem Z9 : PS (Pg.of Tryz.prog) := Ab5 VA OG NF Th X6 Yc
theorem Adi : W9 (Pg.of Tryz.prog) := AeO CT Pl
theorem Adk : Xb (Pg.of Tryz.prog) := AeQ CA Adi
theorem Wn : L5 (Pg.of Tryz.prog) := Yl RO Adk
theorem AbO : Tw (Pg.of Tryz.prog) := AdI Js
theorem Z8 : PR (Pg.of Tryz.prog) := Ab3 HR AbO
theorem Wp : L6 (Pg.of Tryz.prog) := Yn RP Z8
theorem Yd : N3 (Pg.of Tryz.prog) := Aao T3
theorem Adj : Xa (Pg.of Tryz.prog) := AeP C7 RN
theorem Adl : Xc (Pg.of Tryz.prog) := AeR CQ Adj
theorem Sa : Fu (Pg.of Tryz.prog) := Go.Proofs.Tryz.TJ (fun _ => False) 
theorem Adm : Xd (Pg.of Tryz.prog) := AeT QC Sa
theorem Ado : Xf (Pg.of Tryz.prog) := AeV Dn Adm
theorem Adq : Xh (Pg.of Tryz.prog) := AeX C5 Ado
theorem Wi : L7 (Pg.of Tryz.prog) := Go.Proofs.Tryz.XZ 
theorem Wg : Hj (Pg.of Tryz.prog) := Go.Proofs.Tryz.Xy (fun _ => False) 
theorem Um : Gz (Pg.of Tryz.prog) := Go.Proofs.Tryz.WO (fun _ => False) 
theorem Yb : N1 (Pg.of Tryz.prog) := Aam T9 Um
theorem Ya : N0 (Pg.of Tryz.prog) := Aal T8 Wg Yb
theorem Adn : Xe (Pg.of Tryz.prog) := AeU QD Ya
theorem Adp : Xg (Pg.of Tryz.prog) := AeW Dp Adn
theorem Adr : Xi (Pg.of Tryz.prog) := AeY C6 Adp
theorem Sc : Fw (Pg.of Tryz.prog) := UA Nf Adq Wi Adr
theorem Q5 : Ie (Pg.of Tryz.prog) := Sk Nf Sc
theorem Un : Kb (Pg.of Tryz.prog) := WG Vy Wn Wp Yd Adl Q5
theorem G6 : Ez (Pg.of Tryz.prog) := WE Ow Abw Un
theorem ND : Jh (Pg.of Tryz.prog) := AdH Ks
theorem Wj : L4 (Pg.of Tryz.prog) := Yk Kr G6 ND
theorem AbP : Tx (Pg.of Tryz.prog) := AdK VB
theorem I4 : Fv (Pg.of Tryz.prog) := Ab9 RW
theorem Q2 : EY (Pg.of Tryz.prog) := Sg Nc
theorem X7 : NX (Pg.of Tryz.prog) := Aai RT
theorem Q3 : Ic (Pg.of Tryz.prog) := Si RR Pa
theorem Q4 : EZ (Pg.of Tryz.prog) := Sj LU Q2 X7 Q3
theorem Pn : Hk (Pg.of Tryz.prog) := Rk LU Q4
theorem Sb : Jk (Pg.of Tryz.prog) := Uz RU AbP I4 Pn
theorem Gu : EK (Pg.of Tryz.prog) := Uy RY Sb
theorem Wo : Pv (Pg.of Tryz.prog) := AdM T7
theorem Uo : Kc (Pg.of Tryz.prog) := WH Nd Gu I4 Wo
theorem Z6 : PO (Pg.of Tryz.prog) := Ab1 RM G6 ND
theorem X8 : NY (Pg.of Tryz.prog) := Aaj XM Gu I4
theorem Q1 : Lc (Pg.of Tryz.prog) := Go.Proofs.Tryz.AaW G6 ND
theorem Tj : MN (Pg.of Tryz.prog) := Ab8 T6 Wo I4
theorem X9 : NZ (Pg.of Tryz.prog) := Aak RX Gu I4 Tj
theorem Wh : Pu (Pg.of Tryz.prog) := Go.Proofs.Tryz.Aeq G6 ND
theorem AbQ : Ty (Pg.of Tryz.prog) := AdL LA Gu Tj
theorem Wm : Ld (Pg.of Tryz.prog) := AdJ XJ
theorem Wq : Hl (Pg.of Tryz.prog) := Yo RQ Q1 Wh Wm
theorem Aep (x : DP A2.ps) (gx : (tyP A2.ps).Good x) : Go.VS.Fn (Pg.of Tryz.prog) "mergelens/mergelenslaw25.AncestryAnswers" A2 x fun (d : Bool) _ => d = true := Ms IX Z9 NF Wj Uo Z6 X8 Q1 X9 Wh AbQ Wm Wq x

theorem own : ownKnob Tryz.prog.godebug = none := by kernel_rfl
theorem laidOut : laidOutB Tryz.prog = true := by kernel_rfl
theorem Abi : Lf Tryz.prog Tryz.f4.params.toList A2.ps = true := by kernel_rfl
theorem readable : Tryz.f4.params.toList.all (fun t => Tryz.prog.readableRec t && decide (t < Tryz.prog.types.size)) = true := by kernel_rfl
theorem Ae5 {P : Program} {x : String × DataW Unit} {r : List (String × DataW Unit)} {w : World} (h : laidMet P (x :: r) w) : laidMet P r w := by
 obtain ⟨ps, ⟨g, t, cs, fuel, p, q, h1, h2, h3, h4, h5, rfl⟩, hnd, hall⟩ := h; exact ⟨q, h5, (List.nodup_append.1 hnd).2.1, fun b off hm => hall b off (List.mem_append_right _ hm)⟩
theorem tabs {W : World} (h : laidMetH Tryz.prog Rows.ancestryAnswersRow.laid W) (hsh : W.ShapedOpen Tryz.prog) : JQ Tryz.prog W := ⟨fun e he _ => absurd he (by simp [UD]), fun g hg => by
 obtain rfl : g = 0 := Option.some.inj (hg.symm.trans (show Tryz.prog.globalNamed "internal/bytealg.MaxLen" = some 0 by kernel_rfl))
 exact Yi (t := 3) hsh (of_decide_eq_true (by kernel_rfl)) (by kernel_rfl) (by kernel_rfl) (by kernel_rfl) Tryz.underlying3⟩

set_option maxRecDepth 100000 in
theorem lifted (os : Os) (started : os.Started) (H : Type) (enc : TypeId × Value → H) :
  ReturnsInHanded {} Tryz.checked os 4 .any (fun w args => (Rows.ancestryAnswersSpec.pre enc Tryz.prog Tryz.f4 Rows.ancestryAnswersRow.domain false w args ∧ laidMetH Tryz.prog Rows.ancestryAnswersRow.laid w) ∧ sizedMet enc Tryz.prog Tryz.f4 (OpenSpec.ofChange Rows.ancestryAnswersSpec) false w args)
   (Rows.ancestryAnswersSpec.post enc Tryz.prog Tryz.f4 false true false false) := by
 refine Mo (C := Tryz.checked) (X := fun w _ => laidMetH Tryz.prog Rows.ancestryAnswersRow.laid w) (fun _ _ _ hh h => h.of_heap hh) own started (by kernel_rfl) Tryz.func4
  (ChangeSpec.witness_shaped (enc := enc) (C := Tryz.checked) (os := os) (X := fun w _ => laidMetH Tryz.prog Rows.ancestryAnswersRow.laid w) false (World.laidAll Tryz.prog os Rows.ancestryAnswersRow.laid) #[.slice none 0 0, .int .i64 0, .int .i64 0, .slice none 0 0, .bool false] 8 (World.laidAll_os _ _ _)
   (World.shaped_of_ZipB (by kernel_rfl) (by kernel_rfl)) (by kernel_rfl) (by kernel_rfl) (by kernel_rfl)
   (by rw [MakeChecks.laidMetH_plain _ _ _ (by kernel_rfl)]; exact laidMet_laidAll _ (by kernel_rfl) (by kernel_rfl))) ?_
 intro W base args ds gs before hsh hval hW hc hsz hL _
 exact Ud (P := Tryz.prog) (fun x gx => Aep x gx) Tryz.func4 rfl Abi laidOut readable rfl Tryz.underlying4 rfl (fun ds hds => by
  match ds, hds with
  | [d1, d2, d3, d4, d5], _ => rfl) W (tabs hL hsh) base args ds gs before hval hW hc hsz

theorem row_holds : Rows.AncestryAnswersSaid :=
 OpenClaim.holds_of_wide 4 Tryz.f4 rfl rfl rfl rfl rfl rfl rfl ⟨rfl, rfl, rfl, rfl, rfl⟩ rfl rfl rfl rfl rfl (by kernel_rfl) Tryz.func4 (by kernel_rfl)
  (of_decide_eq_true (by kernel_rfl)) (by unfold Func.isWrapper; first | (rw [if_pos (by decide +kernel)]; kernel_rfl) | (rw [if_neg (by decide +kernel)]; exact ⟨rfl, rfl⟩))
  (fun os started H enc henc => lifted os started H enc)

theorem proved : Rows.AncestryAnswersCardSaid :=
 Claim7.holds_tied_plain_at .later [] [.data, .pinned] true (true, "f605911d475f77c90845b4ec015b220842721efc5a631c391656f9e0b9245a4a") false
  row_holds (fun _ h => by cases h) (by kernel_rfl) (fun _ h => by cases h) ancestryAnswers_row_tie rfl ⟨rfl, rfl⟩ (by kernel_rfl) rfl
  (fun f fn hf hfn => by
   obtain rfl : f = 4 := Option.some.inj ((show Tryz.prog.funcNamed "mergelens/mergelenslaw25.AncestryAnswers" = some 4 by kernel_rfl).symm.trans hf) |>.symm
   obtain rfl : fn = Tryz.f4 := (Option.some.inj (Tryz.func4.symm.trans hfn)).symm
   exact ⟨by kernel_rfl, fun j t ht => by
    rw [Tryz.params4] at ht
    have hm : t ∈ [22, 3, 3, 22, 4] := by simpa using Array.mem_of_getElem? ht
    have hall : ([22, 3, 3, 22, 4].all fun u => !Tryz.prog.wantsStandIn u) = true := by kernel_rfl
    exact (show Tryz.prog.wantsStandIn t = false by simpa using List.all_eq_true.1 hall t hm)⟩)
  (by kernel_rfl)
#print axioms proved
end Go.Proofs.YtdnomijflodcgaaGreatDoor.ancestryAnswers
