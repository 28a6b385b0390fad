/- Functions of the program: typed code, and what it says, lifted. -/
import Derived.Test.YtdnomijflodcgaaDoorKTxSig
import Derived.KernelRfl
set_option linter.unusedVariables false
set_option linter.unusedSimpArgs false
set_option maxRecDepth 8000
namespace Go.VS
open IntKind
def II : Br :=
 (.seq (.region [o1 4 (.asg (.c (.slice none 0 0)))]) (.seq (.region [o1 5 (.asg (.c (.slice none 0 0)))]) (.seq (.seq (.region [im 10 0, im 11 1, oS ⟨some 12, .call
 Vu [10, 11], none⟩ Bp, o1 13 (.lenK 12), o1 14 (.mv (kI 0))]) (.frame (rg [5, 7, 8, 9] 14 19) [] false (.join [.sl 5 false (.sl (.sl (.pair
 .str bI))) (.node .own tO)] (.block 0 (.loop [.sl 5 false (.sl (.sl (.pair .str bI))) (.node .own tO), .si 14] (.seq (.region [o1 15 (.bin .lss 14 13)]) (.seq (.cond 15 .skip
 (.exit 0)) (.seq (.frame (rg [5, 7, 8, 9] 16 16) [] false (.join [.sl 5 false (.sl (.sl (.pair .str bI))) (.node .own tO)] (.block 1 (.seq (.region [o1 16 (.ixA 1 12 14), ld 17 16,
 ia 7 17]) (.seq (.region [im 19 7, im 20 0, im 21 1, o1 22 (.ixA 3 20 21), fa 23 2 22, ld 24 23, oS ⟨some 25, .call "mergelens/tree.Diff" [19, 24], none⟩ I8, im 18 25, o1
 26 (.ext 18 0), o1 27 (.ext 18 1), ia 8 26, ia 9 27]) (.region [im 28 5, im 29 8, oT ⟨some 30, .buildSl 1 [(.slice none 0 0)] 1 [(0, 29)], none⟩ (some ((.sl (.pair .str bI)), tO)),
 oT ⟨some 31, .app 1 24 28 30, none⟩ (some ((.sl (.pair .str bI)), tO)), ia 5 31])))))) (.region [o1 32 (.bin .add 14 (kI 1)), im 14 32]))))))))) (.seq (.region [im 33 5, ia 4 33])
 .ret))))
def Ge : AFn := ⟨ YQ, II.erase, [.tmp 4], 2⟩
def Ln (P : Pg) (x : ((List Commit) × Int)) (K : (List (List ((List UInt8) × Int))) → Unit → Prop) : Prop :=
 Fn P Vu Bp x (fun (d1 : (List (List ((List UInt8) × (List UInt8))))) (e2 : Unit) => Aj (D := (List (List ((List UInt8) × Int)))) (fun J3 => A3 (D := ((List (List ((List UInt8) × Int))) × Int)) ([], (0 : Int)) (fun d5 J6 => (((decide (d5.2 < (d1.length : Int))) = true → Aj (D := (List (List ((List UInt8) × Int)))) (fun J7 => (0 ≤ d5.2 ∧ d5.2 < (d1.length : Int)) ∧
 (d5.2.toNat < d1.length) ∧
 (0 ≤ x.2 ∧ x.2 < (x.1.length : Int)) ∧
 (x.2.toNat < x.1.length) ∧
 Fn P "mergelens/tree.Diff" I8 ((List.getD d1 d5.2.toNat []), (List.getD x.1 x.2.toNat Ai).2.2) (fun (d9 : ((List ((List UInt8) × Int)) × Int)) (e10 : Unit) => ((d5.1.length + List.length ([d9.1] : List (List ((List UInt8) × Int)))) * 24 ≤ 140737488355328) ∧
 J7 (d5.1 ++ ([d9.1] : List (List ((List UInt8) × Int)))))) (fun d8 => J6 (d8, (i64.wrap (d5.2 + (1 : Int)))))) ∧ ((decide (d5.2 < (d1.length : Int))) = false → J3 d5.1)))) (fun d4 => K d4 ()))
theorem PO {P : Pg} (h : Has P Ge) {x : DP Dg.ps} {K : DP Dg.rs → DP (ptrs Dg.ps) → Prop} (hw : Ln P x K) : Fn P YQ Dg x K :=
 Cb (c := II) h rfl rfl (by kernel_rfl) (Eq.mpr (show B8 P Ge Dg II x K = _ by kernel_rfl) hw)
def F8 : Br :=
 (.seq (.region [o1 4 (.asg (.c (.slice none 0 0))), ia 5 (kI 0)]) (.seq (.seq (.region [im 7 0, im 8 1, oS ⟨some 9, .call Vt [7, 8], none⟩ BD,
 ia 6 9]) (.seq (.region [im 10 6, o1 11 (.bin .neq 10 (kI 0))]) (.cond 11 (.seq (.region [im 12 6, o1 4 (.asg (.c (.slice none 0 0))), ia 5 12]) .ret) .skip))) (.seq (.region [im
 13 0, im 14 1, oS ⟨some 15, .call YQ [13, 14], none⟩ Dg, ia 4 15, ia 5 (kI 0)]) .ret)))
def DV : AFn := ⟨ zS5, F8.erase, [.tmp 4, .tmp 5], 2⟩
def F5 (P : Pg) (x : ((List Commit) × Int)) (K : ((List (List ((List UInt8) × Int))) × Int) → Unit → Prop) : Prop :=
 Fn P Vt BD x (fun (d1 : Int) (e2 : Unit) => (((d1 != (0 : Int)) = true → K ([], d1) ()) ∧ ((d1 != (0 : Int)) = false → Fn P YQ Dg x (fun (d3 : (List (List ((List UInt8) × Int)))) (e4 : Unit) => K (d3, (0 : Int)) ()))))
theorem H3 {P : Pg} (h : Has P DV) {x : DP BC.ps} {K : DP BC.rs → DP (ptrs BC.ps) → Prop} (hw : F5 P x K) : Fn P zS5 BC x K :=
 Cb (c := F8) h rfl rfl (by kernel_rfl) (Eq.mpr (show B8 P DV BC F8 x K = _ by kernel_rfl) hw)
def JM : Br :=
 (.seq (.region [o1 4 (.asg (.c (.string ⟨#[]⟩))), o1 5 (.asg kF)]) (.seq (.seq (.region [im 8 0, o1 9 (.lenK 8), o1 10 (.mv (kI 0))]) (.frame (rg [4, 5, 7] 10 11) [1007] false
 (.join [.sl 4 false .str .leaf, .sl 5 false .bool .leaf] (.block 0 (.loop [.sl 4 false .str .leaf, .sl 5 false .bool .leaf, .si 10] (.seq (.region [o1 11 (.bin .lss 10 9)]) (.seq
 (.cond 11 .skip (.exit 0)) (.seq (.frame (rg [4, 5, 7] 12 8) [1007] false (.join [.sl 4 false .str .leaf, .sl 5 false .bool .leaf] (.block 1 (.seq (.region [o1 12 (.ixA 2 8 10), o1
 13 (.load true 2 12), o1 7 (.alloc [(.string ⟨#[]⟩), (.string ⟨#[]⟩)]), o0 ⟨none, .store 2 7 13, none⟩]) (.seq (.region [fa 14 0 7, ld 15 14, im 16 1, o1 17 (.bin .eql 15 16)])
 (.cond 17 (.seq (.region [fa 18 1 7, ld 19 18, ia 4 19, o1 5 (.asg kT)]) .ret) .skip)))))) (.region [o1 20 (.bin .add 10 (kI 1)), im 10 20]))))))))) (.seq (.region [o1 4 (.asg (.c
 (.string ⟨#[]⟩))), o1 5 (.asg kF)]) .ret)))
def Hn : AFn := ⟨ zS6, JM.erase, [.tmp 4, .tmp 5], 2⟩
def Nb (P : Pg) (x : ((List ((List UInt8) × (List UInt8))) × (List UInt8))) (K : ((List UInt8) × Bool) → Unit → Prop) : Prop :=
 Aj (D := ((List UInt8) × Bool)) (fun J1 => A3 (D := ((List UInt8) × (Bool × Int))) (([] : List UInt8), (false, (0 : Int))) (fun d3 J4 => (((decide (d3.2.2 < (x.1.length : Int))) = true → Aj (D := ((List UInt8) × Bool)) (fun J5 => (0 ≤ d3.2.2 ∧ d3.2.2 < (x.1.length : Int)) ∧
 (d3.2.2.toNat < x.1.length) ∧
 ((((List.getD x.1 d3.2.2.toNat ([], [])).1 == x.2) = true → K ((List.getD x.1 d3.2.2.toNat ([], [])).2, true) ()) ∧ (((List.getD x.1 d3.2.2.toNat ([], [])).1 == x.2) = false → J5 (d3.1, d3.2.1)))) (fun d6 => J4 (d6.1, (d6.2, (i64.wrap (d3.2.2 + (1 : Int))))))) ∧ ((decide (d3.2.2 < (x.1.length : Int))) = false → J1 (d3.1, d3.2.1))))) (fun d2 => K (([] : List UInt8), false) ())
theorem Rp {P : Pg} (h : Has P Hn) {x : DP Cz.ps} {K : DP Cz.rs → DP (ptrs Cz.ps) → Prop} (hw : Nb P x K) : Fn P zS6 Cz x K :=
 Cb (c := JM) h rfl rfl (by kernel_rfl) (Eq.mpr (show B8 P Hn Cz JM x K = _ by kernel_rfl) hw)
def G6 : Br :=
 (.seq (.region [o1 8 (.asg (.c (.string ⟨#[]⟩))), o1 9 (.asg (.c (.string ⟨#[]⟩))), ia 10 (kI 0)]) (.seq (.seq (.region [im 17 0, im 18 1, oS ⟨some 19, .call
 Vt [17, 18], none⟩ BD, ia 11 19]) (.seq (.region [im 20 11, o1 21 (.bin .neq 20 (kI 0))]) (.cond 21 (.seq (.region [im 22 11, o1 8 (.asg (.c
 (.string ⟨#[]⟩))), o1 9 (.asg (.c (.string ⟨#[]⟩))), ia 10 22]) .ret) .skip))) (.seq (.region [im 23 0, im 24 1, oS ⟨some 25, .call Vu [23, 24], none⟩
 Bp, ia 12 25]) (.seq (.seq (.region [im 26 2, o1 27 (.bin .lss 26 (kI 0)), im 28 27, gf 29 28 (.mv 2), gf 30 28 (.mv 12), gf 31 28 (.lenK 30), gf 32 28 (.bin .geq 29
 31), o1 33 (.pick 28 kT 32)]) (.cond 33 (.seq (.region [o1 8 (.asg (.c (.string ⟨#[]⟩))), o1 9 (.asg (.c (.string ⟨#[]⟩))), ia 10 (kI 3)]) .ret) .skip)) (.seq (.region [im 35 12,
 im 36 2, o1 37 (.ixA 1 35 36), ld 38 37, im 39 3, oS ⟨some 40, .call zS6 [38, 39], none⟩ Cz, im 34 40, o1 41 (.ext 34 0), o1 42 (.ext 34 1), ia 13 41, ia
 14 42]) (.seq (.region [im 44 0, im 45 1, o1 46 (.ixA 3 44 45), fa 47 2 46, ld 48 47, im 49 3, oS ⟨some 50, .call zS6 [48, 49], none⟩ Cz, im 43 50, o1 51
 (.ext 43 0), o1 52 (.ext 43 1), ia 15 51, ia 16 52]) (.seq (.region [im 53 13, im 54 15, ia 8 53, ia 9 54, ia 10 (kI 0)]) .ret)))))))
def Ec : AFn := ⟨ zS7, G6.erase, [.tmp 8, .tmp 9, .tmp 10], 4⟩
def GH (P : Pg) (x : ((List Commit) × (Int × (Int × (List UInt8))))) (K : ((List UInt8) × ((List UInt8) × Int)) → Unit → Prop) : Prop :=
 Fn P Vt BD (x.1, x.2.1) (fun (d1 : Int) (e2 : Unit) => (((d1 != (0 : Int)) = true → K (([] : List UInt8), (([] : List UInt8), d1)) ()) ∧ ((d1 != (0 : Int)) = false → Fn P Vu Bp (x.1, x.2.1) (fun (d3 : (List (List ((List UInt8) × (List UInt8))))) (e4 : Unit) => (((cond (decide (x.2.2.1 < (0 : Int))) true (decide (x.2.2.1 ≥ (d3.length : Int)))) = true → K (([] : List UInt8), (([] : List UInt8), (3 : Int))) ()) ∧ ((cond (decide (x.2.2.1 < (0 : Int))) true (decide (x.2.2.1 ≥ (d3.length : Int)))) = false → (0 ≤ x.2.2.1 ∧ x.2.2.1 < (d3.length : Int)) ∧
 (x.2.2.1.toNat < d3.length) ∧
 Fn P zS6 Cz ((List.getD d3 x.2.2.1.toNat []), x.2.2.2) (fun (d5 : ((List UInt8) × Bool)) (e6 : Unit) => (0 ≤ x.2.1 ∧ x.2.1 < (x.1.length : Int)) ∧
 (x.2.1.toNat < x.1.length) ∧
 Fn P zS6 Cz ((List.getD x.1 x.2.1.toNat Ai).2.2, x.2.2.2) (fun (d7 : ((List UInt8) × Bool)) (e8 : Unit) => K (d5.1, (d7.1, (0 : Int))) ()))))))))
theorem I1 {P : Pg} (h : Has P Ec) {x : DP BM.ps} {K : DP BM.rs → DP (ptrs BM.ps) → Prop} (hw : GH P x K) : Fn P zS7 BM x K :=
 Cb (c := G6) h rfl rfl (by kernel_rfl) (Eq.mpr (show B8 P Ec BM G6 x K = _ by kernel_rfl) hw)
def IK : Br :=
 (.seq (.region [o1 4 (.asg kF)]) (.seq (.seq (.region [im 6 0, o1 7 (.lenK 6), im 8 1, o1 9 (.lenK 8), o1 10 (.bin .neq 7 9)]) (.cond 10 (.seq (.region [o1 4 (.asg kF)]) .ret)
 .skip)) (.seq (.seq (.region [ia 5 (kI 0)]) (.frame (rg [4, 5] 11 15) [] false (.join [.sl 4 false .bool .leaf] (.block 0 (.loop [.sl 4 false .bool .leaf, .si 5] (.seq (.seq
 (.region [im 11 5, im 12 0, o1 13 (.lenK 12), o1 14 (.bin .lss 11 13)]) (.cond 14 .skip (.exit 0))) (.seq (.frame (rg [4] 17 9) [] false (.join [.sl 4 false .bool .leaf] (.block 1
 (.seq (.draw [(.first (im 17 0) (.first (im 18 5) (.first (o1 19 (.ixA 2 17 18)) (.first (o1 20 (.load true 2 19)) (.first (im 21 1) (.first (im 22 5) (.first (o1 23 (.ixA 2 21
 22)) (.first (o1 24 (.load true 2 23)) (.first (o1 25 (.eqA true [.str, .int] 20 24)) .done)))))))))]) (.cond 25 (.seq (.region [o1 4 (.asg kF)]) .ret) .skip))))) (.region [im 15
 5, o1 16 (.bin .add 15 (kI 1)), ia 5 16])))))))) (.seq (.region [o1 4 (.asg kT)]) .ret))))
def Gg : AFn := ⟨ Xg, IK.erase, [.tmp 4], 2⟩
def Lp (P : Pg) (x : ((List ((List UInt8) × Int)) × (List ((List UInt8) × Int)))) (K : Bool → Unit → Prop) : Prop :=
 ((((x.1.length : Int) != (x.2.length : Int)) = true → K false ()) ∧ (((x.1.length : Int) != (x.2.length : Int)) = false → Aj (D := Bool) (fun J1 => A3 (D := (Bool × Int)) (false, (0 : Int)) (fun d3 J4 => (((decide (d3.2 < (x.1.length : Int))) = true → Aj (D := Bool) (fun J5 => (0 ≤ d3.2 ∧ d3.2 < (x.1.length : Int)) ∧
 (d3.2.toNat < x.1.length) ∧
 (0 ≤ d3.2 ∧ d3.2 < (x.2.length : Int)) ∧
 (d3.2.toNat < x.2.length) ∧
 (((!(((List.getD x.1 d3.2.toNat ([], (0 : Int))).1 == (List.getD x.2 d3.2.toNat ([], (0 : Int))).1) && (((List.getD x.1 d3.2.toNat ([], (0 : Int))).2 == (List.getD x.2 d3.2.toNat ([], (0 : Int))).2) && true))) = true → K false ()) ∧ ((!(((List.getD x.1 d3.2.toNat ([], (0 : Int))).1 == (List.getD x.2 d3.2.toNat ([], (0 : Int))).1) && (((List.getD x.1 d3.2.toNat ([], (0 : Int))).2 == (List.getD x.2 d3.2.toNat ([], (0 : Int))).2) && true))) = false → J5 d3.1))) (fun d6 => J4 (d6, (i64.wrap (d3.2 + (1 : Int)))))) ∧ ((decide (d3.2 < (x.1.length : Int))) = false → J1 d3.1)))) (fun d2 => K true ())))
theorem PR {P : Pg} (h : Has P Gg) {x : DP CV.ps} {K : DP CV.rs → DP (ptrs CV.ps) → Prop} (hw : Lp P x K) : Fn P Xg CV x K :=
 Cb (c := IK) h rfl rfl (by kernel_rfl) (Eq.mpr (show B8 P Gg CV IK x K = _ by kernel_rfl) hw)
def HM : Br :=
 (.seq (.region [o1 0 (.asg kF)]) (.seq (.region [o1 7 (.build [(.string ⟨#[]⟩), (.string ⟨#[]⟩)] [(0, 1, (.c (.string ⟨#[120]⟩))), (1, 1, (.c (.string ⟨#[97]⟩)))]), ⟨⟨some 8,
 .buildSl 2 [(.string ⟨#[]⟩), (.string ⟨#[]⟩)] 1 [(0, 7)], none⟩, some ((.pair .str .str), .leaf), ⟨[], []⟩, true, none, false, false⟩, o1 9 (.build [(.slice none 0 0), (.int .i64
 0), (.slice none 0 0)] [(2, 1, 8)]), oT ⟨some 10, .buildSl 3 [(.slice none 0 0), (.int .i64 0), (.slice none 0 0)] 1 [(0, 9)], none⟩ (some (Bk, (.pair tM (.pair .leaf tM)))),
 ia 1 10]) (.seq (.frz [1] (.region [im 12 1, oS ⟨some 13, .call zS5 [12, (kI 0)], none⟩ BC, im 11 13, o1 14 (.ext 11 0), o1 15 (.ext 11 1), ia 2
 14, ia 3 15])) (.seq (.frz [1] (.region [im 17 1, oS ⟨some 18, .call zS7 [17, (kI 0), (kI 0), (.c (.string ⟨#[120]⟩))], none⟩ BM, im 16 18, o1 19
 (.ext 16 0), o1 20 (.ext 16 1), o1 21 (.ext 16 2), ia 4 19, ia 5 20, ia 6 21])) (.seq (.region [im 22 3, o1 23 (.bin .eql 22 (kI 0)), im 24 23, gt 25 24 (.mv 6), gt 26 24 (.bin
 .eql 25 (kI 0)), o1 27 (.pick 24 26 kF), im 28 27, gt 29 28 (.mv 2), gt 30 28 (.lenK 29), gt 31 28 (.bin .eql 30 (kI 1)), o1 32 (.pick 28 31 kF), im 33 32, ⟨⟨some 34, .mv 2, some
 (33, true)⟩, none, ⟨[], []⟩, false, some 33, true, false⟩, ⟨⟨some 35, .ixA 1 34 (kI 0), some (33, true)⟩, none, ⟨[], []⟩, false, none, true, false⟩, ⟨⟨some 36, .load false 1 35,
 some (33, true)⟩, none, ⟨[], []⟩, false, none, true, false⟩, ⟨⟨some 37, .build [(.string ⟨#[]⟩), (.int .i64 0)] [(0, 1, (.c (.string ⟨#[120]⟩))), (1, 1, (kI 1))], some (33, true)⟩,
 none, ⟨[], []⟩, false, none, true, false⟩, ⟨⟨some 38, .buildSl 2 [(.string ⟨#[]⟩), (.int .i64 0)] 1 [(0, 37)], some (33, true)⟩, some ((.pair .str bI), .leaf), ⟨[], []⟩, false,
 none, true, false⟩, ⟨⟨some 39, .call Xg [36, 38], some (33, true)⟩, none, CV, false, none, true, true⟩, o1 40 (.pick 33 39 kF), im 41 40, gt
 42 41 (.mv 4), o0 ⟨some 43, .bin .eql 42 (.c (.string ⟨#[]⟩)), some (41, true)⟩, o1 44 (.pick 41 43 kF), im 45 44, gt 46 45 (.mv 5), o0 ⟨some 47, .bin .eql 46 (.c (.string
 ⟨#[97]⟩)), some (45, true)⟩, o1 48 (.pick 45 47 kF), ia 0 48]) .ret)))))
def FG : AFn := ⟨ zS8, HM.erase, [.tmp 0], 0⟩
def Kn (P : Pg) (x : Unit) (K : Bool → Unit → Prop) : Prop :=
 Fn P zS5 BC (([([], ((0 : Int), ([(([120] : List UInt8), ([97] : List UInt8))] : List ((List UInt8) × (List UInt8)))))] : List Commit), (0 : Int)) (fun (d1 : ((List (List ((List UInt8) × Int))) × Int)) (e2 : Unit) => Fn P zS7 BM (([([], ((0 : Int), ([(([120] : List UInt8), ([97] : List UInt8))] : List ((List UInt8) × (List UInt8)))))] : List Commit), ((0 : Int), ((0 : Int), ([120] : List UInt8)))) (fun (d3 : ((List UInt8) × ((List UInt8) × Int))) (e4 : Unit) => (((cond (cond (d1.2 == (0 : Int)) (d3.2.2 == (0 : Int)) false) ((d1.1.length : Int) == (1 : Int)) false) = true → (0 ≤ (0 : Int) ∧ (0 : Int) < (d1.1.length : Int)) ∧
 ((Int.toNat (0 : Int)) < d1.1.length) ∧
 ((Int.toNat (0 : Int)) < d1.1.length) ∧
 Fn P Xg CV ((List.getD d1.1 (Int.toNat (0 : Int)) []), ([(([120] : List UInt8), (1 : Int))] : List ((List UInt8) × Int))) (fun (d5 : Bool) (e6 : Unit) => K (cond (cond (cond true d5 false) (d3.1 == ([] : List UInt8)) false) (d3.2.1 == ([97] : List UInt8)) false) ())) ∧ ((cond (cond (d1.2 == (0 : Int)) (d3.2.2 == (0 : Int)) false) ((d1.1.length : Int) == (1 : Int)) false) = false → K (cond (cond (cond false false false) (d3.1 == ([] : List UInt8)) false) (d3.2.1 == ([97] : List UInt8)) false) ()))))
theorem OB {P : Pg} (h : Has P FG) {x : DP B2.ps} {K : DP B2.rs → DP (ptrs B2.ps) → Prop} (hw : Kn P x K) : Fn P zS8 B2 x K :=
 Cb (c := HM) h rfl rfl (by kernel_rfl) (Eq.mpr (show B8 P FG B2 HM x K = _ by kernel_rfl) hw)
def HS : Br :=
 (.seq (.region [o1 4 (.asg (.c (.slice none 0 0)))]) (.seq (.region [im 10 0, o1 11 (.lenK 10), oT ⟨some 12, .mkSl 1 1 [(.bool false)] 11 11, none⟩ (some (.bool, .leaf)), ia 5 12])
 (.seq (.seq (.region [ia 6 (kI 0)]) (.frame (rg [5, 6] 13 12) [] false (.join [.sl 5 false (.sl .bool) tO] (.block 0 (.loop [.sl 5 false (.sl .bool) tO, .si 6] (.seq (.seq (.region
 [im 13 6, im 14 1, o1 15 (.lenK 14), o1 16 (.bin .lss 13 15)]) (.cond 16 .skip (.exit 0))) (.seq (.frame (rg [5] 19 6) [] false (.join [.sl 5 false (.sl .bool) tO] (.block 1
 (.region [im 19 5, im 20 1, im 21 6, o1 22 (.ixA 1 20 21), ld 23 22, o1 24 (.ixA 1 19 23), o0 ⟨none, .store 1 24 kT, none⟩])))) (.region [im 17 6, o1 18 (.bin .add 17 (kI 1)), ia 6
 18])))))))) (.seq (.seq (.region [ia 7 (kI 0)]) (.frame (rg [5, 7, 8, 9] 25 38) [] false (.join [.sl 5 false (.sl .bool) tO] (.block 2 (.loop [.sl 5 false (.sl .bool) tO, .si 7]
 (.seq (.seq (.region [im 25 7, im 26 0, o1 27 (.lenK 26), o1 28 (.bin .lss 25 27)]) (.cond 28 .skip (.exit 2))) (.seq (.frame (rg [5, 8, 9] 31 32) [] false (.join [.sl 5 false (.sl
 .bool) tO] (.block 3 (.seq (.region [ia 8 (kI 0)]) (.frame (rg [5, 8, 9] 31 32) [] false (.join [.sl 5 false (.sl .bool) tO] (.block 4 (.loop [.sl 5 false (.sl .bool) tO, .si 8]
 (.seq (.seq (.region [im 31 8, im 32 0, o1 33 (.lenK 32), o1 34 (.bin .lss 31 33)]) (.cond 34 .skip (.exit 4))) (.seq (.frame (rg [5, 9] 37 26) [] false (.join [.sl 5 false (.sl
 .bool) tO] (.block 5 (.seq (.region [ia 9 (kI 0)]) (.frame (rg [5, 9] 37 26) [] false (.join [.sl 5 false (.sl .bool) tO] (.block 6 (.loop [.sl 5 false (.sl .bool) tO, .si 9] (.seq
 (.seq (.region [im 37 9, im 38 0, im 39 8, o1 40 (.ixA 3 38 39), fa 41 0 40, ld 42 41, o1 43 (.lenK 42), o1 44 (.bin .lss 37 43), im 45 44, gt 46 45 (.mv 5), gt 47 45 (.mv 8), gt
 48 45 (.ixA 1 46 47), gt 49 45 (.load false 1 48), o1 50 (.pick 45 49 kF)]) (.cond 50 .skip (.exit 6))) (.seq (.frame (rg [5] 53 10) [] false (.join [.sl 5 false (.sl .bool) tO]
 (.block 7 (.region [im 53 5, im 54 0, im 55 8, o1 56 (.ixA 3 54 55), fa 57 0 56, ld 58 57, im 59 9, o1 60 (.ixA 1 58 59), ld 61 60, o1 62 (.ixA 1 53 61), o0 ⟨none, .store 1 62 kT,
 none⟩])))) (.region [im 51 9, o1 52 (.bin .add 51 (kI 1)), ia 9 52]))))))))))) (.region [im 35 8, o1 36 (.bin .add 35 (kI 1)), ia 8 36]))))))))))) (.region [im 29 7, o1 30 (.bin
 .add 29 (kI 1)), ia 7 30])))))))) (.seq (.region [im 63 5, ia 4 63]) .ret)))))
def FL : AFn := ⟨ YR, HS.erase, [.tmp 4], 2⟩
def Ks (P : Pg) (x : ((List Commit) × (List Int))) (K : (List Bool) → Unit → Prop) : Prop :=
 (0 ≤ (x.1.length : Int) ∧ (x.1.length : Int) ≤ (x.1.length : Int) ∧ ((1 : Nat) : Int) * (x.1.length : Int) ≤ 281474976710656) ∧
 Aj (D := (List Bool)) (fun J1 => A3 (D := ((List Bool) × Int)) ((List.replicate (Int.toNat (x.1.length : Int)) false), (0 : Int)) (fun d3 J4 => (((decide (d3.2 < (x.2.length : Int))) = true → Aj (D := (List Bool)) (fun J5 => (0 ≤ d3.2 ∧ d3.2 < (x.2.length : Int)) ∧
 (d3.2.toNat < x.2.length) ∧
 (0 ≤ (List.getD x.2 d3.2.toNat (0 : Int)) ∧ (List.getD x.2 d3.2.toNat (0 : Int)) < (d3.1.length : Int)) ∧
 ((Int.toNat (List.getD x.2 d3.2.toNat (0 : Int))) < d3.1.length) ∧
 J5 (List.set d3.1 (Int.toNat (List.getD x.2 d3.2.toNat (0 : Int))) true)) (fun d6 => J4 (d6, (i64.wrap (d3.2 + (1 : Int)))))) ∧ ((decide (d3.2 < (x.2.length : Int))) = false → J1 d3.1)))) (fun d2 => Aj (D := (List Bool)) (fun J7 => A3 (D := ((List Bool) × Int)) (d2, (0 : Int)) (fun d9 J10 => (((decide (d9.2 < (x.1.length : Int))) = true → Aj (D := (List Bool)) (fun J11 => Aj (D := (List Bool)) (fun J13 => A3 (D := ((List Bool) × Int)) (d9.1, (0 : Int)) (fun d15 J16 => (((decide (d15.2 < (x.1.length : Int))) = true → Aj (D := (List Bool)) (fun J17 => Aj (D := (List Bool)) (fun J19 => A3 (D := ((List Bool) × Int)) (d15.1, (0 : Int)) (fun d21 J22 => (0 ≤ d15.2 ∧ d15.2 < (x.1.length : Int)) ∧
 (d15.2.toNat < x.1.length) ∧
 (((decide (d21.2 < ((List.length (List.getD x.1 d15.2.toNat Ai).1 : Nat) : Int))) = true → 0 ≤ d15.2 ∧ d15.2 < (d21.1.length : Int))) ∧
 (((decide (d21.2 < ((List.length (List.getD x.1 d15.2.toNat Ai).1 : Nat) : Int))) = true → d15.2.toNat < d21.1.length)) ∧
 (((cond (decide (d21.2 < ((List.length (List.getD x.1 d15.2.toNat Ai).1 : Nat) : Int))) (List.getD d21.1 d15.2.toNat false) false) = true → Aj (D := (List Bool)) (fun J23 => (0 ≤ d15.2 ∧ d15.2 < (x.1.length : Int)) ∧
 (d15.2.toNat < x.1.length) ∧
 (0 ≤ d21.2 ∧ d21.2 < ((List.length (List.getD x.1 d15.2.toNat Ai).1 : Nat) : Int)) ∧
 (d21.2.toNat < List.length (List.getD x.1 d15.2.toNat Ai).1) ∧
 (0 ≤ (List.getD (List.getD x.1 d15.2.toNat Ai).1 d21.2.toNat (0 : Int)) ∧ (List.getD (List.getD x.1 d15.2.toNat Ai).1 d21.2.toNat (0 : Int)) < (d21.1.length : Int)) ∧
 ((Int.toNat (List.getD (List.getD x.1 d15.2.toNat Ai).1 d21.2.toNat (0 : Int))) < d21.1.length) ∧
 J23 (List.set d21.1 (Int.toNat (List.getD (List.getD x.1 d15.2.toNat Ai).1 d21.2.toNat (0 : Int))) true)) (fun d24 => J22 (d24, (i64.wrap (d21.2 + (1 : Int)))))) ∧ ((cond (decide (d21.2 < ((List.length (List.getD x.1 d15.2.toNat Ai).1 : Nat) : Int))) (List.getD d21.1 d15.2.toNat false) false) = false → J19 d21.1)))) (fun d20 => J17 d20)) (fun d18 => J16 (d18, (i64.wrap (d15.2 + (1 : Int)))))) ∧ ((decide (d15.2 < (x.1.length : Int))) = false → J13 d15.1)))) (fun d14 => J11 d14)) (fun d12 => J10 (d12, (i64.wrap (d9.2 + (1 : Int)))))) ∧ ((decide (d9.2 < (x.1.length : Int))) = false → J7 d9.1)))) (fun d8 => K d8 ()))
theorem OH {P : Pg} (h : Has P FL) {x : DP C4.ps} {K : DP C4.rs → DP (ptrs C4.ps) → Prop} (hw : Ks P x K) : Fn P YR C4 x K :=
 Cb (c := HS) h rfl rfl (by kernel_rfl) (Eq.mpr (show B8 P FL C4 HS x K = _ by kernel_rfl) hw)
def JL : Br :=
 (.seq (.region [o1 4 (.asg kF)]) (.seq (.seq (.region [ia 5 (kI 0)]) (.frame (rg [] 4 14) [] false (.join [.sl 4 false .bool .leaf] (.block 0 (.loop [.sl 4 false .bool .leaf, .si
 5] (.seq (.seq (.region [im 6 5, im 7 0, o1 8 (.lenK 7), o1 9 (.bin .lss 6 8)]) (.cond 9 .skip (.exit 0))) (.seq (.frame (rg [4] 12 6) [] false (.join [.sl 4 false .bool .leaf]
 (.block 1 (.seq (.region [im 12 0, im 13 5, o1 14 (.ixA 1 12 13), ld 15 14, im 16 1, o1 17 (.bin .eql 15 16)]) (.cond 17 (.seq (.region [o1 4 (.asg kT)]) .ret) .skip))))) (.region
 [im 10 5, o1 11 (.bin .add 10 (kI 1)), ia 5 11])))))))) (.seq (.region [o1 4 (.asg kF)]) .ret)))
def Hm : AFn := ⟨ YS, JL.erase, [.tmp 4], 2⟩
def Na (P : Pg) (x : ((List Int) × Int)) (K : Bool → Unit → Prop) : Prop :=
 Aj (D := Bool) (fun J1 => A3 (D := (Bool × Int)) (false, (0 : Int)) (fun d3 J4 => (((decide (d3.2 < (x.1.length : Int))) = true → Aj (D := Bool) (fun J5 => (0 ≤ d3.2 ∧ d3.2 < (x.1.length : Int)) ∧
 (d3.2.toNat < x.1.length) ∧
 ((((List.getD x.1 d3.2.toNat (0 : Int)) == x.2) = true → K true ()) ∧ (((List.getD x.1 d3.2.toNat (0 : Int)) == x.2) = false → J5 d3.1))) (fun d6 => J4 (d6, (i64.wrap (d3.2 + (1 : Int)))))) ∧ ((decide (d3.2 < (x.1.length : Int))) = false → J1 d3.1)))) (fun d2 => K false ())
theorem Ro {P : Pg} (h : Has P Hm) {x : DP DG.ps} {K : DP DG.rs → DP (ptrs DG.ps) → Prop} (hw : Na P x K) : Fn P YS DG x K :=
 Cb (c := JL) h rfl rfl (by kernel_rfl) (Eq.mpr (show B8 P Hm DG JL x K = _ by kernel_rfl) hw)
def Fk : Br :=
 (.seq (.region [ia 2 (kI 0)]) (.seq (.seq (.region [im 5 0, o1 6 (.lenS 5), o1 7 (.bin .lss 6 (kI 1)), im 8 7, gf 9 8 (.mv 0), gf 10 8 (.lenS 9), gf 11 8 (.bin .gtr 10 (kI 200)),
 o1 12 (.pick 8 kT 11)]) (.cond 12 (.seq (.region [ia 2 (kI 210)]) .ret) .skip)) (.seq (.region [o1 3 (.asg (.c (.string ⟨#[]⟩)))]) (.seq (.seq (.region [ia 4 (kI 0)]) (.frame (rg
 [2, 3, 4] 13 43) [] false (.join [.si 2] (.block 0 (.loop [.si 2, .sl 3 false .str .leaf, .si 4] (.seq (.seq (.region [im 13 4, im 14 0, o1 15 (.lenS 14), o1 16 (.bin .leq 13 15)])
 (.cond 16 .skip (.exit 0))) (.seq (.frame (rg [2, 3] 19 37) [] false (.join [.si 2, .sl 3 false .str .leaf] (.block 1 (.seq (.seq (.region [im 19 4, im 20 0, o1 21 (.lenS 20), o1
 22 (.bin .lss 19 21), im 23 22, gt 24 23 (.mv 0), gt 25 23 (.mv 4), gt 26 23 (.ixS 24 25), gt 27 23 (.bin .eql 26 (.c (.int .u8 0))), o1 28 (.pick 23 27 kF)]) (.cond 28 (.seq
 (.region [ia 2 (kI 210)]) .ret) .skip)) (.seq (.seq (.region [im 29 4, im 30 0, o1 31 (.lenS 30), o1 32 (.bin .lss 29 31), im 33 32, gt 34 33 (.mv 0), gt 35 33 (.mv 4), gt 36 33
 (.ixS 34 35), gt 37 33 (.bin .neq 36 (.c (.int .u8 47))), o1 38 (.pick 33 37 kF)]) (.cond 38 (.seq (.region [im 39 3, im 40 0, im 41 4, im 42 4, o1 43 (.bin .add 42 (kI 1)), o1 44
 (.slS 40 (some 41) (some 43)), o1 45 (.bin .add 39 44), ia 3 45]) (.exit 1)) .skip)) (.seq (.seq (.region [im 46 3, o1 47 (.bin .eql 46 (.c (.string ⟨#[]⟩))), im 48 47, gf 49 48
 (.mv 3), o0 ⟨some 50, .bin .eql 49 (.c (.string ⟨#[46]⟩)), some (48, false)⟩, o1 51 (.pick 48 kT 50), im 52 51, gf 53 52 (.mv 3), o0 ⟨some 54, .bin .eql 53 (.c (.string ⟨#[46,
 46]⟩)), some (52, false)⟩, o1 55 (.pick 52 kT 54)]) (.cond 55 (.seq (.region [ia 2 (kI 210)]) .ret) .skip)) (.region [o1 3 (.asg (.c (.string ⟨#[]⟩)))]))))))) (.region [im 17 4, o1
 18 (.bin .add 17 (kI 1)), ia 4 18])))))))) (.seq (.region [ia 2 (kI 0)]) .ret)))))
def Ea : AFn := ⟨ Xh, Fk.erase, [.tmp 2], 1⟩
def Hr (P : Pg) (x : (List UInt8)) (K : Int → Unit → Prop) : Prop :=
 (((cond (decide ((x.length : Int) < (1 : Int))) true (decide ((x.length : Int) > (200 : Int)))) = true → K (210 : Int) ()) ∧ ((cond (decide ((x.length : Int) < (1 : Int))) true (decide ((x.length : Int) > (200 : Int)))) = false → Aj (D := Int) (fun J1 => A3 (D := (Int × ((List UInt8) × Int))) ((0 : Int), (([] : List UInt8), (0 : Int))) (fun d3 J4 => (((decide (d3.2.2 ≤ (x.length : Int))) = true → Aj (D := (Int × (List UInt8))) (fun J5 => (((decide (d3.2.2 < (x.length : Int))) = true → 0 ≤ d3.2.2 ∧ d3.2.2 < (x.length : Int))) ∧
 (((cond (decide (d3.2.2 < (x.length : Int))) (((x.getD d3.2.2.toNat 0).toNat : Int) == (0 : Int)) false) = true → K (210 : Int) ()) ∧ ((cond (decide (d3.2.2 < (x.length : Int))) (((x.getD d3.2.2.toNat 0).toNat : Int) == (0 : Int)) false) = false → (((decide (d3.2.2 < (x.length : Int))) = true → 0 ≤ d3.2.2 ∧ d3.2.2 < (x.length : Int))) ∧
 (((cond (decide (d3.2.2 < (x.length : Int))) (((x.getD d3.2.2.toNat 0).toNat : Int) != (47 : Int)) false) = true → (0 ≤ d3.2.2 ∧ d3.2.2 ≤ (i64.wrap (d3.2.2 + (1 : Int))) ∧ (i64.wrap (d3.2.2 + (1 : Int))) ≤ (x.length : Int)) ∧
 (d3.2.1.length + List.length (List.drop d3.2.2.toNat (List.take (Int.toNat (i64.wrap (d3.2.2 + (1 : Int)))) x)) ≤ 9223372036854775807) ∧
 J5 (d3.1, (d3.2.1 ++ (List.drop d3.2.2.toNat (List.take (Int.toNat (i64.wrap (d3.2.2 + (1 : Int)))) x))))) ∧ ((cond (decide (d3.2.2 < (x.length : Int))) (((x.getD d3.2.2.toNat 0).toNat : Int) != (47 : Int)) false) = false → (((cond (cond (d3.2.1 == ([] : List UInt8)) true (d3.2.1 == ([46] : List UInt8))) true (d3.2.1 == ([46, 46] : List UInt8))) = true → K (210 : Int) ()) ∧ ((cond (cond (d3.2.1 == ([] : List UInt8)) true (d3.2.1 == ([46] : List UInt8))) true (d3.2.1 == ([46, 46] : List UInt8))) = false → J5 (d3.1, ([] : List UInt8))))))))) (fun d6 => J4 (d6.1, (d6.2, (i64.wrap (d3.2.2 + (1 : Int))))))) ∧ ((decide (d3.2.2 ≤ (x.length : Int))) = false → J1 d3.1)))) (fun d2 => K (0 : Int) ())))
theorem K4 {P : Pg} (h : Has P Ea) {x : DP BI.ps} {K : DP BI.rs → DP (ptrs BI.ps) → Prop} (hw : Hr P x K) : Fn P Xh BI x K :=
 Cb (c := Fk) h rfl rfl (by kernel_rfl) (Eq.mpr (show B8 P Ea BI Fk x K = _ by kernel_rfl) hw)
def HP : Br :=
 (.seq (.region [o1 4 (.asg kF)]) (.seq (.region [im 5 1, o1 6 (.lenS 5), im 7 0, o1 8 (.lenS 7), o1 9 (.bin .gtr 6 8), im 10 9, gt 11 10 (.mv 1), gt 12 10 (.mv 0), gt 13 10 (.lenS
 12), gt 14 10 (.slS 11 none (some 13)), gt 15 10 (.mv 0), gt 16 10 (.bin .eql 14 15), o1 17 (.pick 10 16 kF), im 18 17, gt 19 18 (.mv 1), gt 20 18 (.mv 0), gt 21 18 (.lenS 20), gt
 22 18 (.ixS 19 21), gt 23 18 (.bin .eql 22 (.c (.int .u8 47))), o1 24 (.pick 18 23 kF), ia 4 24]) .ret))
def FJ : AFn := ⟨ YT, HP.erase, [.tmp 4], 2⟩
def Kq (P : Pg) (x : ((List UInt8) × (List UInt8))) (K : Bool → Unit → Prop) : Prop :=
 (((decide ((x.2.length : Int) > (x.1.length : Int))) = true → 0 ≤ (x.1.length : Int) ∧ (x.1.length : Int) ≤ (x.2.length : Int))) ∧
 (((cond (decide ((x.2.length : Int) > (x.1.length : Int))) ((List.take (Int.toNat (x.1.length : Int)) x.2) == x.1) false) = true → 0 ≤ (x.1.length : Int) ∧ (x.1.length : Int) < (x.2.length : Int))) ∧
 K (cond (cond (decide ((x.2.length : Int) > (x.1.length : Int))) ((List.take (Int.toNat (x.1.length : Int)) x.2) == x.1) false) (((UInt8.toNat (List.getD x.2 (Int.toNat (x.1.length : Int)) 0) : Nat) : Int) == (47 : Int)) false) ()
theorem OE {P : Pg} (h : Has P FJ) {x : DP C3.ps} {K : DP C3.rs → DP (ptrs C3.ps) → Prop} (hw : Kq P x K) : Fn P YT C3 x K :=
 Cb (c := HP) h rfl rfl (by kernel_rfl) (Eq.mpr (show B8 P FJ C3 HP x K = _ by kernel_rfl) hw)
def HO : Br :=
 (.seq (.region [o1 2 (.asg (.c (.slice none 0 0)))]) (.seq (.region [o1 3 (.asg (.c (.slice none 0 0)))]) (.seq (.region [ia 4 (kI 0)]) (.seq (.seq (.region [ia 5 (kI 0)]) (.frame
 (rg [] 3 30) [] false (.join [.sl 3 false (.sl .str) tO] (.block 0 (.loop [.sl 3 false (.sl .str) tO, .si 4, .si 5] (.seq (.seq (.region [im 6 5, im 7 0, o1 8 (.lenS 7), o1 9 (.bin
 .lss 6 8)]) (.cond 9 .skip (.exit 0))) (.seq (.frame (rg [3, 4] 12 21) [] false (.join [.sl 3 false (.sl .str) tO, .si 4] (.block 1 (.seq (.region [im 12 0, im 13 5, o1 14 (.ixS 12
 13), o1 15 (.bin .eql 14 (.c (.int .u8 10))), im 16 15, gf 17 16 (.mv 5), gf 18 16 (.bin .add 17 (kI 1)), gf 19 16 (.mv 0), gf 20 16 (.lenS 19), gf 21 16 (.bin .eql 18 20), o1 22
 (.pick 16 kT 21)]) (.frame (rg [3, 4] 23 10) [] false (.join [.sl 3 false (.sl .str) tO, .si 4] (.cond 22 (.seq (.region [im 23 3, im 24 0, im 25 4, im 26 5, o1 27 (.bin .add 26
 (kI 1)), o1 28 (.slS 24 (some 25) (some 27)), oT ⟨some 29, .buildSl 1 [(.string ⟨#[]⟩)] 1 [(0, 28)], none⟩ (some (.str, .leaf)), oT ⟨some 30, .app 1 16 23 29, none⟩ (some (.str,
 .leaf)), ia 3 30]) (.region [im 31 5, o1 32 (.bin .add 31 (kI 1)), ia 4 32])) .skip))))))) (.region [im 10 5, o1 11 (.bin .add 10 (kI 1)), ia 5 11])))))))) (.seq (.region [im 33 3,
 ia 2 33]) .ret)))))
def FI : AFn := ⟨ YU, HO.erase, [.tmp 2], 1⟩
def Kp (P : Pg) (x : (List UInt8)) (K : (List (List UInt8)) → Unit → Prop) : Prop :=
 Aj (D := (List (List UInt8))) (fun J1 => A3 (D := ((List (List UInt8)) × (Int × Int))) ([], ((0 : Int), (0 : Int))) (fun d3 J4 => (((decide (d3.2.2 < (x.length : Int))) = true → Aj (D := ((List (List UInt8)) × Int)) (fun J5 => (0 ≤ d3.2.2 ∧ d3.2.2 < (x.length : Int)) ∧
 Aj (D := ((List (List UInt8)) × Int)) (fun J7 => (((cond (((x.getD d3.2.2.toNat 0).toNat : Int) == (10 : Int)) true ((i64.wrap (d3.2.2 + (1 : Int))) == (x.length : Int))) = true → (0 ≤ d3.2.1 ∧ d3.2.1 ≤ (i64.wrap (d3.2.2 + (1 : Int))) ∧ (i64.wrap (d3.2.2 + (1 : Int))) ≤ (x.length : Int)) ∧
 ((d3.1.length + List.length ([(List.drop d3.2.1.toNat (List.take (Int.toNat (i64.wrap (d3.2.2 + (1 : Int)))) x))] : List (List UInt8))) * 16 ≤ 140737488355328) ∧
 J7 ((d3.1 ++ ([(List.drop d3.2.1.toNat (List.take (Int.toNat (i64.wrap (d3.2.2 + (1 : Int)))) x))] : List (List UInt8))), (i64.wrap (d3.2.2 + (1 : Int))))) ∧ ((cond (((x.getD d3.2.2.toNat 0).toNat : Int) == (10 : Int)) true ((i64.wrap (d3.2.2 + (1 : Int))) == (x.length : Int))) = false → J7 (d3.1, d3.2.1)))) (fun d8 => J5 d8)) (fun d6 => J4 (d6.1, (d6.2, (i64.wrap (d3.2.2 + (1 : Int))))))) ∧ ((decide (d3.2.2 < (x.length : Int))) = false → J1 d3.1)))) (fun d2 => K d2 ())
theorem OD {P : Pg} (h : Has P FI) {x : DP CZ.ps} {K : DP CZ.rs → DP (ptrs CZ.ps) → Prop} (hw : Kp P x K) : Fn P YU CZ x K :=
 Cb (c := HO) h rfl rfl (by kernel_rfl) (Eq.mpr (show B8 P FI CZ HO x K = _ by kernel_rfl) hw)
def HN : Br :=
 (.seq (.region [ia 2 (kI 0)]) (.seq (.seq (.region [im 3 0, o1 4 (.lenS 3), o1 5 (.bin .gtr 4 (kI 1048576)), im 6 5, ⟨⟨some 7, .mv 0, some (6, false)⟩, none, ⟨[], []⟩, false, some
 6, true, false⟩, ⟨⟨some 8, .call YU [7], some (6, false)⟩, none, CZ, false, none, true, false⟩, ⟨⟨some 9, .lenK 8, some (6, false)⟩, none,
 ⟨[], []⟩, false, none, true, false⟩, ⟨⟨some 10, .bin .gtr 9 (kI 4096), some (6, false)⟩, none, ⟨[], []⟩, false, none, true, true⟩, o1 11 (.pick 6 kT 10)]) (.cond 11 (.seq (.region
 [ia 2 (kI 1)]) .ret) .skip)) (.seq (.region [ia 2 (kI 0)]) .ret)))
def FH : AFn := ⟨ YV, HN.erase, [.tmp 2], 1⟩
def Ko (P : Pg) (x : (List UInt8)) (K : Int → Unit → Prop) : Prop :=
 (((decide ((x.length : Int) > (1048576 : Int))) = true → (((cond true true false) = true → K (1 : Int) ()) ∧ ((cond true true false) = false → K (0 : Int) ()))) ∧ ((decide ((x.length : Int) > (1048576 : Int))) = false → Fn P YU CZ x (fun (d1 : (List (List UInt8))) (e2 : Unit) => (((cond false true (decide ((d1.length : Int) > (4096 : Int)))) = true → K (1 : Int) ()) ∧ ((cond false true (decide ((d1.length : Int) > (4096 : Int)))) = false → K (0 : Int) ())))))
theorem OC {P : Pg} (h : Has P FH) {x : DP CY.ps} {K : DP CY.rs → DP (ptrs CY.ps) → Prop} (hw : Ko P x K) : Fn P YV CY x K :=
 Cb (c := HN) h rfl rfl (by kernel_rfl) (Eq.mpr (show B8 P FH CY HN x K = _ by kernel_rfl) hw)
def HQ : Br :=
 (.seq (.region [ia 2 (kI 0)]) (.seq (.seq (.region [im 7 0, o1 8 (.lenK 7), o1 9 (.bin .gtr 8 (kI 200))]) (.cond 9 (.seq (.region [ia 2 (kI 1)]) .ret) .skip)) (.seq (.seq (.region
 [ia 3 (kI 0)]) (.frame (rg [2, 3] 10 13) [] false (.join [.si 2] (.block 0 (.loop [.si 2, .si 3] (.seq (.seq (.region [im 10 3, im 11 0, o1 12 (.lenK 11), o1 13 (.bin .lss 10 12)])
 (.cond 13 .skip (.exit 0))) (.seq (.frame (rg [2] 16 7) [] false (.join [.si 2] (.block 1 (.seq (.region [im 16 0, im 17 3, o1 18 (.ixA 2 16 17), fa 19 0 18, ld 20 19, oS ⟨some 21,
 .call Xh [20], none⟩ BI, o1 22 (.bin .neq 21 (kI 0))]) (.cond 22 (.seq (.region [ia 2 (kI 210)]) .ret) .skip))))) (.region [im 14
 3, o1 15 (.bin .add 14 (kI 1)), ia 3 15])))))))) (.seq (.seq (.region [ia 4 (kI 0)]) (.frame (rg [2, 4, 5] 23 35) [] false (.join [.si 2] (.block 2 (.loop [.si 2, .si 4] (.seq
 (.seq (.region [im 23 4, im 24 0, o1 25 (.lenK 24), o1 26 (.bin .lss 23 25)]) (.cond 26 .skip (.exit 2))) (.seq (.frame (rg [2, 5] 29 29) [] false (.join [.si 2] (.block 3 (.seq
 (.region [ia 5 (kI 0)]) (.frame (rg [2, 5] 29 29) [] false (.join [.si 2] (.block 4 (.loop [.si 2, .si 5] (.seq (.seq (.region [im 29 5, im 30 4, o1 31 (.bin .lss 29 30)]) (.cond
 31 .skip (.exit 4))) (.seq (.frame (rg [2] 34 24) [] false (.join [.si 2] (.block 5 (.seq (.frame (rg [] 34 24) [] false (.join [.sl 57 false .bool .leaf] (.draw [(.first (im 34 0)
 (.first (im 35 5) (.first (o1 36 (.ixA 2 34 35)) (.first (fa 37 0 36) (.first (ld 38 37) (.first (im 39 0) (.first (im 40 4) (.first (o1 41 (.ixA 2 39 40)) (.first (fa 42 0 41)
 (.first (ld 43 42) (.first (o1 44 (.bin .geq 38 43)) (.first (im 45 44) (.first (gf 46 45 (.mv 0)) (.first (gf 47 45 (.mv 5)) (.first (gf 48 45 (.ixA 2 46 47)) (.first (gf 49 45
 (.fAddr 0 48)) (.first (gf 50 45 (.load false 1 49)) (.first (gf 51 45 (.mv 0)) (.first (gf 52 45 (.mv 4)) (.first (gf 53 45 (.ixA 2 51 52)) (.first (gf 54 45 (.fAddr 0 53))
 (.first (gf 55 45 (.load false 1 54)) (.alt (oS ⟨some 56, .call YT [50, 55], some (45, false)⟩ C3) (.first (o1 57 (.pick 45 kT 56)) .done)
 .stop)))))))))))))))))))))))]))) (.cond 57 (.seq (.region [ia 2 (kI 211)]) .ret) .skip))))) (.region [im 32 5, o1 33 (.bin .add 32 (kI 1)), ia 5 33]))))))))))) (.region [im 27 4,
 o1 28 (.bin .add 27 (kI 1)), ia 4 28])))))))) (.seq (.seq (.region [ia 6 (kI 0)]) (.frame (rg [2, 6] 58 13) [] false (.join [.si 2] (.block 6 (.loop [.si 2, .si 6] (.seq (.seq
 (.region [im 58 6, im 59 0, o1 60 (.lenK 59), o1 61 (.bin .lss 58 60)]) (.cond 61 .skip (.exit 6))) (.seq (.frame (rg [2] 64 7) [] false (.join [.si 2] (.block 7 (.seq (.region [im
 64 0, im 65 6, o1 66 (.ixA 2 64 65), fa 67 1 66, ld 68 67, oS ⟨some 69, .call YV [68], none⟩ CY, o1 70 (.bin .neq 69 (kI 0))]) (.cond 70
 (.seq (.region [ia 2 (kI 1)]) .ret) .skip))))) (.region [im 62 6, o1 63 (.bin .add 62 (kI 1)), ia 6 63])))))))) (.seq (.region [ia 2 (kI 0)]) .ret))))))
def Ev : AFn := ⟨ Vv, HQ.erase, [.tmp 2], 1⟩
def HA (P : Pg) (x : (List ((List UInt8) × (List UInt8)))) (K : Int → Unit → Prop) : Prop :=
 (((decide ((x.length : Int) > (200 : Int))) = true → K (1 : Int) ()) ∧ ((decide ((x.length : Int) > (200 : Int))) = false → Aj (D := Int) (fun J1 => A3 (D := (Int × Int)) ((0 : Int), (0 : Int)) (fun d3 J4 => (((decide (d3.2 < (x.length : Int))) = true → Aj (D := Int) (fun J5 => (0 ≤ d3.2 ∧ d3.2 < (x.length : Int)) ∧
 (d3.2.toNat < x.length) ∧
 Fn P Xh BI (List.getD x d3.2.toNat ([], [])).1 (fun (d7 : Int) (e8 : Unit) => (((d7 != (0 : Int)) = true → K (210 : Int) ()) ∧ ((d7 != (0 : Int)) = false → J5 d3.1)))) (fun d6 => J4 (d6, (i64.wrap (d3.2 + (1 : Int)))))) ∧ ((decide (d3.2 < (x.length : Int))) = false → J1 d3.1)))) (fun d2 => Aj (D := Int) (fun J9 => A3 (D := (Int × Int)) (d2, (0 : Int)) (fun d11 J12 => (((decide (d11.2 < (x.length : Int))) = true → Aj (D := Int) (fun J13 => Aj (D := Int) (fun J15 => A3 (D := (Int × Int)) (d11.1, (0 : Int)) (fun d17 J18 => (((decide (d17.2 < d11.2)) = true → Aj (D := Int) (fun J19 => Aj (D := Bool) (fun J21 => (0 ≤ d17.2 ∧ d17.2 < (x.length : Int)) ∧
 (d17.2.toNat < x.length) ∧
 (0 ≤ d11.2 ∧ d11.2 < (x.length : Int)) ∧
 (d11.2.toNat < x.length) ∧
 (((!(Op.bytesLess (List.getD x d17.2.toNat ([], [])).1 (List.getD x d11.2.toNat ([], [])).1)) = false → 0 ≤ d17.2 ∧ d17.2 < (x.length : Int))) ∧
 (((!(Op.bytesLess (List.getD x d17.2.toNat ([], [])).1 (List.getD x d11.2.toNat ([], [])).1)) = false → d17.2.toNat < x.length)) ∧
 (((!(Op.bytesLess (List.getD x d17.2.toNat ([], [])).1 (List.getD x d11.2.toNat ([], [])).1)) = false → 0 ≤ d11.2 ∧ d11.2 < (x.length : Int))) ∧
 (((!(Op.bytesLess (List.getD x d17.2.toNat ([], [])).1 (List.getD x d11.2.toNat ([], [])).1)) = false → d11.2.toNat < x.length)) ∧
 (Aj (D := Bool) (fun J23 => (((!(Op.bytesLess (List.getD x d17.2.toNat ([], [])).1 (List.getD x d11.2.toNat ([], [])).1)) = false → Fn P YT C3 ((List.getD x d17.2.toNat ([], [])).1, (List.getD x d11.2.toNat ([], [])).1) (fun (d24 : Bool) _ => J23 d24)) ∧ (((!(Op.bytesLess (List.getD x d17.2.toNat ([], [])).1 (List.getD x d11.2.toNat ([], [])).1)) = true → J23 false) ∧ True))) (fun d25 => J21 (cond (!(Op.bytesLess (List.getD x d17.2.toNat ([], [])).1 (List.getD x d11.2.toNat ([], [])).1)) true d25))) ∧ True) (fun d22 => ((d22 = true → K (211 : Int) ()) ∧ (d22 = false → J19 d17.1)))) (fun d20 => J18 (d20, (i64.wrap (d17.2 + (1 : Int)))))) ∧ ((decide (d17.2 < d11.2)) = false → J15 d17.1)))) (fun d16 => J13 d16)) (fun d14 => J12 (d14, (i64.wrap (d11.2 + (1 : Int)))))) ∧ ((decide (d11.2 < (x.length : Int))) = false → J9 d11.1)))) (fun d10 => Aj (D := Int) (fun J26 => A3 (D := (Int × Int)) (d10, (0 : Int)) (fun d28 J29 => (((decide (d28.2 < (x.length : Int))) = true → Aj (D := Int) (fun J30 => (0 ≤ d28.2 ∧ d28.2 < (x.length : Int)) ∧
 (d28.2.toNat < x.length) ∧
 Fn P YV CY (List.getD x d28.2.toNat ([], [])).2 (fun (d32 : Int) (e33 : Unit) => (((d32 != (0 : Int)) = true → K (1 : Int) ()) ∧ ((d32 != (0 : Int)) = false → J30 d28.1)))) (fun d31 => J29 (d31, (i64.wrap (d28.2 + (1 : Int)))))) ∧ ((decide (d28.2 < (x.length : Int))) = false → J26 d28.1)))) (fun d27 => K (0 : Int) ())))))
theorem Jn {P : Pg} (h : Has P Ev) {x : DP Cd.ps} {K : DP Cd.rs → DP (ptrs Cd.ps) → Prop} (hw : HA P x K) : Fn P Vv Cd x K :=
 Cb (c := HQ) h rfl rfl (by kernel_rfl) (Eq.mpr (show B8 P Ev Cd HQ x K = _ by kernel_rfl) hw)
def HR : Br :=
 (.seq (.region [ia 2 (kI 0)]) (.seq (.seq (.region [im 11 0, o1 12 (.lenK 11), o1 13 (.bin .gtr 12 (kI 300))]) (.cond 13 (.seq (.region [ia 2 (kI 1)]) .ret) .skip)) (.seq (.seq
 (.region [ia 3 (kI 0)]) (.frame (rg [2, 3] 14 13) [] false (.join [.si 2] (.block 0 (.loop [.si 2, .si 3] (.seq (.seq (.region [im 14 3, im 15 0, o1 16 (.lenK 15), o1 17 (.bin .lss
 14 16)]) (.cond 17 .skip (.exit 0))) (.seq (.frame (rg [2] 20 7) [] false (.join [.si 2] (.block 1 (.seq (.region [im 20 0, im 21 3, o1 22 (.ixA 3 20 21), fa 23 0 22, ld 24 23, o1
 25 (.lenK 24), o1 26 (.bin .gtr 25 (kI 32))]) (.cond 26 (.seq (.region [ia 2 (kI 1)]) .ret) .skip))))) (.region [im 18 3, o1 19 (.bin .add 18 (kI 1)), ia 3 19])))))))) (.seq (.seq
 (.region [ia 4 (kI 0)]) (.frame (rg [2, 4, 5, 6] 27 43) [] false (.join [.si 2] (.block 2 (.loop [.si 2, .si 4] (.seq (.seq (.region [im 27 4, im 28 0, o1 29 (.lenK 28), o1 30
 (.bin .lss 27 29)]) (.cond 30 .skip (.exit 2))) (.seq (.frame (rg [2, 5, 6] 33 37) [] false (.join [.si 2] (.block 3 (.seq (.region [ia 5 (kI 0)]) (.frame (rg [2, 5, 6] 33 37) []
 false (.join [.si 2] (.block 4 (.loop [.si 2, .si 5] (.seq (.seq (.region [im 33 5, im 34 0, im 35 4, o1 36 (.ixA 3 34 35), fa 37 0 36, ld 38 37, o1 39 (.lenK 38), o1 40 (.bin .lss
 33 39)]) (.cond 40 .skip (.exit 4))) (.seq (.frame (rg [2, 6] 43 27) [] false (.join [.si 2] (.block 5 (.seq (.region [im 43 0, im 44 4, o1 45 (.ixA 3 43 44), fa 46 0 45, ld 47 46,
 im 48 5, o1 49 (.ixA 1 47 48), ld 50 49, ia 6 50]) (.seq (.region [im 51 6, o1 52 (.bin .lss 51 (kI 0)), im 53 52, gf 54 53 (.mv 6), gf 55 53 (.mv 0), gf 56 53 (.lenK 55), gf 57 53
 (.bin .geq 54 56), o1 58 (.pick 53 kT 57), im 59 58, gf 60 59 (.mv 0), gf 61 59 (.mv 4), gf 62 59 (.ixA 3 60 61), gf 63 59 (.fAddr 0 62), gf 64 59 (.load false 1 63), gf 65 59 (.mv
 5), gf 66 59 (.slK 1 64 none (some 65)), gf 67 59 (.mv 6), oS ⟨some 68, .call YS [66, 67], some (59, false)⟩ DG, o1 69 (.pick 59 kT 68)])
 (.cond 69 (.seq (.region [ia 2 (kI 230)]) .ret) .skip)))))) (.region [im 41 5, o1 42 (.bin .add 41 (kI 1)), ia 5 42]))))))))))) (.region [im 31 4, o1 32 (.bin .add 31 (kI 1)), ia 4
 32])))))))) (.seq (.seq (.region [ia 7 (kI 0)]) (.frame (rg [2, 7] 70 25) [] false (.join [.si 2] (.block 6 (.loop [.si 2, .si 7] (.seq (.seq (.region [im 70 7, im 71 0, o1 72
 (.lenK 71), o1 73 (.bin .lss 70 72)]) (.cond 73 .skip (.exit 6))) (.seq (.frame (rg [2] 76 19) [] false (.join [.si 2] (.block 7 (.seq (.region [im 76 0, im 77 7, o1 78 (.ixA 3 76
 77), fa 79 0 78, ld 80 79, o1 81 (.lenK 80), o1 82 (.bin .gtr 81 (kI 0)), im 83 82, ⟨⟨some 84, .mv 0, some (83, true)⟩, none, ⟨[], []⟩, false, some 83, true, false⟩, ⟨⟨some 85, .mv
 0, some (83, true)⟩, none, ⟨[], []⟩, false, none, true, false⟩, ⟨⟨some 86, .mv 7, some (83, true)⟩, none, ⟨[], []⟩, false, none, true, false⟩, ⟨⟨some 87, .ixA 3 85 86, some (83,
 true)⟩, none, ⟨[], []⟩, false, none, true, false⟩, ⟨⟨some 88, .fAddr 0 87, some (83, true)⟩, none, ⟨[], []⟩, false, none, true, false⟩, ⟨⟨some 89, .load false 1 88, some (83,
 true)⟩, none, ⟨[], []⟩, false, none, true, false⟩, ⟨⟨some 90, .call YR [84, 89], some (83, true)⟩, none, C4, false, none, true, false⟩,
 ⟨⟨some 91, .mv 7, some (83, true)⟩, none, ⟨[], []⟩, false, none, true, false⟩, ⟨⟨some 92, .ixA 1 90 91, some (83, true)⟩, none, ⟨[], []⟩, false, none, true, false⟩, ⟨⟨some 93,
 .load false 1 92, some (83, true)⟩, none, ⟨[], []⟩, false, none, true, true⟩, o1 94 (.pick 83 93 kF)]) (.cond 94 (.seq (.region [ia 2 (kI 231)]) .ret) .skip))))) (.region [im 74 7,
 o1 75 (.bin .add 74 (kI 1)), ia 7 75])))))))) (.seq (.seq (.region [ia 8 (kI 0)]) (.frame (rg [2, 8] 95 20) [] false (.join [.si 2] (.block 8 (.loop [.si 2, .si 8] (.seq (.seq
 (.region [im 95 8, im 96 0, o1 97 (.lenK 96), o1 98 (.bin .lss 95 97)]) (.cond 98 .skip (.exit 8))) (.seq (.frame (rg [2] 101 14) [] false (.join [.si 2] (.block 9 (.seq (.region
 [im 101 0, im 102 8, o1 103 (.ixA 3 101 102), fa 104 1 103, ld 105 104, o1 106 (.bin .lss 105 (kI 0)), im 107 106, gf 108 107 (.mv 0), gf 109 107 (.mv 8), gf 110 107 (.ixA 3 108
 109), gf 111 107 (.fAddr 1 110), gf 112 107 (.load false 1 111), gf 113 107 (.bin .gtr 112 (kI 2147483647)), o1 114 (.pick 107 kT 113)]) (.cond 114 (.seq (.region [ia 2 (kI 3)])
 .ret) .skip))))) (.region [im 99 8, o1 100 (.bin .add 99 (kI 1)), ia 8 100])))))))) (.seq (.seq (.region [ia 9 (kI 0)]) (.frame (rg [2, 9, 10] 115 15) [] false (.join [.si 2]
 (.block 10 (.loop [.si 2, .si 9] (.seq (.seq (.region [im 115 9, im 116 0, o1 117 (.lenK 116), o1 118 (.bin .lss 115 117)]) (.cond 118 .skip (.exit 10))) (.seq (.frame (rg [2, 10]
 121 9) [] false (.join [.si 2] (.block 11 (.seq (.region [im 121 0, im 122 9, o1 123 (.ixA 3 121 122), fa 124 2 123, ld 125 124, oS ⟨some 126, .call
 Vv [125], none⟩ Cd, ia 10 126]) (.seq (.region [im 127 10, o1 128 (.bin .neq 127 (kI 0))]) (.cond 128 (.seq (.region [im 129 10, ia 2 129])
 .ret) .skip)))))) (.region [im 119 9, o1 120 (.bin .add 119 (kI 1)), ia 9 120])))))))) (.seq (.region [ia 2 (kI 0)]) .ret))))))))
def FK : AFn := ⟨ Vw, HR.erase, [.tmp 2], 1⟩
def Kr (P : Pg) (x : (List Commit)) (K : Int → Unit → Prop) : Prop :=
 (((decide ((x.length : Int) > (300 : Int))) = true → K (1 : Int) ()) ∧ ((decide ((x.length : Int) > (300 : Int))) = false → Aj (D := Int) (fun J1 => A3 (D := (Int × Int)) ((0 : Int), (0 : Int)) (fun d3 J4 => (((decide (d3.2 < (x.length : Int))) = true → Aj (D := Int) (fun J5 => (0 ≤ d3.2 ∧ d3.2 < (x.length : Int)) ∧
 (d3.2.toNat < x.length) ∧
 (((decide (((List.length (List.getD x d3.2.toNat Ai).1 : Nat) : Int) > (32 : Int))) = true → K (1 : Int) ()) ∧ ((decide (((List.length (List.getD x d3.2.toNat Ai).1 : Nat) : Int) > (32 : Int))) = false → J5 d3.1))) (fun d6 => J4 (d6, (i64.wrap (d3.2 + (1 : Int)))))) ∧ ((decide (d3.2 < (x.length : Int))) = false → J1 d3.1)))) (fun d2 => Aj (D := Int) (fun J7 => A3 (D := (Int × Int)) (d2, (0 : Int)) (fun d9 J10 => (((decide (d9.2 < (x.length : Int))) = true → Aj (D := Int) (fun J11 => Aj (D := Int) (fun J13 => A3 (D := (Int × Int)) (d9.1, (0 : Int)) (fun d15 J16 => (0 ≤ d9.2 ∧ d9.2 < (x.length : Int)) ∧
 (d9.2.toNat < x.length) ∧
 (((decide (d15.2 < ((List.length (List.getD x d9.2.toNat Ai).1 : Nat) : Int))) = true → Aj (D := Int) (fun J17 => (0 ≤ d9.2 ∧ d9.2 < (x.length : Int)) ∧
 (d9.2.toNat < x.length) ∧
 (0 ≤ d15.2 ∧ d15.2 < ((List.length (List.getD x d9.2.toNat Ai).1 : Nat) : Int)) ∧
 (d15.2.toNat < List.length (List.getD x d9.2.toNat Ai).1) ∧
 (((cond (decide ((List.getD (List.getD x d9.2.toNat Ai).1 d15.2.toNat (0 : Int)) < (0 : Int))) true (decide ((List.getD (List.getD x d9.2.toNat Ai).1 d15.2.toNat (0 : Int)) ≥ (x.length : Int)))) = false → 0 ≤ d9.2 ∧ d9.2 < (x.length : Int))) ∧
 (((cond (decide ((List.getD (List.getD x d9.2.toNat Ai).1 d15.2.toNat (0 : Int)) < (0 : Int))) true (decide ((List.getD (List.getD x d9.2.toNat Ai).1 d15.2.toNat (0 : Int)) ≥ (x.length : Int)))) = false → d9.2.toNat < x.length)) ∧
 (((cond (decide ((List.getD (List.getD x d9.2.toNat Ai).1 d15.2.toNat (0 : Int)) < (0 : Int))) true (decide ((List.getD (List.getD x d9.2.toNat Ai).1 d15.2.toNat (0 : Int)) ≥ (x.length : Int)))) = false → 0 ≤ d15.2 ∧ d15.2 ≤ ((List.length (List.getD x d9.2.toNat Ai).1 : Nat) : Int))) ∧
 Aj (D := Bool) (fun J19 => (((cond (decide ((List.getD (List.getD x d9.2.toNat Ai).1 d15.2.toNat (0 : Int)) < (0 : Int))) true (decide ((List.getD (List.getD x d9.2.toNat Ai).1 d15.2.toNat (0 : Int)) ≥ (x.length : Int)))) = false → Fn P YS DG ((List.take d15.2.toNat (List.getD x d9.2.toNat Ai).1), (List.getD (List.getD x d9.2.toNat Ai).1 d15.2.toNat (0 : Int))) (fun (d20 : Bool) _ => J19 d20)) ∧ (((cond (decide ((List.getD (List.getD x d9.2.toNat Ai).1 d15.2.toNat (0 : Int)) < (0 : Int))) true (decide ((List.getD (List.getD x d9.2.toNat Ai).1 d15.2.toNat (0 : Int)) ≥ (x.length : Int)))) = true → J19 false) ∧ True))) (fun d21 => (((cond (cond (decide ((List.getD (List.getD x d9.2.toNat Ai).1 d15.2.toNat (0 : Int)) < (0 : Int))) true (decide ((List.getD (List.getD x d9.2.toNat Ai).1 d15.2.toNat (0 : Int)) ≥ (x.length : Int)))) true d21) = true → K (230 : Int) ()) ∧ ((cond (cond (decide ((List.getD (List.getD x d9.2.toNat Ai).1 d15.2.toNat (0 : Int)) < (0 : Int))) true (decide ((List.getD (List.getD x d9.2.toNat Ai).1 d15.2.toNat (0 : Int)) ≥ (x.length : Int)))) true d21) = false → J17 d15.1)))) (fun d18 => J16 (d18, (i64.wrap (d15.2 + (1 : Int)))))) ∧ ((decide (d15.2 < ((List.length (List.getD x d9.2.toNat Ai).1 : Nat) : Int))) = false → J13 d15.1)))) (fun d14 => J11 d14)) (fun d12 => J10 (d12, (i64.wrap (d9.2 + (1 : Int)))))) ∧ ((decide (d9.2 < (x.length : Int))) = false → J7 d9.1)))) (fun d8 => Aj (D := Int) (fun J22 => A3 (D := (Int × Int)) (d8, (0 : Int)) (fun d24 J25 => (((decide (d24.2 < (x.length : Int))) = true → Aj (D := Int) (fun J26 => (0 ≤ d24.2 ∧ d24.2 < (x.length : Int)) ∧
 (d24.2.toNat < x.length) ∧
 (((decide (((List.length (List.getD x d24.2.toNat Ai).1 : Nat) : Int) > (0 : Int))) = true → (0 ≤ d24.2 ∧ d24.2 < (x.length : Int)) ∧
 (d24.2.toNat < x.length) ∧
 Fn P YR C4 (x, (List.getD x d24.2.toNat Ai).1) (fun (d28 : (List Bool)) (e29 : Unit) => (0 ≤ d24.2 ∧ d24.2 < (d28.length : Int)) ∧
 (d24.2.toNat < d28.length) ∧
 (((cond true (List.getD d28 d24.2.toNat false) false) = true → K (231 : Int) ()) ∧ ((cond true (List.getD d28 d24.2.toNat false) false) = false → J26 d24.1)))) ∧ ((decide (((List.length (List.getD x d24.2.toNat Ai).1 : Nat) : Int) > (0 : Int))) = false → (((cond false false false) = true → K (231 : Int) ()) ∧ ((cond false false false) = false → J26 d24.1))))) (fun d27 => J25 (d27, (i64.wrap (d24.2 + (1 : Int)))))) ∧ ((decide (d24.2 < (x.length : Int))) = false → J22 d24.1)))) (fun d23 => Aj (D := Int) (fun J30 => A3 (D := (Int × Int)) (d23, (0 : Int)) (fun d32 J33 => (((decide (d32.2 < (x.length : Int))) = true → Aj (D := Int) (fun J34 => (0 ≤ d32.2 ∧ d32.2 < (x.length : Int)) ∧
 (d32.2.toNat < x.length) ∧
 (((decide ((List.getD x d32.2.toNat Ai).2.1 < (0 : Int))) = false → 0 ≤ d32.2 ∧ d32.2 < (x.length : Int))) ∧
 (((decide ((List.getD x d32.2.toNat Ai).2.1 < (0 : Int))) = false → d32.2.toNat < x.length)) ∧
 (((cond (decide ((List.getD x d32.2.toNat Ai).2.1 < (0 : Int))) true (decide ((List.getD x d32.2.toNat Ai).2.1 > (2147483647 : Int)))) = true → K (3 : Int) ()) ∧ ((cond (decide ((List.getD x d32.2.toNat Ai).2.1 < (0 : Int))) true (decide ((List.getD x d32.2.toNat Ai).2.1 > (2147483647 : Int)))) = false → J34 d32.1))) (fun d35 => J33 (d35, (i64.wrap (d32.2 + (1 : Int)))))) ∧ ((decide (d32.2 < (x.length : Int))) = false → J30 d32.1)))) (fun d31 => Aj (D := Int) (fun J36 => A3 (D := (Int × Int)) (d31, (0 : Int)) (fun d38 J39 => (((decide (d38.2 < (x.length : Int))) = true → Aj (D := Int) (fun J40 => (0 ≤ d38.2 ∧ d38.2 < (x.length : Int)) ∧
 (d38.2.toNat < x.length) ∧
 Fn P Vv Cd (List.getD x d38.2.toNat Ai).2.2 (fun (d42 : Int) (e43 : Unit) => (((d42 != (0 : Int)) = true → K d42 ()) ∧ ((d42 != (0 : Int)) = false → J40 d38.1)))) (fun d41 => J39 (d41, (i64.wrap (d38.2 + (1 : Int)))))) ∧ ((decide (d38.2 < (x.length : Int))) = false → J36 d38.1)))) (fun d37 => K (0 : Int) ())))))))
theorem OG {P : Pg} (h : Has P FK) {x : DP Ce.ps} {K : DP Ce.rs → DP (ptrs Ce.ps) → Prop} (hw : Kr P x K) : Fn P Vw Ce x K :=
 Cb (c := HR) h rfl rfl (by kernel_rfl) (Eq.mpr (show B8 P FK Ce HR x K = _ by kernel_rfl) hw)
def DT : Br :=
 (.seq (.region [o1 4 (.asg kF)]) (.seq (.seq (.region [im 13 0, o1 14 (.lenK 13), o1 15 (.bin .gtr 14 (kI 6)), im 16 15, gf 17 16 (.mv 0), oS ⟨some 18, .call
 Vw [17], some (16, false)⟩ Ce, gf 19 16 (.bin .eql 18 (kI 0)), o1 20 (.pick 16 kT 19)]) (.cond 20 (.seq (.region [oS ⟨some 21, .call
 zS8 [], none⟩ B2, ia 4 21]) .ret) .skip)) (.seq (.region [im 22 0, oS ⟨some 23, .call Vw [22], none⟩
 Ce, ia 5 23]) (.seq (.region [im 25 0, im 26 1, oS ⟨some 27, .call zS5 [25, 26], none⟩ BC, im 24 27, o1 28 (.ext 24 0), o1 29 (.ext 24
 1), ia 6 28, ia 7 29]) (.seq (.region [im 31 0, im 32 1, oS ⟨some 33, .call Abj [31, 32], none⟩ Ed, im 30 33, o1 34 (.ext 30 0), o1 35
 (.ext 30 1), ia 8 34, ia 9 35]) (.seq (.region [im 37 0, im 38 1, oS ⟨some 39, .call zS7 [37, 38, (kI 0), (.c (.string ⟨#[97]⟩))], none⟩ BM, im 36
 39, o1 40 (.ext 36 0), o1 41 (.ext 36 1), o1 42 (.ext 36 2), ia 10 40, ia 11 41, ia 12 42]) (.seq (.region [im 43 7, im 44 5, o1 45 (.bin .eql 43 44), im 46 45, gt 47 46 (.mv 9),
 gt 48 46 (.mv 5), gt 49 46 (.bin .eql 47 48), o1 50 (.pick 46 49 kF), im 51 50, gt 52 51 (.mv 12), gt 53 51 (.mv 5), gt 54 51 (.bin .eql 52 53), o1 55 (.pick 51 54 kF), im 56 55,
 gt 57 56 (.mv 6), gt 58 56 (.lenK 57), gt 59 56 (.bin .eql 58 (kI 0)), o1 60 (.pick 56 59 kF), im 61 60, gt 62 61 (.mv 8), gt 63 61 (.lenK 62), gt 64 61 (.bin .eql 63 (kI 0)), o1
 65 (.pick 61 64 kF), im 66 65, oS ⟨some 67, .call zS8 [], some (66, true)⟩ B2, o1 68 (.pick 66 67 kF), ia 4 68]) .ret)))))))
def CT : AFn := ⟨ Abk, DT.erase, [.tmp 4], 2⟩
def E3 (P : Pg) (x : ((List Commit) × Int)) (K : Bool → Unit → Prop) : Prop :=
 Aj (D := Int) (fun J1 => (((decide ((x.1.length : Int) > (6 : Int))) = false → Fn P Vw Ce x.1 (fun (d2 : Int) _ => J1 d2)) ∧ (((decide ((x.1.length : Int) > (6 : Int))) = true → J1 (0 : Int)) ∧ True))) (fun d3 => (((cond (decide ((x.1.length : Int) > (6 : Int))) true (d3 == (0 : Int))) = true → Fn P zS8 B2 () (fun (d4 : Bool) (e5 : Unit) => K d4 ())) ∧ ((cond (decide ((x.1.length : Int) > (6 : Int))) true (d3 == (0 : Int))) = false → Fn P Vw Ce x.1 (fun (d6 : Int) (e7 : Unit) => Fn P zS5 BC x (fun (d8 : ((List (List ((List UInt8) × Int))) × Int)) (e9 : Unit) => Fn P Abj Ed x (fun (d10 : ((List (List UInt8)) × Int)) (e11 : Unit) => Fn P zS7 BM (x.1, (x.2, ((0 : Int), ([97] : List UInt8)))) (fun (d12 : ((List UInt8) × ((List UInt8) × Int))) (e13 : Unit) => Aj (D := Bool) (fun J14 => (((cond (cond (cond (cond (d8.2 == d6) (d10.2 == d6) false) (d12.2.2 == d6) false) ((d8.1.length : Int) == (0 : Int)) false) ((d10.1.length : Int) == (0 : Int)) false) = true → Fn P zS8 B2 () (fun (d15 : Bool) _ => J14 d15)) ∧ (((cond (cond (cond (cond (d8.2 == d6) (d10.2 == d6) false) (d12.2.2 == d6) false) ((d8.1.length : Int) == (0 : Int)) false) ((d10.1.length : Int) == (0 : Int)) false) = false → J14 false) ∧ True))) (fun d16 => K (cond (cond (cond (cond (cond (d8.2 == d6) (d10.2 == d6) false) (d12.2.2 == d6) false) ((d8.1.length : Int) == (0 : Int)) false) ((d10.1.length : Int) == (0 : Int)) false) d16 false) ()))))))))
theorem H4 {P : Pg} (h : Has P CT) {x : DP AY.ps} {K : DP AY.rs → DP (ptrs AY.ps) → Prop} (hw : E3 P x K) : Fn P Abk AY x K :=
 Cb (c := DT) h rfl rfl (by kernel_rfl) (Eq.mpr (show B8 P CT AY DT x K = _ by kernel_rfl) hw)
def JN : Br :=
 (.seq (.region [ia 4 (kI 0)]) (.seq (.seq (.region [im 6 0, oS ⟨some 7, .call zS0 [6], none⟩ BJ, ia 5 7]) (.seq (.region [im 8 5, o1 9 (.bin .neq 8 (kI
 0))]) (.cond 9 (.seq (.region [im 10 5, ia 4 10]) .ret) .skip))) (.seq (.region [im 11 1, oS ⟨some 12, .call zS0 [11], none⟩ BJ, ia 4 12]) .ret)))
def Ho : AFn := ⟨ "mergelens/tree.both", JN.erase, [.tmp 4], 2⟩
def Nc (P : Pg) (x : ((List ((List UInt8) × (List UInt8))) × (List ((List UInt8) × (List UInt8))))) (K : Int → Unit → Prop) : Prop :=
 Fn P zS0 BJ x.1 (fun (d1 : Int) (e2 : Unit) => (((d1 != (0 : Int)) = true → K d1 ()) ∧ ((d1 != (0 : Int)) = false → Fn P zS0 BJ x.2 (fun (d3 : Int) (e4 : Unit) => K d3 ()))))
theorem Rq {P : Pg} (h : Has P Ho) {x : DP Ee.ps} {K : DP Ee.rs → DP (ptrs Ee.ps) → Prop} (hw : Nc P x K) : Fn P "mergelens/tree.both" Ee x K :=
 Cb (c := JN) h rfl rfl (by kernel_rfl) (Eq.mpr (show B8 P Ho Ee JN x K = _ by kernel_rfl) hw)
end Go.VS
