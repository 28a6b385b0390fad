/- Functions of the program: typed code, and what it says, lifted. -/
import Derived.Test.YtbandpkgjepklaaKTxSig
import Derived.KernelRfl
set_option linter.unusedVariables false
set_option linter.unusedSimpArgs false
set_option maxRecDepth 8000
namespace Go.VS
open IntKind
def Et : Be :=
 (.seq (.region [ia 2 (kI 0)]) (.seq (.region [im 7 0, oS ⟨some 8, .call zS5 [7, (.c (.int .u8 94))], none⟩ Ax, im 9 8, ⟨⟨some 10,
 .mv 0, some (9, false)⟩, none, ⟨[], []⟩, false, some 9, true, false⟩, ⟨⟨some 11, .call zS5 [10, (.c (.int .u8 36))], some (9, false)⟩, none,
 Ax, false, none, true, true⟩, o1 12 (.pick 9 kT 11), ia 3 12]) (.seq (.region [im 13 0, oS ⟨some 14, .call XK [13], none⟩
 Bk, ia 4 14]) (.seq (.seq (.draw [(.first (im 15 0) (.first (o1 16 (.nilc 15)) (.first (fa 17 4 16) (.first (ld 18 17) (.first (o1 19 (.bin .neq 18 (kI 0)))
 (.first (im 20 19) (.first (gf 21 20 (.mv 0)) (.first (gf 22 20 (.nilc 21)) (.first (gf 23 20 (.fAddr 1 22)) (.first (gf 24 20 (.load false 1 23)) (.first (gf 25 20 (.mv 0))
 (.first (gf 26 20 (.nilc 25)) (.first (gf 27 20 (.fAddr 0 26)) (.first (gf 28 20 (.load false 1 27)) (.first (gf 29 20 (.lenS 28)) (.first (gf 30 20 (.bin .geq 24 29)) (.first (o1
 31 (.pick 20 kT 30)) .done)))))))))))))))))]) (.cond 31 (.seq (.region [im 32 4, ia 2 32]) .ret) .skip)) (.seq (.region [ia 5 (kI 0), ia 6 (kI (-1))]) (.seq (.seq (.draw [(.first
 (im 33 0) (.first (o1 34 (.nilc 33)) (.first (fa 35 0 34) (.first (ld 36 35) (.first (im 37 0) (.first (o1 38 (.nilc 37)) (.first (fa 39 1 38) (.first (ld 40 39) (.first (o1 41
 (.ixS 36 40)) .done)))))))))]) (.frame (rg [2, 5, 6] 42 14) [0] true (.join [.si 2, .si 5, .si 6, .bx 0 Ay (.pair .leaf (.pair .leaf (.pair .leaf (.pair (.node .own
 (.pair .leaf (.pair .leaf (.pair .leaf (.pair .leaf tM))))) .leaf))))] (.block 0 (.seq (.region [o1 44 (.bin .eql 41 (.c (.int .u8 42))), ia 43 44]) (.frame (rg [2, 5, 6, 42] 45
 11) [0] true (.join [.si 2, .si 5, .si 6, .bx 0 Ay (.pair .leaf (.pair .leaf (.pair .leaf (.pair (.node .own (.pair .leaf (.pair .leaf (.pair .leaf (.pair .leaf tM)))))
 .leaf))))] (.cond 43 .skip (.seq (.region [o1 46 (.bin .eql 41 (.c (.int .u8 43))), ia 45 46]) (.frame (rg [2, 5, 6, 42] 47 9) [0] true (.join [.si 2, .si 5, .si 6, .bx 0
 Ay (.pair .leaf (.pair .leaf (.pair .leaf (.pair (.node .own (.pair .leaf (.pair .leaf (.pair .leaf (.pair .leaf tM))))) .leaf))))] (.cond 45 (.region [ia 5 (kI 1)])
 (.seq (.region [o1 48 (.bin .eql 41 (.c (.int .u8 63))), ia 47 48]) (.frame (rg [2, 5, 6, 42] 49 7) [0] true (.join [.si 2, .si 5, .si 6, .bx 0 Ay (.pair .leaf (.pair
 .leaf (.pair .leaf (.pair (.node .own (.pair .leaf (.pair .leaf (.pair .leaf (.pair .leaf tM))))) .leaf))))] (.cond 47 (.region [ia 6 (kI 1)]) (.seq (.region [o1 50 (.bin .eql 41
 (.c (.int .u8 123))), ia 49 50]) (.cond 49 (.region [im 52 0, oS ⟨some 53, .call VK [52], none⟩ A6, im 51 53, o1 54
 (.ext 51 0), o1 55 (.ext 51 1), ia 5 54, ia 6 55]) (.seq (.region [im 42 4, ia 2 42]) .ret))))))))))))))))))) (.seq (.seq (.region [im 56 3, im 57 56, gf 58 57 (.mv 0), gf 59 57
 (.nilc 58), gf 60 57 (.fAddr 4 59), gf 61 57 (.load false 1 60), gf 62 57 (.bin .neq 61 (kI 0)), o1 63 (.pick 57 kT 62)]) (.cond 63 (.seq (.region [im 64 0, oS ⟨some 65, .call
 zS0 [64, (kI 40)], none⟩ Am, ia 2 65]) .ret) .skip)) (.seq (.region [im 66 0, o1 67 (.nilc 66), fa 68 1 67, ld 69 68, o1 70
 (.bin .add 69 (kI 1)), o1 71 (.nilc 66), fa 72 1 71, o0 ⟨none, .store 1 72 70, none⟩]) (.seq (.region [im 73 0, im 74 5, im 75 6, im 76 4, ⟨⟨some 77, .buildSl 1 [(.int .i64 0)] 1
 [(0, 76)], none⟩, some (bI, .leaf), ⟨[], []⟩, true, none, false, false⟩, o1 78 (.build [(.int .i64 0), (.int .u64 0), (.int .u64 0), (.int .u64 0), (.int .u64 0), (.int .i64 0),
 (.int .i64 0), (.slice none 0 0)] [(0, 1, (kI 6)), (5, 1, 74), (6, 1, 75), (7, 1, 77)]), oS ⟨some 79, .call zS2 [73, 78], none⟩
 Ar, ia 2 79]) .ret)))))))))
def BL : AFn := ⟨ Y4, Et.erase, [.tmp 2], 1⟩
def Gz (P : Pg) (x : Ab) (K : Int → Ab → Prop) : Prop :=
 Fn P zS5 Ax (x, (94 : Int)) (fun (d1 : Bool) (e2 : Ab) => ((d1 = true → Fn P XK Bk e2 (fun (d3 : Int) (e4 : Ab) => (((cond (e4.2.2.2.2 != (0 : Int)) true (decide (e4.2.1 ≥ (e4.1.length : Int)))) = true → K d3 e4) ∧ ((cond (e4.2.2.2.2 != (0 : Int)) true (decide (e4.2.1 ≥ (e4.1.length : Int)))) = false → (0 ≤ e4.2.1 ∧ e4.2.1 < (e4.1.length : Int)) ∧
 Ag (D := (Int × (Int × (Int × Ab)))) (fun J5 => Ag (D := (Int × (Int × (Int × Ab)))) (fun J7 => (((((e4.1.getD e4.2.1.toNat 0).toNat : Int) == (42 : Int)) = true → J7 ((0 : Int), ((0 : Int), ((-1 : Int), e4)))) ∧ ((((e4.1.getD e4.2.1.toNat 0).toNat : Int) == (42 : Int)) = false → Ag (D := (Int × (Int × (Int × Ab)))) (fun J9 => (((((e4.1.getD e4.2.1.toNat 0).toNat : Int) == (43 : Int)) = true → J9 ((0 : Int), ((1 : Int), ((-1 : Int), e4)))) ∧ ((((e4.1.getD e4.2.1.toNat 0).toNat : Int) == (43 : Int)) = false → Ag (D := (Int × (Int × (Int × Ab)))) (fun J11 => (((((e4.1.getD e4.2.1.toNat 0).toNat : Int) == (63 : Int)) = true → J11 ((0 : Int), ((0 : Int), ((1 : Int), e4)))) ∧ ((((e4.1.getD e4.2.1.toNat 0).toNat : Int) == (63 : Int)) = false → (((((e4.1.getD e4.2.1.toNat 0).toNat : Int) == (123 : Int)) = true → Fn P VK A6 e4 (fun (d13 : (Int × Int)) (e14 : Ab) => J11 ((0 : Int), (d13.1, (d13.2, e14))))) ∧ ((((e4.1.getD e4.2.1.toNat 0).toNat : Int) == (123 : Int)) = false → K d3 e4))))) (fun d12 => J9 d12)))) (fun d10 => J7 d10)))) (fun d8 => J5 d8)) (fun d6 => (((cond (cond true true false) true (d6.2.2.2.2.2.2.2 != (0 : Int))) = true → Fn P zS0 Am (d6.2.2.2, (40 : Int)) (fun (d15 : Int) (e16 : Ab) => K d15 e16)) ∧ ((cond (cond true true false) true (d6.2.2.2.2.2.2.2 != (0 : Int))) = false → Fn P zS2 Ar ((d6.2.2.2.1, ((i64.wrap (d6.2.2.2.2.1 + (1 : Int))), d6.2.2.2.2.2)), ((6 : Int), (((0 : Int), ((0 : Int), ((0 : Int), (0 : Int)))), (d6.2.1, (d6.2.2.1, ([d3] : List Int)))))) (fun (d17 : Int) (e18 : Ab) => K d17 e18)))))))) ∧ (d1 = false → Fn P zS5 Ax (e2, (36 : Int)) (fun (d19 : Bool) (e20 : Ab) => Fn P XK Bk e20 (fun (d21 : Int) (e22 : Ab) => (((cond (e22.2.2.2.2 != (0 : Int)) true (decide (e22.2.1 ≥ (e22.1.length : Int)))) = true → K d21 e22) ∧ ((cond (e22.2.2.2.2 != (0 : Int)) true (decide (e22.2.1 ≥ (e22.1.length : Int)))) = false → (0 ≤ e22.2.1 ∧ e22.2.1 < (e22.1.length : Int)) ∧
 Ag (D := (Int × (Int × (Int × Ab)))) (fun J23 => Ag (D := (Int × (Int × (Int × Ab)))) (fun J25 => (((((e22.1.getD e22.2.1.toNat 0).toNat : Int) == (42 : Int)) = true → J25 ((0 : Int), ((0 : Int), ((-1 : Int), e22)))) ∧ ((((e22.1.getD e22.2.1.toNat 0).toNat : Int) == (42 : Int)) = false → Ag (D := (Int × (Int × (Int × Ab)))) (fun J27 => (((((e22.1.getD e22.2.1.toNat 0).toNat : Int) == (43 : Int)) = true → J27 ((0 : Int), ((1 : Int), ((-1 : Int), e22)))) ∧ ((((e22.1.getD e22.2.1.toNat 0).toNat : Int) == (43 : Int)) = false → Ag (D := (Int × (Int × (Int × Ab)))) (fun J29 => (((((e22.1.getD e22.2.1.toNat 0).toNat : Int) == (63 : Int)) = true → J29 ((0 : Int), ((0 : Int), ((1 : Int), e22)))) ∧ ((((e22.1.getD e22.2.1.toNat 0).toNat : Int) == (63 : Int)) = false → (((((e22.1.getD e22.2.1.toNat 0).toNat : Int) == (123 : Int)) = true → Fn P VK A6 e22 (fun (d31 : (Int × Int)) (e32 : Ab) => J29 ((0 : Int), (d31.1, (d31.2, e32))))) ∧ ((((e22.1.getD e22.2.1.toNat 0).toNat : Int) == (123 : Int)) = false → K d21 e22))))) (fun d30 => J27 d30)))) (fun d28 => J25 d28)))) (fun d26 => J23 d26)) (fun d24 => (((cond (cond false true d19) true (d24.2.2.2.2.2.2.2 != (0 : Int))) = true → Fn P zS0 Am (d24.2.2.2, (40 : Int)) (fun (d33 : Int) (e34 : Ab) => K d33 e34)) ∧ ((cond (cond false true d19) true (d24.2.2.2.2.2.2.2 != (0 : Int))) = false → Fn P zS2 Ar ((d24.2.2.2.1, ((i64.wrap (d24.2.2.2.2.1 + (1 : Int))), d24.2.2.2.2.2)), ((6 : Int), (((0 : Int), ((0 : Int), ((0 : Int), (0 : Int)))), (d24.2.1, (d24.2.2.1, ([d21] : List Int)))))) (fun (d35 : Int) (e36 : Ab) => K d35 e36)))))))))))
theorem JP {P : Pg} (h : Has P BL) {x : DP Bu.ps} {K : DP Bu.rs → DP (ptrs Bu.ps) → Prop} (hw : Gz P x K) : Fn P Y4 Bu x K :=
 BI (c := Et) h rfl rfl (by kernel_rfl) (Eq.mpr (show BC P BL Bu Et x K = _ by kernel_rfl) hw)
def CT : Be :=
 (.seq (.region [ia 2 (kI 0)]) (.seq (.region [o1 3 (.asg (.c (.slice none 0 0)))]) (.seq (.frame (rg [] 3 55) [0] true (.join [.sl 3 false (.sl bI) tO, .bx 0 Ay (.pair
 .leaf (.pair .leaf (.pair .leaf (.pair (.node .own (.pair .leaf (.pair .leaf (.pair .leaf (.pair .leaf tM))))) .leaf))))] (.block 0 (.loop [.sl 3 false (.sl bI) tO, .bx 0
 Ay (.pair .leaf (.pair .leaf (.pair .leaf (.pair (.node .own (.pair .leaf (.pair .leaf (.pair .leaf (.pair .leaf tM))))) .leaf))))] (.seq (.seq (.draw [(.first (im 4 0)
 (.first (o1 5 (.nilc 4)) (.first (fa 6 4 5) (.first (ld 7 6) (.first (o1 8 (.bin .eql 7 (kI 0))) (.first (im 9 8) (.first (gt 10 9 (.mv 0)) (.first (gt 11 9 (.nilc 10)) (.first (gt
 12 9 (.fAddr 1 11)) (.first (gt 13 9 (.load false 1 12)) (.first (gt 14 9 (.mv 0)) (.first (gt 15 9 (.nilc 14)) (.first (gt 16 9 (.fAddr 0 15)) (.first (gt 17 9 (.load false 1 16))
 (.first (gt 18 9 (.lenS 17)) (.first (gt 19 9 (.bin .lss 13 18)) (.first (o1 20 (.pick 9 19 kF)) (.first (im 21 20) (.first (gt 22 21 (.mv 0)) (.first (gt 23 21 (.nilc 22)) (.first
 (gt 24 21 (.fAddr 0 23)) (.first (gt 25 21 (.load false 1 24)) (.first (gt 26 21 (.mv 0)) (.first (gt 27 21 (.nilc 26)) (.first (gt 28 21 (.fAddr 1 27)) (.first (gt 29 21 (.load
 false 1 28)) (.first (gt 30 21 (.ixS 25 29)) (.first (gt 31 21 (.bin .neq 30 (.c (.int .u8 124)))) (.first (o1 32 (.pick 21 31 kF)) (.first (im 33 32) (.first (gt 34 33 (.mv 0))
 (.first (gt 35 33 (.nilc 34)) (.first (gt 36 33 (.fAddr 0 35)) (.first (gt 37 33 (.load false 1 36)) (.first (gt 38 33 (.mv 0)) (.first (gt 39 33 (.nilc 38)) (.first (gt 40 33
 (.fAddr 1 39)) (.first (gt 41 33 (.load false 1 40)) (.first (gt 42 33 (.ixS 37 41)) (.first (gt 43 33 (.bin .eql 42 (.c (.int .u8 41)))) (.first (gt 44 33 (.mv 43)) (.first (gt 45
 44 (.mv 0)) (.first (gt 46 44 (.nilc 45)) (.first (gt 47 44 (.fAddr 2 46)) (.first (gt 48 44 (.load false 1 47)) (.first (gt 49 44 (.bin .gtr 48 (kI 0))) (.first (gt 50 33 (.pick
 44 49 kF)) (.first (gt 51 33 (.un .not 50)) (.first (o1 52 (.pick 33 51 kF)) .done)))))))))))))))))))))))))))))))))))))))))))))))))]) (.cond 52 .skip (.exit 0))) (.frame (rg [3] 53
 5) [0] true (.join [.sl 3 false (.sl bI) tO, .bx 0 Ay (.pair .leaf (.pair .leaf (.pair .leaf (.pair (.node .own (.pair .leaf (.pair .leaf (.pair .leaf (.pair .leaf
 tM))))) .leaf))))] (.block 1 (.region [im 53 3, im 54 0, oS ⟨some 55, .call Y4 [54], none⟩ Bu, oT ⟨some 56, .buildSl 1
 [(.int .i64 0)] 1 [(0, 55)], none⟩ (some (bI, .leaf)), oT ⟨some 57, .app 1 8 53 56, none⟩ (some (bI, .leaf)), ia 3 57]))))))))) (.seq (.frame (rg [2] 58 20) [0] true (.join [.si 2,
 .bx 0 Ay (.pair .leaf (.pair .leaf (.pair .leaf (.pair (.node .own (.pair .leaf (.pair .leaf (.pair .leaf (.pair .leaf tM))))) .leaf))))] (.block 2 (.seq (.region [im 59
 0, o1 60 (.nilc 59), fa 61 4 60, ld 62 61, o1 63 (.bin .neq 62 (kI 0)), ia 58 63]) (.cond 58 (.seq (.region [ia 2 (kI 0)]) .ret) (.seq (.region [im 65 3, o1 66 (.lenK 65), o1 67
 (.bin .eql 66 (kI 0)), ia 64 67]) (.cond 64 (.seq (.region [im 68 0, o1 69 (.build [(.int .i64 0), (.int .u64 0), (.int .u64 0), (.int .u64 0), (.int .u64 0), (.int .i64 0), (.int
 .i64 0), (.slice none 0 0)] [(0, 1, (kI 0))]), oS ⟨some 70, .call zS2 [68, 69], none⟩ Ar, ia 2 70]) .ret) (.seq (.region [im
 72 3, o1 73 (.lenK 72), o1 74 (.bin .eql 73 (kI 1)), ia 71 74]) (.cond 71 (.seq (.region [im 75 3, o1 76 (.ixA 1 75 (kI 0)), ld 77 76, ia 2 77]) .ret) .skip))))))))) (.seq (.frz
 [3] (.region [im 78 0, im 79 3, o1 80 (.build [(.int .i64 0), (.int .u64 0), (.int .u64 0), (.int .u64 0), (.int .u64 0), (.int .i64 0), (.int .i64 0), (.slice none 0 0)] [(0, 1,
 (kI 4)), (7, 1, 79)]), oS ⟨some 81, .call zS2 [78, 80], none⟩ Ar, ia 2 81])) .ret)))))
def Bl : AFn := ⟨ Un, CT.erase, [.tmp 2], 1⟩
def Ei (P : Pg) (x : Ab) (K : Int → Ab → Prop) : Prop :=
 Ag (D := ((List Int) × Ab)) (fun J1 => B0 (D := ((List Int) × Ab)) ([], x) (fun d3 J4 => (((cond (d3.2.2.2.2.2 == (0 : Int)) (decide (d3.2.2.1 < (d3.2.1.length : Int))) false) = true → 0 ≤ d3.2.2.1 ∧ d3.2.2.1 < (d3.2.1.length : Int))) ∧
 (((cond (cond (d3.2.2.2.2.2 == (0 : Int)) (decide (d3.2.2.1 < (d3.2.1.length : Int))) false) (((d3.2.1.getD d3.2.2.1.toNat 0).toNat : Int) != (124 : Int)) false) = true → 0 ≤ d3.2.2.1 ∧ d3.2.2.1 < (d3.2.1.length : Int))) ∧
 (((cond (cond (cond (d3.2.2.2.2.2 == (0 : Int)) (decide (d3.2.2.1 < (d3.2.1.length : Int))) false) (((d3.2.1.getD d3.2.2.1.toNat 0).toNat : Int) != (124 : Int)) false) (!(cond (((d3.2.1.getD d3.2.2.1.toNat 0).toNat : Int) == (41 : Int)) (decide (d3.2.2.2.1 > (0 : Int))) false)) false) = true → Ag (D := ((List Int) × Ab)) (fun J5 => Fn P Y4 Bu d3.2 (fun (d7 : Int) (e8 : Ab) => ((d3.1.length + List.length ([d7] : List Int)) * 8 ≤ 140737488355328) ∧
 J5 ((d3.1 ++ ([d7] : List Int)), e8))) (fun d6 => J4 d6)) ∧ ((cond (cond (cond (d3.2.2.2.2.2 == (0 : Int)) (decide (d3.2.2.1 < (d3.2.1.length : Int))) false) (((d3.2.1.getD d3.2.2.1.toNat 0).toNat : Int) != (124 : Int)) false) (!(cond (((d3.2.1.getD d3.2.2.1.toNat 0).toNat : Int) == (41 : Int)) (decide (d3.2.2.2.1 > (0 : Int))) false)) false) = false → J1 d3)))) (fun d2 => Ag (D := (Int × Ab)) (fun J9 => (((d2.2.2.2.2.2 != (0 : Int)) = true → K (0 : Int) d2.2) ∧ ((d2.2.2.2.2.2 != (0 : Int)) = false → ((((d2.1.length : Int) == (0 : Int)) = true → Fn P zS2 Ar (d2.2, ((0 : Int), (((0 : Int), ((0 : Int), ((0 : Int), (0 : Int)))), ((0 : Int), ((0 : Int), []))))) (fun (d11 : Int) (e12 : Ab) => K d11 e12)) ∧ (((d2.1.length : Int) == (0 : Int)) = false → ((((d2.1.length : Int) == (1 : Int)) = true → (0 ≤ (0 : Int) ∧ (0 : Int) < (d2.1.length : Int)) ∧
 ((Int.toNat (0 : Int)) < d2.1.length) ∧
 K (List.getD d2.1 (Int.toNat (0 : Int)) (0 : Int)) d2.2) ∧ (((d2.1.length : Int) == (1 : Int)) = false → J9 ((0 : Int), d2.2)))))))) (fun d10 => Fn P zS2 Ar (d10.2, ((4 : Int), (((0 : Int), ((0 : Int), ((0 : Int), (0 : Int)))), ((0 : Int), ((0 : Int), d2.1))))) (fun (d13 : Int) (e14 : Ab) => K d13 e14)))
theorem G6 {P : Pg} (h : Has P Bl) {x : DP AE.ps} {K : DP AE.rs → DP (ptrs AE.ps) → Prop} (hw : Ei P x K) : Fn P Un AE x K :=
 BI (c := CT) h rfl rfl (by kernel_rfl) (Eq.mpr (show BC P Bl AE CT x K = _ by kernel_rfl) hw)
def DR : Be :=
 (.seq (.region [ia 2 (kI 0)]) (.seq (.region [im 4 0, oS ⟨some 5, .call Un [4], none⟩ AE, oT ⟨some 6, .buildSl
 1 [(.int .i64 0)] 1 [(0, 5)], none⟩ (some (bI, .leaf)), ia 3 6]) (.seq (.frame (rg [3] 7 21) [0] true (.join [.sl 3 false (.sl bI) tO, .bx 0 Ay (.pair .leaf (.pair .leaf
 (.pair .leaf (.pair (.node .own (.pair .leaf (.pair .leaf (.pair .leaf (.pair .leaf tM))))) .leaf))))] (.block 0 (.loop [.sl 3 false (.sl bI) tO, .bx 0 Ay (.pair .leaf
 (.pair .leaf (.pair .leaf (.pair (.node .own (.pair .leaf (.pair .leaf (.pair .leaf (.pair .leaf tM))))) .leaf))))] (.seq (.seq (.region [im 7 0, o1 8 (.nilc 7), fa 9 4 8, ld 10 9,
 o1 11 (.bin .eql 10 (kI 0)), im 12 11, ⟨⟨some 13, .mv 0, some (12, true)⟩, none, ⟨[], []⟩, false, some 12, true, false⟩, ⟨⟨some 14, .call zS5
 [13, (.c (.int .u8 124))], some (12, true)⟩, none, Ax, false, none, true, true⟩, o1 15 (.pick 12 14 kF)]) (.cond 15 .skip (.exit 0))) (.frame (rg [3] 16 12) [0] true
 (.join [.sl 3 false (.sl bI) tO, .bx 0 Ay (.pair .leaf (.pair .leaf (.pair .leaf (.pair (.node .own (.pair .leaf (.pair .leaf (.pair .leaf (.pair .leaf tM)))))
 .leaf))))] (.block 1 (.seq (.region [im 16 0, o1 17 (.nilc 16), fa 18 1 17, ld 19 18, o1 20 (.bin .add 19 (kI 1)), o1 21 (.nilc 16), fa 22 1 21, o0 ⟨none, .store 1 22 20, none⟩])
 (.region [im 23 3, im 24 0, oS ⟨some 25, .call Un [24], none⟩ AE, oT ⟨some 26, .buildSl 1 [(.int .i64 0)] 1
 [(0, 25)], none⟩ (some (bI, .leaf)), oT ⟨some 27, .app 1 8 23 26, none⟩ (some (bI, .leaf)), ia 3 27])))))))))) (.seq (.seq (.region [im 28 0, o1 29 (.nilc 28), fa 30 4 29, ld 31
 30, o1 32 (.bin .neq 31 (kI 0)), im 33 32, gf 34 33 (.mv 3), gf 35 33 (.lenK 34), gf 36 33 (.bin .eql 35 (kI 1)), o1 37 (.pick 33 kT 36)]) (.cond 37 (.seq (.region [im 38 3, o1 39
 (.ixA 1 38 (kI 0)), ld 40 39, ia 2 40]) .ret) .skip)) (.seq (.frz [3] (.region [im 41 0, im 42 3, o1 43 (.build [(.int .i64 0), (.int .u64 0), (.int .u64 0), (.int .u64 0), (.int
 .u64 0), (.int .i64 0), (.int .i64 0), (.slice none 0 0)] [(0, 1, (kI 5)), (7, 1, 42)]), oS ⟨some 44, .call zS2 [41, 43], none⟩
 Ar, ia 2 44])) .ret)))))
def Cd : AFn := ⟨ VI, DR.erase, [.tmp 2], 1⟩
def Fs (P : Pg) (x : Ab) (K : Int → Ab → Prop) : Prop :=
 Fn P Un AE x (fun (d1 : Int) (e2 : Ab) => Ag (D := ((List Int) × Ab)) (fun J3 => B0 (D := ((List Int) × Ab)) (([d1] : List Int), e2) (fun d5 J6 => (((d5.2.2.2.2.2 == (0 : Int)) = true → Fn P zS5 Ax (d5.2, (124 : Int)) (fun (d7 : Bool) (e8 : Ab) => (((cond true d7 false) = true → Ag (D := ((List Int) × Ab)) (fun J9 => Fn P Un AE (e8.1, ((i64.wrap (e8.2.1 + (1 : Int))), e8.2.2)) (fun (d11 : Int) (e12 : Ab) => ((d5.1.length + List.length ([d11] : List Int)) * 8 ≤ 140737488355328) ∧
 J9 ((d5.1 ++ ([d11] : List Int)), e12))) (fun d10 => J6 d10)) ∧ ((cond true d7 false) = false → J3 (d5.1, e8))))) ∧ ((d5.2.2.2.2.2 == (0 : Int)) = false → (((cond false false false) = true → Ag (D := ((List Int) × Ab)) (fun J13 => Fn P Un AE (d5.2.1, ((i64.wrap (d5.2.2.1 + (1 : Int))), d5.2.2.2)) (fun (d15 : Int) (e16 : Ab) => ((d5.1.length + List.length ([d15] : List Int)) * 8 ≤ 140737488355328) ∧
 J13 ((d5.1 ++ ([d15] : List Int)), e16))) (fun d14 => J6 d14)) ∧ ((cond false false false) = false → J3 d5)))))) (fun d4 => (((cond (d4.2.2.2.2.2 != (0 : Int)) true ((d4.1.length : Int) == (1 : Int))) = true → (0 ≤ (0 : Int) ∧ (0 : Int) < (d4.1.length : Int)) ∧
 ((Int.toNat (0 : Int)) < d4.1.length) ∧
 K (List.getD d4.1 (Int.toNat (0 : Int)) (0 : Int)) d4.2) ∧ ((cond (d4.2.2.2.2.2 != (0 : Int)) true ((d4.1.length : Int) == (1 : Int))) = false → Fn P zS2 Ar (d4.2, ((5 : Int), (((0 : Int), ((0 : Int), ((0 : Int), (0 : Int)))), ((0 : Int), ((0 : Int), d4.1))))) (fun (d17 : Int) (e18 : Ab) => K d17 e18)))))
theorem IY {P : Pg} (h : Has P Cd) {x : DP A3.ps} {K : DP A3.rs → DP (ptrs A3.ps) → Prop} (hw : Fs P x K) : Fn P VI A3 x K :=
 BI (c := DR) h rfl rfl (by kernel_rfl) (Eq.mpr (show BC P Cd A3 DR x K = _ by kernel_rfl) hw)
def IH : Be :=
 (.seq (.region [o1 2 (.asg (.c (.slice none 0 0))), ia 3 (kI 0)]) (.seq (.seq (.region [im 5 0, o1 6 (.lenS 5), o1 7 (.bin .gtr 6 (kI 256))]) (.cond 7 (.seq (.region [o1 2 (.asg
 (.c (.slice none 0 0))), ia 3 (kI 1)]) .ret) .skip)) (.seq (.region [im 8 0, o1 9 (.build [(.string ⟨#[]⟩), (.int .i64 0), (.int .i64 0), (.slice none 0 0), (.int .i64 0)] [(0, 1,
 8)]), o1 10 (.box 9), ia 4 10]) (.seq (.region [im 11 4, oS ⟨some 12, .call VI [11], none⟩ A3]) (.seq (.seq (.region
 [im 13 4, o1 14 (.nilc 13), fa 15 4 14, ld 16 15, o1 17 (.bin .eql 16 (kI 0)), im 18 17, gt 19 18 (.mv 4), gt 20 18 (.nilc 19), gt 21 18 (.fAddr 1 20), gt 22 18 (.load false 1 21),
 gt 23 18 (.mv 0), gt 24 18 (.lenS 23), gt 25 18 (.bin .lss 22 24), o1 26 (.pick 18 25 kF)]) (.frame [27, 28] [1010] true (.join [.bx 1010 Ay (.pair .leaf (.pair .leaf
 (.pair .leaf (.pair (.node .own (.pair .leaf (.pair .leaf (.pair .leaf (.pair .leaf tM))))) .leaf))))] (.cond 26 (.region [im 27 4, oS ⟨some 28, .call
 zS0 [27, (kI 40)], none⟩ Am]) .skip)))) (.seq (.seq (.region [im 29 4, o1 30 (.nilc 29), fa 31 4 30, ld 32 31, o1 33 (.bin
 .neq 32 (kI 0))]) (.cond 33 (.seq (.frame (rg [2, 3] 34 4) [] false (.join [.sl 2 false (.sl Fc) (.node .own (.pair .leaf (.pair .leaf (.pair .leaf (.pair .leaf tM))))), .si 3]
 (.draw [(.first (im 34 4) (.first (o1 35 (.nilc 34)) (.first (fa 36 4 35) (.alt (ld 37 36) (.alt (o1 2 (.asg (.c (.slice none 0 0)))) (.alt (ia 3 37) .done .stop) .stop) (.alt (o1
 2 (.asg (.c (.slice none 0 0)))) (.first (ld 37 36) (.alt (ia 3 37) .done .stop)) .stop)))))]))) .ret) .skip)) (.seq (.region [im 38 4, o1 39 (.nilc 38), fa 40 3 39, ld 41 40, ia 2
 41, ia 3 (kI 0)]) .ret)))))))
def Gl : AFn := ⟨ YZ, IH.erase, [.tmp 2, .tmp 3], 1⟩
def LS (P : Pg) (x : (List UInt8)) (K : ((List Node) × Int) → Unit → Prop) : Prop :=
 (((decide ((x.length : Int) > (256 : Int))) = true → K ([], (1 : Int)) ()) ∧ ((decide ((x.length : Int) > (256 : Int))) = false → Fn P VI A3 (x, ((0 : Int), ((0 : Int), ([], (0 : Int))))) (fun (d1 : Int) (e2 : Ab) => Ag (D := Ab) (fun J3 => (((cond (e2.2.2.2.2 == (0 : Int)) (decide (e2.2.1 < (x.length : Int))) false) = true → Fn P zS0 Am (e2, (40 : Int)) (fun (d5 : Int) (e6 : Ab) => J3 e6)) ∧ ((cond (e2.2.2.2.2 == (0 : Int)) (decide (e2.2.1 < (x.length : Int))) false) = false → J3 e2))) (fun d4 => (((d4.2.2.2.2 != (0 : Int)) = true → Ag (D := ((List Node) × Int)) (fun J7 => (((J7 ([], d4.2.2.2.2)) ∧ True) ∧ True) ∧ (((J7 ([], d4.2.2.2.2)) ∧ True) ∧ True)) (fun d8 => K d8 ())) ∧ ((d4.2.2.2.2 != (0 : Int)) = false → K (d4.2.2.2.1, (0 : Int)) ()))))))
theorem PA {P : Pg} (h : Has P Gl) {x : DP B2.ps} {K : DP B2.rs → DP (ptrs B2.ps) → Prop} (hw : LS P x K) : Fn P YZ B2 x K :=
 BI (c := IH) h rfl rfl (by kernel_rfl) (Eq.mpr (show BC P Gl B2 IH x K = _ by kernel_rfl) hw)
def Mu : Be :=
 (.seq (.region [o1 4 (.asg kF)]) (.seq (.seq (.region [im 6 0, o1 7 (.lenK 6), im 8 1, o1 9 (.lenK 8), o1 10 (.bin .neq 7 9)]) (.cond 10 (.seq (.region [o1 4 (.asg kF)]) .ret)
 .skip)) (.seq (.seq (.region [ia 5 (kI 0)]) (.frame (rg [4, 5] 11 15) [] false (.join [.sl 4 false .bool .leaf] (.block 0 (.loop [.sl 4 false .bool .leaf, .si 5] (.seq (.seq
 (.region [im 11 5, im 12 0, o1 13 (.lenK 12), o1 14 (.bin .lss 11 13)]) (.cond 14 .skip (.exit 0))) (.seq (.frame (rg [4] 17 9) [] false (.join [.sl 4 false .bool .leaf] (.block 1
 (.seq (.draw [(.first (im 17 0) (.first (im 18 5) (.first (o1 19 (.ixA 1 17 18)) (.first (ld 20 19) (.first (im 21 1) (.first (im 22 5) (.first (o1 23 (.ixA 1 21 22)) (.first (ld
 24 23) (.first (o1 25 (.bin .neq 20 24)) .done)))))))))]) (.cond 25 (.seq (.region [o1 4 (.asg kF)]) .ret) .skip))))) (.region [im 15 5, o1 16 (.bin .add 15 (kI 1)), ia 5
 16])))))))) (.seq (.region [o1 4 (.asg kT)]) .ret))))
def Je : AFn := ⟨ Y5, Mu.erase, [.tmp 4], 2⟩
def Pc (P : Pg) (x : ((List Int) × (List Int))) (K : Bool → Unit → Prop) : Prop :=
 ((((x.1.length : Int) != (x.2.length : Int)) = true → K false ()) ∧ (((x.1.length : Int) != (x.2.length : Int)) = false → Ag (D := Bool) (fun J1 => B0 (D := (Bool × Int)) (false, (0 : Int)) (fun d3 J4 => (((decide (d3.2 < (x.1.length : Int))) = true → Ag (D := Bool) (fun J5 => (0 ≤ d3.2 ∧ d3.2 < (x.1.length : Int)) ∧
 (d3.2.toNat < x.1.length) ∧
 (0 ≤ d3.2 ∧ d3.2 < (x.2.length : Int)) ∧
 (d3.2.toNat < x.2.length) ∧
 ((((List.getD x.1 d3.2.toNat (0 : Int)) != (List.getD x.2 d3.2.toNat (0 : Int))) = true → K false ()) ∧ (((List.getD x.1 d3.2.toNat (0 : Int)) != (List.getD x.2 d3.2.toNat (0 : Int))) = false → J5 d3.1))) (fun d6 => J4 (d6, (i64.wrap (d3.2 + (1 : Int)))))) ∧ ((decide (d3.2 < (x.1.length : Int))) = false → J1 d3.1)))) (fun d2 => K true ())))
theorem SZ {P : Pg} (h : Has P Je) {x : DP Df.ps} {K : DP Df.rs → DP (ptrs Df.ps) → Prop} (hw : Pc P x K) : Fn P Y5 Df x K :=
 BI (c := Mu) h rfl rfl (by kernel_rfl) (Eq.mpr (show BC P Je Df Mu x K = _ by kernel_rfl) hw)
def IE : Be :=
 (.seq (.region [o1 0 (.asg kF)]) (.seq (.region [oS ⟨some 6, .call Y0 [(.c (.string ⟨#[97, 124, 98, 42]⟩))], none⟩ Cc, im 5 6, o1 7 (.ext 5 0), o1 8
 (.ext 5 1), ia 1 7, ia 2 8]) (.seq (.region [oS ⟨some 10, .call Y0 [(.c (.string ⟨#[97, 42, 42]⟩))], none⟩ Cc, im 9 10, o1 11 (.ext 9 0), o1 12
 (.ext 9 1), ia 3 11, ia 4 12]) (.seq (.region [im 13 2, o1 14 (.bin .eql 13 (kI 0)), im 15 14, gt 16 15 (.mv 4), gt 17 15 (.bin .eql 16 (kI 40)), o1 18 (.pick 15 17 kF), im 19 18,
 gt 20 19 (.mv 1), gt 21 19 (.lenK 20), gt 22 19 (.bin .eql 21 (kI 4)), o1 23 (.pick 19 22 kF), im 24 23, gt 25 24 (.mv 1), gt 26 24 (.ixA 8 25 (kI 2)), gt 27 24 (.fAddr 0 26), gt
 28 24 (.load false 1 27), gt 29 24 (.bin .eql 28 (kI 6)), o1 30 (.pick 24 29 kF), im 31 30, gt 32 31 (.mv 1), gt 33 31 (.ixA 8 32 (kI 2)), gt 34 31 (.fAddr 6 33), gt 35 31 (.load
 false 1 34), gt 36 31 (.bin .eql 35 (kI (-1))), o1 37 (.pick 31 36 kF), im 38 37, gt 39 38 (.mv 1), gt 40 38 (.ixA 8 39 (kI 3)), gt 41 38 (.fAddr 0 40), gt 42 38 (.load false 1
 41), gt 43 38 (.bin .eql 42 (kI 5)), o1 44 (.pick 38 43 kF), im 45 44, ⟨⟨some 46, .mv 1, some (45, true)⟩, none, ⟨[], []⟩, false, some 45, true, false⟩, ⟨⟨some 47, .ixA 8 46 (kI
 3), some (45, true)⟩, none, ⟨[], []⟩, false, none, true, false⟩, ⟨⟨some 48, .fAddr 7 47, some (45, true)⟩, none, ⟨[], []⟩, false, none, true, false⟩, ⟨⟨some 49, .load false 1 48,
 some (45, true)⟩, none, ⟨[], []⟩, false, none, true, false⟩, ⟨⟨some 50, .buildSl 1 [(.int .i64 0)] 2 [(0, (kI 0)), (1, (kI 2))], some (45, true)⟩, some (bI, .leaf), ⟨[], []⟩,
 false, none, true, false⟩, ⟨⟨some 51, .call Y5 [49, 50], some (45, true)⟩, none, Df, false, none, true, true⟩, o1 52 (.pick 45 51 kF), ia 0 52])
 .ret))))
def Gj : AFn := ⟨ QU, IE.erase, [.tmp 0], 0⟩
def LQ (P : Pg) (x : Unit) (K : Bool → Unit → Prop) : Prop :=
 Fn P Y0 Cc ([97, 124, 98, 42] : List UInt8) (fun (d1 : ((List Node) × Int)) (e2 : Unit) => Fn P Y0 Cc ([97, 42, 42] : List UInt8) (fun (d3 : ((List Node) × Int)) (e4 : Unit) => (((cond (cond (d1.2 == (0 : Int)) (d3.2 == (40 : Int)) false) ((d1.1.length : Int) == (4 : Int)) false) = true → 0 ≤ (2 : Int) ∧ (2 : Int) < (d1.1.length : Int))) ∧
 (((cond (cond (d1.2 == (0 : Int)) (d3.2 == (40 : Int)) false) ((d1.1.length : Int) == (4 : Int)) false) = true → (Int.toNat (2 : Int)) < d1.1.length)) ∧
 (((cond (cond (cond (d1.2 == (0 : Int)) (d3.2 == (40 : Int)) false) ((d1.1.length : Int) == (4 : Int)) false) ((List.getD d1.1 (Int.toNat (2 : Int)) Ak).1 == (6 : Int)) false) = true → 0 ≤ (2 : Int) ∧ (2 : Int) < (d1.1.length : Int))) ∧
 (((cond (cond (cond (d1.2 == (0 : Int)) (d3.2 == (40 : Int)) false) ((d1.1.length : Int) == (4 : Int)) false) ((List.getD d1.1 (Int.toNat (2 : Int)) Ak).1 == (6 : Int)) false) = true → (Int.toNat (2 : Int)) < d1.1.length)) ∧
 (((cond (cond (cond (cond (d1.2 == (0 : Int)) (d3.2 == (40 : Int)) false) ((d1.1.length : Int) == (4 : Int)) false) ((List.getD d1.1 (Int.toNat (2 : Int)) Ak).1 == (6 : Int)) false) ((List.getD d1.1 (Int.toNat (2 : Int)) Ak).2.2.2.1 == (-1 : Int)) false) = true → 0 ≤ (3 : Int) ∧ (3 : Int) < (d1.1.length : Int))) ∧
 (((cond (cond (cond (cond (d1.2 == (0 : Int)) (d3.2 == (40 : Int)) false) ((d1.1.length : Int) == (4 : Int)) false) ((List.getD d1.1 (Int.toNat (2 : Int)) Ak).1 == (6 : Int)) false) ((List.getD d1.1 (Int.toNat (2 : Int)) Ak).2.2.2.1 == (-1 : Int)) false) = true → (Int.toNat (3 : Int)) < d1.1.length)) ∧
 (((cond (cond (cond (cond (cond (d1.2 == (0 : Int)) (d3.2 == (40 : Int)) false) ((d1.1.length : Int) == (4 : Int)) false) ((List.getD d1.1 (Int.toNat (2 : Int)) Ak).1 == (6 : Int)) false) ((List.getD d1.1 (Int.toNat (2 : Int)) Ak).2.2.2.1 == (-1 : Int)) false) ((List.getD d1.1 (Int.toNat (3 : Int)) Ak).1 == (5 : Int)) false) = true → (0 ≤ (3 : Int) ∧ (3 : Int) < (d1.1.length : Int)) ∧
 ((Int.toNat (3 : Int)) < d1.1.length) ∧
 Fn P Y5 Df ((List.getD d1.1 (Int.toNat (3 : Int)) Ak).2.2.2.2, ([(0 : Int), (2 : Int)] : List Int)) (fun (d5 : Bool) (e6 : Unit) => K (cond true d5 false) ())) ∧ ((cond (cond (cond (cond (cond (d1.2 == (0 : Int)) (d3.2 == (40 : Int)) false) ((d1.1.length : Int) == (4 : Int)) false) ((List.getD d1.1 (Int.toNat (2 : Int)) Ak).1 == (6 : Int)) false) ((List.getD d1.1 (Int.toNat (2 : Int)) Ak).2.2.2.1 == (-1 : Int)) false) ((List.getD d1.1 (Int.toNat (3 : Int)) Ak).1 == (5 : Int)) false) = false → K (cond false false false) ()))))
theorem Py {P : Pg} (h : Has P Gj) {x : DP Cx.ps} {K : DP Cx.rs → DP (ptrs Cx.ps) → Prop} (hw : LQ P x K) : Fn P QU Cx x K :=
 BI (c := IE) h rfl rfl (by kernel_rfl) (Eq.mpr (show BC P Gj Cx IE x K = _ by kernel_rfl) hw)
def AbP : Be :=
 (.seq (.region [o1 1 (.box 0), o1 2 (.asg kF)]) (.seq (.region [fa 3 5 1, ld 4 3, o1 5 (.bin .geq 4 (kI 0)), im 6 5, gt 7 6 (.fAddr 5 1), gt 8 6 (.load false 1 7), gt 9 6 (.bin
 .leq 8 (kI 100)), o1 10 (.pick 6 9 kF), im 11 10, gt 12 11 (.fAddr 6 1), gt 13 11 (.load false 1 12), gt 14 11 (.bin .eql 13 (kI (-1))), gt 15 11 (.mv 14), gf 16 15 (.fAddr 6 1),
 gf 17 15 (.load false 1 16), gf 18 15 (.fAddr 5 1), gf 19 15 (.load false 1 18), gf 20 15 (.bin .geq 17 19), gf 21 15 (.mv 20), gt 22 21 (.fAddr 6 1), gt 23 21 (.load false 1 22),
 gt 24 21 (.bin .leq 23 (kI 100)), gf 25 15 (.pick 21 24 kF), gt 26 11 (.pick 15 kT 25), o1 27 (.pick 11 26 kF), ia 2 27]) .ret))
def AbM : AFn := ⟨ Y6, AbP.erase, [.tmp 2], 1⟩
def AbY (P : Pg) (x : Node) (K : Bool → Unit → Prop) : Prop :=
 K (cond (cond (decide (x.2.2.1 ≥ (0 : Int))) (decide (x.2.2.1 ≤ (100 : Int))) false) (cond (x.2.2.2.1 == (-1 : Int)) true (cond (decide (x.2.2.2.1 ≥ x.2.2.1)) (decide (x.2.2.2.1 ≤ (100 : Int))) false)) false) ()
theorem Ab9 {P : Pg} (h : Has P AbM) {x : DP AbD.ps} {K : DP AbD.rs → DP (ptrs AbD.ps) → Prop} (hw : AbY P x K) : Fn P Y6 AbD x K :=
 BI (c := AbP) h rfl rfl (by kernel_rfl) (Eq.mpr (show BC P AbM AbD AbP x K = _ by kernel_rfl) hw)
def AbV : Be :=
 (.seq (.region [o1 2 (.box 0), o1 4 (.asg kF)]) (.seq (.seq (.region [fa 7 7 2, ld 8 7, o1 9 (.lenK 8), o1 10 (.mv (kI 0))]) (.frame (rg [4, 6] 10 12) [] false (.join [.sl 4 false
 .bool .leaf] (.block 0 (.loop [.sl 4 false .bool .leaf, .si 10] (.seq (.region [o1 11 (.bin .lss 10 9)]) (.seq (.cond 11 .skip (.exit 0)) (.seq (.frame (rg [4, 6] 12 9) [] false
 (.join [.sl 4 false .bool .leaf] (.block 1 (.seq (.region [o1 12 (.ixA 1 8 10), ld 13 12, ia 6 13]) (.seq (.region [im 14 6, o1 15 (.bin .lss 14 (kI 0)), im 16 15, gf 17 16 (.mv
 6), gf 18 16 (.mv 1), gf 19 16 (.bin .geq 17 18), o1 20 (.pick 16 kT 19)]) (.cond 20 (.seq (.region [o1 4 (.asg kF)]) .ret) .skip)))))) (.region [o1 21 (.bin .add 10 (kI 1)), im 10
 21]))))))))) (.seq (.seq (.region [fa 22 0 2, ld 23 22]) (.frame (rg [4] 24 26) [] false (.join [.sl 4 false .bool .leaf] (.block 2 (.seq (.seq (.region [o1 25 (.bin .eql 23 (kI
 0)), ia 24 25]) (.frame [24, 26, 27, 28] [] false (.join [.sl 24 false .bool .leaf] (.cond 24 .skip (.seq (.region [o1 26 (.bin .eql 23 (kI 1)), ia 24 26]) (.frame [24, 27, 28] []
 false (.join [.sl 24 false .bool .leaf] (.cond 24 .skip (.seq (.region [o1 27 (.bin .eql 23 (kI 2)), ia 24 27]) (.frame [24, 28] [] false (.join [.sl 24 false .bool .leaf] (.cond
 24 .skip (.region [o1 28 (.bin .eql 23 (kI 3)), ia 24 28]))))))))))))) (.cond 24 (.seq (.region [fa 29 7 2, ld 30 29, o1 31 (.lenK 30), o1 32 (.bin .eql 31 (kI 0)), ia 4 32]) .ret)
 (.seq (.seq (.region [o1 34 (.bin .eql 23 (kI 4)), ia 33 34]) (.frame [33, 35] [] false (.join [.sl 33 false .bool .leaf] (.cond 33 .skip (.region [o1 35 (.bin .eql 23 (kI 5)), ia
 33 35]))))) (.cond 33 (.seq (.region [fa 36 7 2, ld 37 36, o1 38 (.lenK 37), o1 39 (.bin .geq 38 (kI 2)), ia 4 39]) .ret) (.seq (.region [o1 41 (.bin .eql 23 (kI 6)), ia 40 41])
 (.cond 40 (.seq (.region [fa 42 7 2, ld 43 42, o1 44 (.lenK 43), o1 45 (.bin .eql 44 (kI 1)), im 46 45, gt 47 46 (.load true 8 2), oS ⟨some 48, .call Y6
 [47], some (46, true)⟩ AbD, o1 49 (.pick 46 48 kF), ia 4 49]) .ret) .skip)))))))))) (.seq (.region [o1 4 (.asg kF)]) .ret))))
def AbU : AFn := ⟨ Y7, AbV.erase, [.tmp 4], 2⟩
def Ab4 (P : Pg) (x : (Node × Int)) (K : Bool → Unit → Prop) : Prop :=
 Ag (D := Bool) (fun J1 => B0 (D := (Bool × Int)) (false, (0 : Int)) (fun d3 J4 => (((decide (d3.2 < (x.1.2.2.2.2.length : Int))) = true → Ag (D := Bool) (fun J5 => (0 ≤ d3.2 ∧ d3.2 < (x.1.2.2.2.2.length : Int)) ∧
 (d3.2.toNat < x.1.2.2.2.2.length) ∧
 (((cond (decide ((List.getD x.1.2.2.2.2 d3.2.toNat (0 : Int)) < (0 : Int))) true (decide ((List.getD x.1.2.2.2.2 d3.2.toNat (0 : Int)) ≥ x.2))) = true → K false ()) ∧ ((cond (decide ((List.getD x.1.2.2.2.2 d3.2.toNat (0 : Int)) < (0 : Int))) true (decide ((List.getD x.1.2.2.2.2 d3.2.toNat (0 : Int)) ≥ x.2))) = false → J5 d3.1))) (fun d6 => J4 (d6, (i64.wrap (d3.2 + (1 : Int)))))) ∧ ((decide (d3.2 < (x.1.2.2.2.2.length : Int))) = false → J1 d3.1)))) (fun d2 => Ag (D := Bool) (fun J7 => Ag (D := Bool) (fun J9 => (((x.1.1 == (0 : Int)) = true → J9 (x.1.1 == (0 : Int))) ∧ ((x.1.1 == (0 : Int)) = false → Ag (D := Bool) (fun J11 => (((x.1.1 == (1 : Int)) = true → J11 (x.1.1 == (1 : Int))) ∧ ((x.1.1 == (1 : Int)) = false → Ag (D := Bool) (fun J13 => (((x.1.1 == (2 : Int)) = true → J13 (x.1.1 == (2 : Int))) ∧ ((x.1.1 == (2 : Int)) = false → J13 (x.1.1 == (3 : Int))))) (fun d14 => J11 d14)))) (fun d12 => J9 d12)))) (fun d10 => ((d10 = true → K ((x.1.2.2.2.2.length : Int) == (0 : Int)) ()) ∧ (d10 = false → Ag (D := Bool) (fun J15 => (((x.1.1 == (4 : Int)) = true → J15 (x.1.1 == (4 : Int))) ∧ ((x.1.1 == (4 : Int)) = false → J15 (x.1.1 == (5 : Int))))) (fun d16 => ((d16 = true → K (decide ((x.1.2.2.2.2.length : Int) ≥ (2 : Int))) ()) ∧ (d16 = false → (((x.1.1 == (6 : Int)) = true → Ag (D := Bool) (fun J17 => ((((x.1.2.2.2.2.length : Int) == (1 : Int)) = true → Fn P Y6 AbD x.1 (fun (d18 : Bool) _ => J17 d18)) ∧ ((((x.1.2.2.2.2.length : Int) == (1 : Int)) = false → J17 false) ∧ True))) (fun d19 => K (cond ((x.1.2.2.2.2.length : Int) == (1 : Int)) d19 false) ())) ∧ ((x.1.1 == (6 : Int)) = false → J7 d2))))))))) (fun d8 => K false ()))
theorem Ack {P : Pg} (h : Has P AbU) {x : DP AbE.ps} {K : DP AbE.rs → DP (ptrs AbE.ps) → Prop} (hw : Ab4 P x K) : Fn P Y7 AbE x K :=
 BI (c := AbV) h rfl rfl (by kernel_rfl) (Eq.mpr (show BC P AbU AbE AbV x K = _ by kernel_rfl) hw)
def AbS : Be :=
 (.seq (.region [ia 2 (kI 0)]) (.seq (.seq (.region [im 5 0, o1 6 (.lenK 5), o1 7 (.bin .eql 6 (kI 0)), im 8 7, gf 9 8 (.mv 0), gf 10 8 (.lenK 9), gf 11 8 (.bin .gtr 10 (kI 4000)),
 o1 12 (.pick 8 kT 11)]) (.cond 12 (.seq (.region [ia 2 (kI 2)]) .ret) .skip)) (.seq (.seq (.region [im 13 0, o1 14 (.lenK 13), o1 15 (.mv (kI 0))]) (.frame (rg [2, 3, 4] 15 10)
 [1004] false (.join [.si 2] (.block 0 (.loop [.si 2, .si 15] (.seq (.region [o1 16 (.bin .lss 15 14)]) (.seq (.cond 16 .skip (.exit 0)) (.seq (.frame (rg [2, 3, 4] 17 7) [1004]
 false (.join [.si 2] (.block 1 (.seq (.region [im 17 15, o1 18 (.ixA 8 13 15), o1 19 (.load true 8 18), o1 4 (.alloc [(.int .i64 0), (.int .u64 0), (.int .u64 0), (.int .u64 0),
 (.int .u64 0), (.int .i64 0), (.int .i64 0), (.slice none 0 0)]), ia 3 17, o0 ⟨none, .store 8 4 19, none⟩]) (.seq (.region [o1 20 (.load true 8 4), im 21 3, oS ⟨some 22, .call
 Y7 [20, 21], none⟩ AbE, o1 23 (.un .not 22)]) (.cond 23 (.seq (.region [ia 2 (kI 2)]) .ret) .skip)))))) (.region [o1 24 (.bin .add 15 (kI 1)), im 15
 24]))))))))) (.seq (.region [ia 2 (kI 0)]) .ret))))
def AbR : AFn := ⟨ QV, AbS.erase, [.tmp 2], 1⟩
def Ab0 (P : Pg) (x : (List Node)) (K : Int → Unit → Prop) : Prop :=
 (((cond ((x.length : Int) == (0 : Int)) true (decide ((x.length : Int) > (4000 : Int)))) = true → K (2 : Int) ()) ∧ ((cond ((x.length : Int) == (0 : Int)) true (decide ((x.length : Int) > (4000 : Int)))) = false → Ag (D := Int) (fun J1 => B0 (D := (Int × Int)) ((0 : Int), (0 : Int)) (fun d3 J4 => (((decide (d3.2 < (x.length : Int))) = true → Ag (D := Int) (fun J5 => (0 ≤ d3.2 ∧ d3.2 < (x.length : Int)) ∧
 (d3.2.toNat < x.length) ∧
 Fn P Y7 AbE ((List.getD x d3.2.toNat Ak), d3.2) (fun (d7 : Bool) (e8 : Unit) => (((!d7) = true → K (2 : Int) ()) ∧ ((!d7) = false → J5 d3.1)))) (fun d6 => J4 (d6, (i64.wrap (d3.2 + (1 : Int)))))) ∧ ((decide (d3.2 < (x.length : Int))) = false → J1 d3.1)))) (fun d2 => K (0 : Int) ())))
theorem Ach {P : Pg} (h : Has P AbR) {x : DP AbF.ps} {K : DP AbF.rs → DP (ptrs AbF.ps) → Prop} (hw : Ab0 P x K) : Fn P QV AbF x K :=
 BI (c := AbS) h rfl rfl (by kernel_rfl) (Eq.mpr (show BC P AbR AbF AbS x K = _ by kernel_rfl) hw)
def AeH : Be :=
 (.seq (.region [o1 2 (.box 0), ia 4 (kI 0)]) (.seq (.region [ia 5 (kI 0)]) (.seq (.seq (.region [fa 8 7 2, ld 9 8, o1 10 (.lenK 9), o1 11 (.mv (kI 0))]) (.frame (rg [5, 7] 11 12)
 [] false (.join [.si 5] (.block 0 (.loop [.si 5, .si 11] (.seq (.region [o1 12 (.bin .lss 11 10)]) (.seq (.cond 12 .skip (.exit 0)) (.seq (.frame (rg [5, 7] 13 9) [] false (.join
 [.si 5] (.block 1 (.seq (.region [o1 13 (.ixA 1 9 11), ld 14 13, ia 7 14]) (.region [im 15 5, im 16 1, im 17 7, o1 18 (.ixA 1 16 17), ld 19 18, o1 20 (.bin .add 15 19), o1 21 (.mm
 false 20 (kI 4001)), ia 5 21]))))) (.region [o1 22 (.bin .add 11 (kI 1)), im 11 22]))))))))) (.seq (.seq (.region [fa 23 0 2, ld 24 23]) (.frame (rg [4] 25 39) [] false (.join [.si
 4] (.block 2 (.seq (.region [o1 26 (.bin .eql 24 (kI 4)), ia 25 26]) (.cond 25 (.seq (.region [im 27 5, ia 4 27]) .ret) (.seq (.region [o1 29 (.bin .eql 24 (kI 5)), ia 28 29])
 (.cond 28 (.seq (.region [im 30 5, fa 31 7 2, ld 32 31, o1 33 (.lenK 32), o1 34 (.bin .add 30 33), o1 35 (.bin .sub 34 (kI 1)), o1 36 (.mm false 35 (kI 4001)), ia 4 36]) .ret)
 (.seq (.region [o1 38 (.bin .eql 24 (kI 6)), ia 37 38]) (.cond 37 (.seq (.seq (.region [fa 39 6 2, ld 40 39, o1 41 (.bin .lss 40 (kI 0))]) (.cond 41 (.seq (.region [fa 42 5 2, ld
 43 42, im 44 5, o1 45 (.bin .mul 43 44), im 46 5, o1 47 (.bin .add 45 46), o1 48 (.bin .add 47 (kI 1)), o1 49 (.mm false 48 (kI 4001)), ia 4 49]) .ret) .skip)) (.seq (.region [fa
 50 5 2, ld 51 50, im 52 5, o1 53 (.bin .mul 51 52), fa 54 6 2, ld 55 54, fa 56 5 2, ld 57 56, o1 58 (.bin .sub 55 57), im 59 5, o1 60 (.bin .add 59 (kI 1)), o1 61 (.bin .mul 58
 60), o1 62 (.bin .add 53 61), o1 63 (.mm false 62 (kI 4001)), ia 4 63]) .ret)) .skip)))))))))) (.seq (.region [ia 4 (kI 1)]) .ret)))))
def Ad6 : AFn := ⟨ AaZ, AeH.erase, [.tmp 4], 2⟩
def Afw (P : Pg) (x : (Node × (List Int))) (K : Int → Unit → Prop) : Prop :=
 Ag (D := Int) (fun J1 => B0 (D := (Int × Int)) ((0 : Int), (0 : Int)) (fun d3 J4 => (((decide (d3.2 < (x.1.2.2.2.2.length : Int))) = true → Ag (D := Int) (fun J5 => (0 ≤ d3.2 ∧ d3.2 < (x.1.2.2.2.2.length : Int)) ∧
 (d3.2.toNat < x.1.2.2.2.2.length) ∧
 (0 ≤ (List.getD x.1.2.2.2.2 d3.2.toNat (0 : Int)) ∧ (List.getD x.1.2.2.2.2 d3.2.toNat (0 : Int)) < (x.2.length : Int)) ∧
 ((Int.toNat (List.getD x.1.2.2.2.2 d3.2.toNat (0 : Int))) < x.2.length) ∧
 J5 (if (4001 : Int) < (i64.wrap (d3.1 + (List.getD x.2 (Int.toNat (List.getD x.1.2.2.2.2 d3.2.toNat (0 : Int))) (0 : Int)))) then (4001 : Int) else (i64.wrap (d3.1 + (List.getD x.2 (Int.toNat (List.getD x.1.2.2.2.2 d3.2.toNat (0 : Int))) (0 : Int)))))) (fun d6 => J4 (d6, (i64.wrap (d3.2 + (1 : Int)))))) ∧ ((decide (d3.2 < (x.1.2.2.2.2.length : Int))) = false → J1 d3.1)))) (fun d2 => Ag (D := Int) (fun J7 => (((x.1.1 == (4 : Int)) = true → K d2 ()) ∧ ((x.1.1 == (4 : Int)) = false → (((x.1.1 == (5 : Int)) = true → K (if (4001 : Int) < (i64.wrap ((i64.wrap (d2 + (x.1.2.2.2.2.length : Int))) - (1 : Int))) then (4001 : Int) else (i64.wrap ((i64.wrap (d2 + (x.1.2.2.2.2.length : Int))) - (1 : Int)))) ()) ∧ ((x.1.1 == (5 : Int)) = false → (((x.1.1 == (6 : Int)) = true → (((decide (x.1.2.2.2.1 < (0 : Int))) = true → K (if (4001 : Int) < (i64.wrap ((i64.wrap ((i64.wrap (x.1.2.2.1 * d2)) + d2)) + (1 : Int))) then (4001 : Int) else (i64.wrap ((i64.wrap ((i64.wrap (x.1.2.2.1 * d2)) + d2)) + (1 : Int)))) ()) ∧ ((decide (x.1.2.2.2.1 < (0 : Int))) = false → K (if (4001 : Int) < (i64.wrap ((i64.wrap (x.1.2.2.1 * d2)) + (i64.wrap ((i64.wrap (x.1.2.2.2.1 - x.1.2.2.1)) * (i64.wrap (d2 + (1 : Int))))))) then (4001 : Int) else (i64.wrap ((i64.wrap (x.1.2.2.1 * d2)) + (i64.wrap ((i64.wrap (x.1.2.2.2.1 - x.1.2.2.1)) * (i64.wrap (d2 + (1 : Int)))))))) ()))) ∧ ((x.1.1 == (6 : Int)) = false → J7 (0 : Int)))))))) (fun d8 => K (1 : Int) ()))
theorem Agz {P : Pg} (h : Has P Ad6) {x : DP Adm.ps} {K : DP Adm.rs → DP (ptrs Adm.ps) → Prop} (hw : Afw P x K) : Fn P AaZ Adm x K :=
 BI (c := AeH) h rfl rfl (by kernel_rfl) (Eq.mpr (show BC P Ad6 Adm AeH x K = _ by kernel_rfl) hw)
def Aer : Be :=
 (.seq (.region [o1 2 (.asg (.c (.slice none 0 0)))]) (.seq (.region [im 6 0, o1 7 (.lenK 6), oT ⟨some 8, .mkSl 1 8 [(.int .i64 0)] 7 7, none⟩ (some (bI, .leaf)), ia 3 8]) (.seq
 (.seq (.region [im 9 0, o1 10 (.lenK 9), o1 11 (.mv (kI 0))]) (.frame (rg [3, 4, 5] 11 12) [1005] false (.join [.sl 3 false (.sl bI) tO] (.block 0 (.loop [.sl 3 false (.sl bI) tO,
 .si 11] (.seq (.region [o1 12 (.bin .lss 11 10)]) (.seq (.cond 12 .skip (.exit 0)) (.seq (.frame (rg [3, 4, 5] 13 9) [1005] false (.join [.sl 3 false (.sl bI) tO] (.block 1 (.seq
 (.region [im 13 11, o1 14 (.ixA 8 9 11), o1 15 (.load true 8 14), o1 5 (.alloc [(.int .i64 0), (.int .u64 0), (.int .u64 0), (.int .u64 0), (.int .u64 0), (.int .i64 0), (.int .i64
 0), (.slice none 0 0)]), ia 4 13, o0 ⟨none, .store 8 5 15, none⟩]) (.region [im 16 3, im 17 4, o1 18 (.load true 8 5), im 19 3, oS ⟨some 20, .call AaZ [18,
 19], none⟩ Adm, o1 21 (.ixA 1 16 17), o0 ⟨none, .store 1 21 20, none⟩]))))) (.region [o1 22 (.bin .add 11 (kI 1)), im 11 22]))))))))) (.seq (.region [im 23 3, ia 2 23])
 .ret))))
def Ad1 : AFn := ⟨ AcJ, Aer.erase, [.tmp 2], 1⟩
def Afo (P : Pg) (x : (List Node)) (K : (List Int) → Unit → Prop) : Prop :=
 (0 ≤ (x.length : Int) ∧ (x.length : Int) ≤ (x.length : Int) ∧ ((8 : Nat) : Int) * (x.length : Int) ≤ 281474976710656) ∧
 Ag (D := (List Int)) (fun J1 => B0 (D := ((List Int) × Int)) ((List.replicate (Int.toNat (x.length : Int)) (0 : Int)), (0 : Int)) (fun d3 J4 => (((decide (d3.2 < (x.length : Int))) = true → Ag (D := (List Int)) (fun J5 => (0 ≤ d3.2 ∧ d3.2 < (x.length : Int)) ∧
 (d3.2.toNat < x.length) ∧
 Fn P AaZ Adm ((List.getD x d3.2.toNat Ak), d3.1) (fun (d7 : Int) (e8 : Unit) => (0 ≤ d3.2 ∧ d3.2 < (d3.1.length : Int)) ∧
 (d3.2.toNat < d3.1.length) ∧
 J5 (List.set d3.1 d3.2.toNat d7))) (fun d6 => J4 (d6, (i64.wrap (d3.2 + (1 : Int)))))) ∧ ((decide (d3.2 < (x.length : Int))) = false → J1 d3.1)))) (fun d2 => K d2 ())
theorem Agr {P : Pg} (h : Has P Ad1) {x : DP Ac9.ps} {K : DP Ac9.rs → DP (ptrs Ac9.ps) → Prop} (hw : Afo P x K) : Fn P AcJ Ac9 x K :=
 BI (c := Aer) h rfl rfl (by kernel_rfl) (Eq.mpr (show BC P Ad1 Ac9 Aer x K = _ by kernel_rfl) hw)
def AeG : Be :=
 (.seq (.region [ia 2 (kI 0), ia 3 (kI 0)]) (.seq (.seq (.region [im 5 0, oS ⟨some 6, .call QV [5], none⟩ AbF, ia 4 6]) (.seq (.region [im 7 4, o1 8
 (.bin .neq 7 (kI 0))]) (.cond 8 (.seq (.region [im 9 4, ia 2 (kI 0), ia 3 9]) .ret) .skip))) (.seq (.region [im 10 0, oS ⟨some 11, .call AcJ [10], none⟩
 Ac9, im 12 0, o1 13 (.lenK 12), o1 14 (.bin .sub 13 (kI 1)), o1 15 (.ixA 1 11 14), ld 16 15, ia 2 16, ia 3 (kI 0)]) .ret)))
def Ad5 : AFn := ⟨ Uo, AeG.erase, [.tmp 2, .tmp 3], 1⟩
def Afv (P : Pg) (x : (List Node)) (K : (Int × Int) → Unit → Prop) : Prop :=
 Fn P QV AbF x (fun (d1 : Int) (e2 : Unit) => (((d1 != (0 : Int)) = true → K ((0 : Int), d1) ()) ∧ ((d1 != (0 : Int)) = false → Fn P AcJ Ac9 x (fun (d3 : (List Int)) (e4 : Unit) => (0 ≤ (i64.wrap ((x.length : Int) - (1 : Int))) ∧ (i64.wrap ((x.length : Int) - (1 : Int))) < (d3.length : Int)) ∧
 ((Int.toNat (i64.wrap ((x.length : Int) - (1 : Int)))) < d3.length) ∧
 K ((List.getD d3 (Int.toNat (i64.wrap ((x.length : Int) - (1 : Int)))) (0 : Int)), (0 : Int)) ()))))
theorem Agy {P : Pg} (h : Has P Ad5) {x : DP Adl.ps} {K : DP Adl.rs → DP (ptrs Adl.ps) → Prop} (hw : Afv P x K) : Fn P Uo Adl x K :=
 BI (c := AeG) h rfl rfl (by kernel_rfl) (Eq.mpr (show BC P Ad5 Adl AeG x K = _ by kernel_rfl) hw)
def AeZ : Be :=
 (.seq (.region [ia 2 (kI 0)]) (.seq (.seq (.region [im 7 0, o1 8 (.lenK 7), o1 9 (.bin .eql 8 (kI 0)), im 10 9, gf 11 10 (.mv 0), gf 12 10 (.lenK 11), gf 13 10 (.bin .gtr 12 (kI
 4000)), o1 14 (.pick 10 kT 13)]) (.cond 14 (.seq (.region [ia 2 (kI 2)]) .ret) .skip)) (.seq (.seq (.region [ia 3 (kI 0)]) (.frame (rg [2, 3, 4, 5, 6] 15 90) [1004] false (.join
 [.si 2] (.block 0 (.loop [.si 2, .si 3] (.seq (.seq (.region [im 15 3, im 16 0, o1 17 (.lenK 16), o1 18 (.bin .lss 15 17)]) (.cond 18 .skip (.exit 0))) (.seq (.frame (rg [2, 4, 5,
 6] 21 84) [1004] false (.join [.si 2] (.block 1 (.seq (.region [im 21 0, im 22 3, o1 23 (.ixA 8 21 22), o1 24 (.load true 8 23), o1 4 (.alloc [(.int .i64 0), (.int .u64 0), (.int
 .u64 0), (.int .u64 0), (.int .u64 0), (.int .i64 0), (.int .i64 0), (.slice none 0 0)]), o0 ⟨none, .store 8 4 24, none⟩]) (.seq (.seq (.region [ia 5 (kI 0)]) (.frame (rg [2, 5] 25
 22) [] false (.join [.si 2] (.block 2 (.loop [.si 2, .si 5] (.seq (.seq (.region [im 25 5, fa 26 7 4, ld 27 26, o1 28 (.lenK 27), o1 29 (.bin .lss 25 28)]) (.cond 29 .skip (.exit
 2))) (.seq (.frame (rg [2] 32 15) [] false (.join [.si 2] (.block 3 (.seq (.region [fa 32 7 4, ld 33 32, im 34 5, o1 35 (.ixA 1 33 34), ld 36 35, o1 37 (.bin .lss 36 (kI 0)), im 38
 37, gf 39 38 (.fAddr 7 4), gf 40 38 (.load false 1 39), gf 41 38 (.mv 5), gf 42 38 (.ixA 1 40 41), gf 43 38 (.load false 1 42), gf 44 38 (.mv 3), gf 45 38 (.bin .geq 43 44), o1 46
 (.pick 38 kT 45)]) (.cond 46 (.seq (.region [ia 2 (kI 2)]) .ret) .skip))))) (.region [im 30 5, o1 31 (.bin .add 30 (kI 1)), ia 5 31])))))))) (.seq (.region [fa 47 7 4, ld 48 47, o1
 49 (.lenK 48), o1 50 (.bin .eql 49 (kI 0)), ia 6 50]) (.seq (.seq (.region [fa 51 0 4, ld 52 51]) (.frame (rg [6] 53 40) [] false (.join [.sl 6 false .bool .leaf] (.block 4 (.seq
 (.region [o1 54 (.bin .eql 52 (kI 6)), ia 53 54]) (.frame (rg [6] 55 38) [] false (.join [.sl 6 false .bool .leaf] (.cond 53 (.region [fa 55 7 4, ld 56 55, o1 57 (.lenK 56), o1 58
 (.bin .eql 57 (kI 1)), im 59 58, gt 60 59 (.fAddr 5 4), gt 61 59 (.load false 1 60), gt 62 59 (.bin .geq 61 (kI 0)), o1 63 (.pick 59 62 kF), im 64 63, gt 65 64 (.fAddr 5 4), gt 66
 64 (.load false 1 65), gt 67 64 (.bin .leq 66 (kI 100)), o1 68 (.pick 64 67 kF), im 69 68, gt 70 69 (.fAddr 6 4), gt 71 69 (.load false 1 70), gt 72 69 (.bin .eql 71 (kI (-1))), gt
 73 69 (.mv 72), gf 74 73 (.fAddr 6 4), gf 75 73 (.load false 1 74), gf 76 73 (.fAddr 5 4), gf 77 73 (.load false 1 76), gf 78 73 (.bin .geq 75 77), gf 79 73 (.mv 78), gt 80 79
 (.fAddr 6 4), gt 81 79 (.load false 1 80), gt 82 79 (.bin .leq 81 (kI 100)), gf 83 73 (.pick 79 82 kF), gt 84 69 (.pick 73 kT 83), o1 85 (.pick 69 84 kF), ia 6 85]) (.seq (.seq
 (.region [o1 87 (.bin .eql 52 (kI 4)), ia 86 87]) (.frame [86, 88] [] false (.join [.sl 86 false .bool .leaf] (.cond 86 .skip (.region [o1 88 (.bin .eql 52 (kI 5)), ia 86 88])))))
 (.frame (rg [6] 89 4) [] false (.join [.sl 6 false .bool .leaf] (.cond 86 (.region [fa 89 7 4, ld 90 89, o1 91 (.lenK 90), o1 92 (.bin .geq 91 (kI 2)), ia 6 92]) .skip))))))))))))
 (.seq (.region [im 93 6, o1 94 (.un .not 93), im 95 94, gf 96 95 (.fAddr 0 4), gf 97 95 (.load false 1 96), gf 98 95 (.bin .lss 97 (kI 0)), o1 99 (.pick 95 kT 98), im 100 99, gf
 101 100 (.fAddr 0 4), gf 102 100 (.load false 1 101), gf 103 100 (.bin .gtr 102 (kI 6)), o1 104 (.pick 100 kT 103)]) (.cond 104 (.seq (.region [ia 2 (kI 2)]) .ret) .skip)))))))))
 (.region [im 19 3, o1 20 (.bin .add 19 (kI 1)), ia 3 20])))))))) (.seq (.region [ia 2 (kI 0)]) .ret))))
def Aei : AFn := ⟨ Su, AeZ.erase, [.tmp 2], 1⟩
def AfL (P : Pg) (x : (List Node)) (K : Int → Unit → Prop) : Prop :=
 (((cond ((x.length : Int) == (0 : Int)) true (decide ((x.length : Int) > (4000 : Int)))) = true → K (2 : Int) ()) ∧ ((cond ((x.length : Int) == (0 : Int)) true (decide ((x.length : Int) > (4000 : Int)))) = false → Ag (D := Int) (fun J1 => B0 (D := (Int × Int)) ((0 : Int), (0 : Int)) (fun d3 J4 => (((decide (d3.2 < (x.length : Int))) = true → Ag (D := Int) (fun J5 => (0 ≤ d3.2 ∧ d3.2 < (x.length : Int)) ∧
 (d3.2.toNat < x.length) ∧
 Ag (D := Int) (fun J7 => B0 (D := (Int × Int)) (d3.1, (0 : Int)) (fun d9 J10 => (((decide (d9.2 < ((List.length (List.getD x d3.2.toNat Ak).2.2.2.2 : Nat) : Int))) = true → Ag (D := Int) (fun J11 => (0 ≤ d9.2 ∧ d9.2 < ((List.length (List.getD x d3.2.toNat Ak).2.2.2.2 : Nat) : Int)) ∧
 (d9.2.toNat < List.length (List.getD x d3.2.toNat Ak).2.2.2.2) ∧
 (((decide ((List.getD (List.getD x d3.2.toNat Ak).2.2.2.2 d9.2.toNat (0 : Int)) < (0 : Int))) = false → 0 ≤ d9.2 ∧ d9.2 < ((List.length (List.getD x d3.2.toNat Ak).2.2.2.2 : Nat) : Int))) ∧
 (((decide ((List.getD (List.getD x d3.2.toNat Ak).2.2.2.2 d9.2.toNat (0 : Int)) < (0 : Int))) = false → d9.2.toNat < List.length (List.getD x d3.2.toNat Ak).2.2.2.2)) ∧
 (((cond (decide ((List.getD (List.getD x d3.2.toNat Ak).2.2.2.2 d9.2.toNat (0 : Int)) < (0 : Int))) true (decide ((List.getD (List.getD x d3.2.toNat Ak).2.2.2.2 d9.2.toNat (0 : Int)) ≥ d3.2))) = true → K (2 : Int) ()) ∧ ((cond (decide ((List.getD (List.getD x d3.2.toNat Ak).2.2.2.2 d9.2.toNat (0 : Int)) < (0 : Int))) true (decide ((List.getD (List.getD x d3.2.toNat Ak).2.2.2.2 d9.2.toNat (0 : Int)) ≥ d3.2))) = false → J11 d9.1))) (fun d12 => J10 (d12, (i64.wrap (d9.2 + (1 : Int)))))) ∧ ((decide (d9.2 < ((List.length (List.getD x d3.2.toNat Ak).2.2.2.2 : Nat) : Int))) = false → J7 d9.1)))) (fun d8 => Ag (D := Bool) (fun J13 => Ag (D := Bool) (fun J15 => ((((List.getD x d3.2.toNat Ak).1 == (6 : Int)) = true → J15 (cond (cond (cond (((List.length (List.getD x d3.2.toNat Ak).2.2.2.2 : Nat) : Int) == (1 : Int)) (decide ((List.getD x d3.2.toNat Ak).2.2.1 ≥ (0 : Int))) false) (decide ((List.getD x d3.2.toNat Ak).2.2.1 ≤ (100 : Int))) false) (cond ((List.getD x d3.2.toNat Ak).2.2.2.1 == (-1 : Int)) true (cond (decide ((List.getD x d3.2.toNat Ak).2.2.2.1 ≥ (List.getD x d3.2.toNat Ak).2.2.1)) (decide ((List.getD x d3.2.toNat Ak).2.2.2.1 ≤ (100 : Int))) false)) false)) ∧ (((List.getD x d3.2.toNat Ak).1 == (6 : Int)) = false → Ag (D := Bool) (fun J17 => ((((List.getD x d3.2.toNat Ak).1 == (4 : Int)) = true → J17 ((List.getD x d3.2.toNat Ak).1 == (4 : Int))) ∧ (((List.getD x d3.2.toNat Ak).1 == (4 : Int)) = false → J17 ((List.getD x d3.2.toNat Ak).1 == (5 : Int))))) (fun d18 => Ag (D := Bool) (fun J19 => ((d18 = true → J19 (decide (((List.length (List.getD x d3.2.toNat Ak).2.2.2.2 : Nat) : Int) ≥ (2 : Int)))) ∧ (d18 = false → J19 (((List.length (List.getD x d3.2.toNat Ak).2.2.2.2 : Nat) : Int) == (0 : Int))))) (fun d20 => J15 d20))))) (fun d16 => J13 d16)) (fun d14 => (((cond (cond (!d14) true (decide ((List.getD x d3.2.toNat Ak).1 < (0 : Int)))) true (decide ((List.getD x d3.2.toNat Ak).1 > (6 : Int)))) = true → K (2 : Int) ()) ∧ ((cond (cond (!d14) true (decide ((List.getD x d3.2.toNat Ak).1 < (0 : Int)))) true (decide ((List.getD x d3.2.toNat Ak).1 > (6 : Int)))) = false → J5 d8))))) (fun d6 => J4 (d6, (i64.wrap (d3.2 + (1 : Int)))))) ∧ ((decide (d3.2 < (x.length : Int))) = false → J1 d3.1)))) (fun d2 => K (0 : Int) ())))
theorem AgX {P : Pg} (h : Has P Aei) {x : DP Adt.ps} {K : DP Adt.rs → DP (ptrs Adt.ps) → Prop} (hw : AfL P x K) : Fn P Su Adt x K :=
 BI (c := AeZ) h rfl rfl (by kernel_rfl) (Eq.mpr (show BC P Aei Adt AeZ x K = _ by kernel_rfl) hw)
def AlF : Be :=
 (.seq (.region [ia 2 (kI 0)]) (.seq (.region [im 3 0, o1 4 (.mm false 3 (kI 4001)), ia 2 4]) .ret))
def AlB : AFn := ⟨ VL, AlF.erase, [.tmp 2], 1⟩
def AlH (P : Pg) (x : Int) (K : Int → Unit → Prop) : Prop :=
 K (if (4001 : Int) < x then (4001 : Int) else x) ()
theorem AlO {P : Pg} (h : Has P AlB) {x : DP Alx.ps} {K : DP Alx.rs → DP (ptrs Alx.ps) → Prop} (hw : AlH P x K) : Fn P VL Alx x K :=
 BI (c := AlF) h rfl rfl (by kernel_rfl) (Eq.mpr (show BC P AlB Alx AlF x K = _ by kernel_rfl) hw)
def AlE : Be :=
 (.seq (.region [ia 2 (kI 0), ia 3 (kI 0)]) (.seq (.seq (.region [im 9 0, oS ⟨some 10, .call Su [9], none⟩ Adt, o1 11 (.bin .neq 10 (kI 0))])
 (.cond 11 (.seq (.region [ia 2 (kI 0), ia 3 (kI 2)]) .ret) .skip)) (.seq (.region [o1 4 (.asg (.c (.slice none 0 0)))]) (.seq (.seq (.region [ia 5 (kI 0)]) (.frame (rg [4, 5, 6, 7,
 8] 12 86) [] false (.join [.sl 4 false (.sl bI) tO] (.block 0 (.loop [.sl 4 false (.sl bI) tO, .si 5] (.seq (.seq (.region [im 12 5, im 13 0, o1 14 (.lenK 13), o1 15 (.bin .lss 12
 14)]) (.cond 15 .skip (.exit 0))) (.seq (.frame (rg [4, 6, 7, 8] 18 80) [] false (.join [.sl 4 false (.sl bI) tO] (.block 1 (.seq (.region [ia 6 (kI 0)]) (.seq (.seq (.region [ia 7
 (kI 0)]) (.frame (rg [6, 7] 18 24) [] false (.join [.si 6] (.block 2 (.loop [.si 6, .si 7] (.seq (.seq (.region [im 18 7, im 19 0, im 20 5, o1 21 (.ixA 8 19 20), fa 22 7 21, ld 23
 22, o1 24 (.lenK 23), o1 25 (.bin .lss 18 24)]) (.cond 25 .skip (.exit 2))) (.seq (.frame (rg [6] 28 14) [] false (.join [.si 6] (.block 3 (.region [im 28 6, im 29 4, im 30 0, im
 31 5, o1 32 (.ixA 8 30 31), fa 33 7 32, ld 34 33, im 35 7, o1 36 (.ixA 1 34 35), ld 37 36, o1 38 (.ixA 1 29 37), ld 39 38, o1 40 (.bin .add 28 39), oS ⟨some 41, .call
 VL [40], none⟩ Alx, ia 6 41])))) (.region [im 26 7, o1 27 (.bin .add 26 (kI 1)), ia 7 27])))))))) (.seq (.seq (.region [im 42 0, im 43 5,
 o1 44 (.ixA 8 42 43), fa 45 0 44, ld 46 45]) (.frame (rg [6, 8] 47 46) [] false (.join [.si 6] (.block 4 (.seq (.region [o1 48 (.bin .eql 46 (kI 5)), ia 47 48]) (.frame (rg [6, 8]
 49 44) [] false (.join [.si 6] (.cond 47 (.region [im 49 6, im 50 0, im 51 5, o1 52 (.ixA 8 50 51), fa 53 7 52, ld 54 53, o1 55 (.lenK 54), o1 56 (.bin .add 49 55), o1 57 (.bin
 .sub 56 (kI 1)), ia 6 57]) (.seq (.region [o1 59 (.bin .eql 46 (kI 6)), ia 58 59]) (.frame (rg [6, 8] 60 33) [] false (.join [.si 6] (.cond 58 (.seq (.region [im 60 6, o1 61 (.bin
 .add 60 (kI 1)), ia 8 61]) (.seq (.seq (.region [im 62 0, im 63 5, o1 64 (.ixA 8 62 63), fa 65 6 64, ld 66 65, o1 67 (.bin .geq 66 (kI 0))]) (.frame (rg [8] 68 14) [] false (.join
 [.si 8] (.cond 67 (.frame (rg [8] 68 14) [] false (.join [.si 8] (.draw [(.first (im 68 0) (.first (im 69 5) (.first (o1 70 (.ixA 8 68 69)) (.first (fa 71 6 70) (.first (ld 72 71)
 (.first (im 73 0) (.first (im 74 5) (.first (o1 75 (.ixA 8 73 74)) (.first (fa 76 5 75) (.first (ld 77 76) (.first (o1 78 (.bin .sub 72 77)) (.first (im 79 6) (.first (o1 80 (.bin
 .add 79 (kI 1))) (.first (o1 81 (.bin .mul 78 80)) (.alt (ia 8 81) .done .stop)))))))))))))))]))) .skip)))) (.region [im 82 0, im 83 5, o1 84 (.ixA 8 82 83), fa 85 5 84, ld 86 85,
 im 87 6, o1 88 (.bin .mul 86 87), im 89 8, o1 90 (.bin .add 88 89), ia 6 90]))) (.seq (.region [o1 92 (.bin .eql 46 (kI 4)), ia 91 92]) (.frame [6] [] false (.join [.si 6] (.cond
 91 .skip (.region [ia 6 (kI 1)]))))))))))))))))) (.region [im 93 4, im 94 6, oS ⟨some 95, .call VL [94], none⟩ Alx, oT ⟨some 96, .buildSl
 1 [(.int .i64 0)] 1 [(0, 95)], none⟩ (some (bI, .leaf)), oT ⟨some 97, .app 1 8 93 96, none⟩ (some (bI, .leaf)), ia 4 97]))))))) (.region [im 16 5, o1 17 (.bin .add 16 (kI 1)), ia 5
 17])))))))) (.seq (.region [im 98 4, im 99 4, o1 100 (.lenK 99), o1 101 (.bin .sub 100 (kI 1)), o1 102 (.ixA 1 98 101), ld 103 102, ia 2 103, ia 3 (kI 0)]) .ret)))))
def AlA : AFn := ⟨ Up, AlE.erase, [.tmp 2, .tmp 3], 1⟩
def AlG (P : Pg) (x : (List Node)) (K : (Int × Int) → Unit → Prop) : Prop :=
 Fn P Su Adt x (fun (d1 : Int) (e2 : Unit) => (((d1 != (0 : Int)) = true → K ((0 : Int), (2 : Int)) ()) ∧ ((d1 != (0 : Int)) = false → Ag (D := (List Int)) (fun J3 => B0 (D := ((List Int) × Int)) ([], (0 : Int)) (fun d5 J6 => (((decide (d5.2 < (x.length : Int))) = true → Ag (D := (List Int)) (fun J7 => Ag (D := Int) (fun J9 => B0 (D := (Int × Int)) ((0 : Int), (0 : Int)) (fun d11 J12 => (0 ≤ d5.2 ∧ d5.2 < (x.length : Int)) ∧
 (d5.2.toNat < x.length) ∧
 (((decide (d11.2 < ((List.length (List.getD x d5.2.toNat Ak).2.2.2.2 : Nat) : Int))) = true → Ag (D := Int) (fun J13 => (0 ≤ d5.2 ∧ d5.2 < (x.length : Int)) ∧
 (d5.2.toNat < x.length) ∧
 (0 ≤ d11.2 ∧ d11.2 < ((List.length (List.getD x d5.2.toNat Ak).2.2.2.2 : Nat) : Int)) ∧
 (d11.2.toNat < List.length (List.getD x d5.2.toNat Ak).2.2.2.2) ∧
 (0 ≤ (List.getD (List.getD x d5.2.toNat Ak).2.2.2.2 d11.2.toNat (0 : Int)) ∧ (List.getD (List.getD x d5.2.toNat Ak).2.2.2.2 d11.2.toNat (0 : Int)) < (d5.1.length : Int)) ∧
 ((Int.toNat (List.getD (List.getD x d5.2.toNat Ak).2.2.2.2 d11.2.toNat (0 : Int))) < d5.1.length) ∧
 Fn P VL Alx (i64.wrap (d11.1 + (List.getD d5.1 (Int.toNat (List.getD (List.getD x d5.2.toNat Ak).2.2.2.2 d11.2.toNat (0 : Int))) (0 : Int)))) (fun (d15 : Int) (e16 : Unit) => J13 d15)) (fun d14 => J12 (d14, (i64.wrap (d11.2 + (1 : Int)))))) ∧ ((decide (d11.2 < ((List.length (List.getD x d5.2.toNat Ak).2.2.2.2 : Nat) : Int))) = false → J9 d11.1)))) (fun d10 => (0 ≤ d5.2 ∧ d5.2 < (x.length : Int)) ∧
 (d5.2.toNat < x.length) ∧
 Ag (D := Int) (fun J17 => Ag (D := Int) (fun J19 => ((((List.getD x d5.2.toNat Ak).1 == (5 : Int)) = true → (0 ≤ d5.2 ∧ d5.2 < (x.length : Int)) ∧
 (d5.2.toNat < x.length) ∧
 J19 (i64.wrap ((i64.wrap (d10 + ((List.length (List.getD x d5.2.toNat Ak).2.2.2.2 : Nat) : Int))) - (1 : Int)))) ∧ (((List.getD x d5.2.toNat Ak).1 == (5 : Int)) = false → Ag (D := Int) (fun J21 => ((((List.getD x d5.2.toNat Ak).1 == (6 : Int)) = true → (0 ≤ d5.2 ∧ d5.2 < (x.length : Int)) ∧
 (d5.2.toNat < x.length) ∧
 Ag (D := Int) (fun J23 => (((decide ((List.getD x d5.2.toNat Ak).2.2.2.1 ≥ (0 : Int))) = true → Ag (D := Int) (fun J25 => (0 ≤ d5.2 ∧ d5.2 < (x.length : Int)) ∧
 (d5.2.toNat < x.length) ∧
 (0 ≤ d5.2 ∧ d5.2 < (x.length : Int)) ∧
 (d5.2.toNat < x.length) ∧
 (J25 (i64.wrap ((i64.wrap ((List.getD x d5.2.toNat Ak).2.2.2.1 - (List.getD x d5.2.toNat Ak).2.2.1)) * (i64.wrap (d10 + (1 : Int)))))) ∧ True) (fun d26 => J23 d26)) ∧ ((decide ((List.getD x d5.2.toNat Ak).2.2.2.1 ≥ (0 : Int))) = false → J23 (i64.wrap (d10 + (1 : Int)))))) (fun d24 => (0 ≤ d5.2 ∧ d5.2 < (x.length : Int)) ∧
 (d5.2.toNat < x.length) ∧
 J21 (i64.wrap ((i64.wrap ((List.getD x d5.2.toNat Ak).2.2.1 * d10)) + d24)))) ∧ (((List.getD x d5.2.toNat Ak).1 == (6 : Int)) = false → Ag (D := Int) (fun J27 => ((((List.getD x d5.2.toNat Ak).1 == (4 : Int)) = true → J27 d10) ∧ (((List.getD x d5.2.toNat Ak).1 == (4 : Int)) = false → J27 (1 : Int)))) (fun d28 => J21 d28)))) (fun d22 => J19 d22)))) (fun d20 => J17 d20)) (fun d18 => Fn P VL Alx d18 (fun (d29 : Int) (e30 : Unit) => ((d5.1.length + List.length ([d29] : List Int)) * 8 ≤ 140737488355328) ∧
 J7 (d5.1 ++ ([d29] : List Int)))))) (fun d8 => J6 (d8, (i64.wrap (d5.2 + (1 : Int)))))) ∧ ((decide (d5.2 < (x.length : Int))) = false → J3 d5.1)))) (fun d4 => (0 ≤ (i64.wrap ((d4.length : Int) - (1 : Int))) ∧ (i64.wrap ((d4.length : Int) - (1 : Int))) < (d4.length : Int)) ∧
 ((Int.toNat (i64.wrap ((d4.length : Int) - (1 : Int)))) < d4.length) ∧
 K ((List.getD d4 (Int.toNat (i64.wrap ((d4.length : Int) - (1 : Int)))) (0 : Int)), (0 : Int)) ()))))
theorem AlN {P : Pg} (h : Has P AlA) {x : DP Alw.ps} {K : DP Alw.rs → DP (ptrs Alw.ps) → Prop} (hw : AlG P x K) : Fn P Up Alw x K :=
 BI (c := AlE) h rfl rfl (by kernel_rfl) (Eq.mpr (show BC P AlA Alw AlE x K = _ by kernel_rfl) hw)
def Alz : Be :=
 (.seq (.region [o1 12 (.asg kF)]) (.seq (.seq (.region [im 26 0, o1 27 (.lenK 26), o1 28 (.bin .gtr 27 (kI 12))]) (.cond 28 (.seq (.region [oS ⟨some 29, .call
 QU [], none⟩ Cx, ia 12 29]) .ret) .skip)) (.seq (.seq (.region [ia 13 (kI 0)]) (.frame (rg [12, 13] 30 14) [] false (.join [.sl 12 false
 .bool .leaf] (.block 0 (.loop [.sl 12 false .bool .leaf, .si 13] (.seq (.seq (.region [im 30 13, im 31 0, o1 32 (.lenK 31), o1 33 (.bin .lss 30 32)]) (.cond 33 .skip (.exit 0)))
 (.seq (.frame (rg [12] 36 8) [] false (.join [.sl 12 false .bool .leaf] (.block 1 (.seq (.region [im 36 0, im 37 13, o1 38 (.ixA 8 36 37), fa 39 7 38, ld 40 39, o1 41 (.lenK 40),
 o1 42 (.bin .gtr 41 (kI 5))]) (.cond 42 (.seq (.region [oS ⟨some 43, .call QU [], none⟩ Cx, ia 12 43]) .ret) .skip))))) (.region [im 34 13,
 o1 35 (.bin .add 34 (kI 1)), ia 13 35])))))))) (.seq (.region [im 45 1, im 46 2, oS ⟨some 47, .call Y2 [45, 46], none⟩ CJ, oS ⟨some 48,
 .call YZ [47], none⟩ B2, im 44 48, o1 49 (.ext 44 0), o1 50 (.ext 44 1), ia 14 49, ia 15 50]) (.seq (.seq (.region [im 51 14, o1 52 (.lenK
 51), o1 53 (.bin .gtr 52 (kI 0))]) (.frame (rg [14, 16, 17] 54 59) [] false (.join [.sl 14 false (.sl Fc) (.node .own (.pair .leaf (.pair .leaf (.pair .leaf (.pair .leaf
 tM)))))] (.cond 53 (.seq (.region [im 54 14, im 55 3, im 56 14, o1 57 (.lenK 56), oS ⟨some 58, .call zS4 [55, 57], none⟩ BF, o1 59 (.ixA 8 54 58),
 ia 16 59]) (.seq (.region [im 60 5, oS ⟨some 61, .call zS4 [60, (kI 9)], none⟩ BF, o1 62 (.bin .sub 61 (kI 4)), ia 17 62]) (.seq (.region [im 63 4,
 oS ⟨some 64, .call zS4 [63, (kI 5)], none⟩ BF]) (.frame (rg [14, 16] 65 48) [] false (.join [.sl 14 false (.sl Fc) (.node .own (.pair .leaf
 (.pair .leaf (.pair .leaf (.pair .leaf tM)))))] (.block 2 (.seq (.region [o1 66 (.bin .eql 64 (kI 0)), ia 65 66]) (.frame (rg [14, 16] 67 46) [] false (.join [.sl 14 false (.sl
 Fc) (.node .own (.pair .leaf (.pair .leaf (.pair .leaf (.pair .leaf tM)))))] (.cond 65 (.region [im 67 16, o1 68 (.nilc 67), fa 69 0 68, ld 70 69, im 71 17, o1 72 (.bin .add 70
 71), o1 73 (.nilc 67), fa 74 0 73, o0 ⟨none, .store 1 74 72, none⟩]) (.seq (.region [o1 76 (.bin .eql 64 (kI 1)), ia 75 76]) (.frame (rg [14, 16] 77 36) [] false (.join [.sl 14
 false (.sl Fc) (.node .own (.pair .leaf (.pair .leaf (.pair .leaf (.pair .leaf tM)))))] (.cond 75 (.region [im 77 16, o1 78 (.nilc 77), fa 79 5 78, ld 80 79, im 81 17, o1 82
 (.bin .add 80 81), o1 83 (.nilc 77), fa 84 5 83, o0 ⟨none, .store 1 84 82, none⟩]) (.seq (.region [o1 86 (.bin .eql 64 (kI 2)), ia 85 86]) (.frame (rg [14, 16] 87 26) [] false
 (.join [.sl 14 false (.sl Fc) (.node .own (.pair .leaf (.pair .leaf (.pair .leaf (.pair .leaf tM)))))] (.cond 85 (.region [im 87 16, o1 88 (.nilc 87), fa 89 6 88, ld 90 89, im
 91 17, o1 92 (.bin .mul (kI 30) 91), o1 93 (.bin .add 90 92), o1 94 (.nilc 87), fa 95 6 94, o0 ⟨none, .store 1 95 93, none⟩]) (.seq (.region [o1 97 (.bin .eql 64 (kI 3)), ia 96
 97]) (.frame (rg [14, 16] 98 15) [] false (.join [.sl 14 false (.sl Fc) (.node .own (.pair .leaf (.pair .leaf (.pair .leaf (.pair .leaf tM)))))] (.cond 96 (.region [im 98 16, oT
 ⟨some 99, .buildSl 1 [(.int .i64 0)] 0 [], none⟩ (some (bI, .leaf)), im 100 16, o1 101 (.nilc 100), fa 102 7 101, ld 103 102, oT ⟨some 104, .app 1 8 99 103, none⟩ (some (bI,
 .leaf)), im 105 5, im 106 14, o1 107 (.lenK 106), oS ⟨some 108, .call zS4 [105, 107], none⟩ BF, oT ⟨some 109, .buildSl 1 [(.int .i64 0)] 1 [(0,
 108)], none⟩ (some (bI, .leaf)), ⟨⟨some 110, .app 1 8 104 109, none⟩, some (bI, .leaf), ⟨[], []⟩, true, none, false, false⟩, o1 111 (.nilc 98), fa 112 7 111, o0 ⟨none, .store 1 112
 110, none⟩]) .skip)))))))))))))))))))))) .skip)))) (.seq (.region [im 114 0, oS ⟨some 115, .call Uo [114], none⟩ Adl, im 113 115, o1 116 (.ext 113
 0), o1 117 (.ext 113 1), ia 18 116, ia 19 117]) (.seq (.region [im 119 0, oS ⟨some 120, .call Up [119], none⟩ Alw, im 118 120, o1 121
 (.ext 118 0), o1 122 (.ext 118 1), ia 20 121, ia 21 122]) (.seq (.region [im 124 14, oS ⟨some 125, .call Uo [124], none⟩ Adl, im 123 125, o1 126
 (.ext 123 0), o1 127 (.ext 123 1), ia 22 126, ia 23 127]) (.seq (.region [im 129 14, oS ⟨some 130, .call Up [129], none⟩ Alw, im 128 130,
 o1 131 (.ext 128 0), o1 132 (.ext 128 1), ia 24 131, ia 25 132]) (.seq (.region [im 133 0, oS ⟨some 134, .call QV [133], none⟩ AbF, im 135 0, oS
 ⟨some 136, .call Su [135], none⟩ Adt, o1 137 (.bin .eql 134 136), im 138 137, gt 139 138 (.mv 18), gt 140 138 (.mv 20), gt 141 138 (.bin
 .eql 139 140), o1 142 (.pick 138 141 kF), im 143 142, gt 144 143 (.mv 19), gt 145 143 (.mv 21), gt 146 143 (.bin .eql 144 145), o1 147 (.pick 143 146 kF), im 148 147, gt 149 148
 (.mv 14), oS ⟨some 150, .call QV [149], some (148, true)⟩ AbF, gt 151 148 (.mv 14), oS ⟨some 152, .call Su [151], some
 (148, true)⟩ Adt, gt 153 148 (.bin .eql 150 152), o1 154 (.pick 148 153 kF), im 155 154, gt 156 155 (.mv 22), gt 157 155 (.mv 24), gt 158 155 (.bin .eql 156 157), o1 159
 (.pick 155 158 kF), im 160 159, gt 161 160 (.mv 23), gt 162 160 (.mv 25), gt 163 160 (.bin .eql 161 162), o1 164 (.pick 160 163 kF), im 165 164, oS ⟨some 166, .call
 QU [], some (165, true)⟩ Cx, o1 167 (.pick 165 166 kF), ia 12 167]) .ret))))))))))
def Aly : AFn := ⟨ Aje, Alz.erase, [.tmp 12], 6⟩
def AlC (P : Pg) (x : ((List Node) × ((List Int) × (Int × (Int × (Int × Int)))))) (K : Bool → Unit → Prop) : Prop :=
 (((decide ((x.1.length : Int) > (12 : Int))) = true → Fn P QU Cx () (fun (d1 : Bool) (e2 : Unit) => K d1 ())) ∧ ((decide ((x.1.length : Int) > (12 : Int))) = false → Ag (D := Bool) (fun J3 => B0 (D := (Bool × Int)) (false, (0 : Int)) (fun d5 J6 => (((decide (d5.2 < (x.1.length : Int))) = true → Ag (D := Bool) (fun J7 => (0 ≤ d5.2 ∧ d5.2 < (x.1.length : Int)) ∧
 (d5.2.toNat < x.1.length) ∧
 (((decide (((List.length (List.getD x.1 d5.2.toNat Ak).2.2.2.2 : Nat) : Int) > (5 : Int))) = true → Fn P QU Cx () (fun (d9 : Bool) (e10 : Unit) => K d9 ())) ∧ ((decide (((List.length (List.getD x.1 d5.2.toNat Ak).2.2.2.2 : Nat) : Int) > (5 : Int))) = false → J7 d5.1))) (fun d8 => J6 (d8, (i64.wrap (d5.2 + (1 : Int)))))) ∧ ((decide (d5.2 < (x.1.length : Int))) = false → J3 d5.1)))) (fun d4 => Fn P Y2 CJ (x.2.1, x.2.2.1) (fun (d11 : (List UInt8)) (e12 : Unit) => Fn P YZ B2 d11 (fun (d13 : ((List Node) × Int)) (e14 : Unit) => Ag (D := (List Node)) (fun J15 => (((decide ((d13.1.length : Int) > (0 : Int))) = true → Fn P zS4 BF (x.2.2.2.1, (d13.1.length : Int)) (fun (d17 : Int) (e18 : Unit) => (0 ≤ d17 ∧ d17 < (d13.1.length : Int)) ∧
 Fn P zS4 BF (x.2.2.2.2.2, (9 : Int)) (fun (d19 : Int) (e20 : Unit) => Fn P zS4 BF (x.2.2.2.2.1, (5 : Int)) (fun (d21 : Int) (e22 : Unit) => Ag (D := (List Node)) (fun J23 => Ag (D := (List Node)) (fun J25 => (((d21 == (0 : Int)) = true → (d17.toNat < d13.1.length) ∧
 (d17.toNat < d13.1.length) ∧
 J25 (List.set d13.1 d17.toNat ((i64.wrap ((List.getD d13.1 d17.toNat Ak).1 + (i64.wrap (d19 - (4 : Int))))), (List.getD d13.1 d17.toNat Ak).2))) ∧ ((d21 == (0 : Int)) = false → Ag (D := (List Node)) (fun J27 => (((d21 == (1 : Int)) = true → (d17.toNat < d13.1.length) ∧
 (d17.toNat < d13.1.length) ∧
 J27 (List.set d13.1 d17.toNat ((List.getD d13.1 d17.toNat Ak).1, ((List.getD d13.1 d17.toNat Ak).2.1, ((i64.wrap ((List.getD d13.1 d17.toNat Ak).2.2.1 + (i64.wrap (d19 - (4 : Int))))), (List.getD d13.1 d17.toNat Ak).2.2.2))))) ∧ ((d21 == (1 : Int)) = false → Ag (D := (List Node)) (fun J29 => (((d21 == (2 : Int)) = true → (d17.toNat < d13.1.length) ∧
 (d17.toNat < d13.1.length) ∧
 J29 (List.set d13.1 d17.toNat ((List.getD d13.1 d17.toNat Ak).1, ((List.getD d13.1 d17.toNat Ak).2.1, ((List.getD d13.1 d17.toNat Ak).2.2.1, ((i64.wrap ((List.getD d13.1 d17.toNat Ak).2.2.2.1 + (i64.wrap ((30 : Int) * (i64.wrap (d19 - (4 : Int))))))), (List.getD d13.1 d17.toNat Ak).2.2.2.2)))))) ∧ ((d21 == (2 : Int)) = false → Ag (D := (List Node)) (fun J31 => (((d21 == (3 : Int)) = true → (d17.toNat < d13.1.length) ∧
 ((List.length ([] : List Int) + List.length (List.getD d13.1 d17.toNat Ak).2.2.2.2) * 8 ≤ 140737488355328) ∧
 Fn P zS4 BF (x.2.2.2.2.2, (d13.1.length : Int)) (fun (d33 : Int) (e34 : Unit) => ((List.length (([] : List Int) ++ (List.getD d13.1 d17.toNat Ak).2.2.2.2) + List.length ([d33] : List Int)) * 8 ≤ 140737488355328) ∧
 (d17.toNat < d13.1.length) ∧
 J31 (List.set d13.1 d17.toNat ((List.getD d13.1 d17.toNat Ak).1, ((List.getD d13.1 d17.toNat Ak).2.1, ((List.getD d13.1 d17.toNat Ak).2.2.1, ((List.getD d13.1 d17.toNat Ak).2.2.2.1, ((([] : List Int) ++ (List.getD d13.1 d17.toNat Ak).2.2.2.2) ++ ([d33] : List Int))))))))) ∧ ((d21 == (3 : Int)) = false → J31 d13.1))) (fun d32 => J29 d32)))) (fun d30 => J27 d30)))) (fun d28 => J25 d28)))) (fun d26 => J23 d26)) (fun d24 => J15 d24))))) ∧ ((decide ((d13.1.length : Int) > (0 : Int))) = false → J15 d13.1))) (fun d16 => Fn P Uo Adl x.1 (fun (d35 : (Int × Int)) (e36 : Unit) => Fn P Up Alw x.1 (fun (d37 : (Int × Int)) (e38 : Unit) => Fn P Uo Adl d16 (fun (d39 : (Int × Int)) (e40 : Unit) => Fn P Up Alw d16 (fun (d41 : (Int × Int)) (e42 : Unit) => Fn P QV AbF x.1 (fun (d43 : Int) (e44 : Unit) => Fn P Su Adt x.1 (fun (d45 : Int) (e46 : Unit) => Ag (D := Int) (fun J47 => (((cond (cond (d43 == d45) (d35.1 == d37.1) false) (d35.2 == d37.2) false) = true → Fn P QV AbF d16 (fun (d48 : Int) _ => J47 d48)) ∧ (((cond (cond (d43 == d45) (d35.1 == d37.1) false) (d35.2 == d37.2) false) = false → J47 (0 : Int)) ∧ True))) (fun d49 => Ag (D := Int) (fun J50 => (((cond (cond (d43 == d45) (d35.1 == d37.1) false) (d35.2 == d37.2) false) = true → Fn P Su Adt d16 (fun (d51 : Int) _ => J50 d51)) ∧ (((cond (cond (d43 == d45) (d35.1 == d37.1) false) (d35.2 == d37.2) false) = false → J50 (0 : Int)) ∧ True))) (fun d52 => Ag (D := Bool) (fun J53 => (((cond (cond (cond (cond (cond (d43 == d45) (d35.1 == d37.1) false) (d35.2 == d37.2) false) (d49 == d52) false) (d39.1 == d41.1) false) (d39.2 == d41.2) false) = true → Fn P QU Cx () (fun (d54 : Bool) _ => J53 d54)) ∧ (((cond (cond (cond (cond (cond (d43 == d45) (d35.1 == d37.1) false) (d35.2 == d37.2) false) (d49 == d52) false) (d39.1 == d41.1) false) (d39.2 == d41.2) false) = false → J53 false) ∧ True))) (fun d55 => K (cond (cond (cond (cond (cond (cond (d43 == d45) (d35.1 == d37.1) false) (d35.2 == d37.2) false) (d49 == d52) false) (d39.1 == d41.1) false) (d39.2 == d41.2) false) d55 false) ())))))))))))))))
theorem AlI {P : Pg} (h : Has P Aly) {x : DP Alv.ps} {K : DP Alv.rs → DP (ptrs Alv.ps) → Prop} (hw : AlC P x K) : Fn P Aje Alv x K :=
 BI (c := Alz) h rfl rfl (by kernel_rfl) (Eq.mpr (show BC P Aly Alv Alz x K = _ by kernel_rfl) hw)
def E8 : Be :=
 (.seq (.region [o1 3 (.box 1), ia 4 (kI 0)]) (.seq (.frame (rg [] 5 10) [0] true (.join [.bx 0 Aw (.pair .leaf (.pair .leaf (.pair .leaf (.node .own (.pair .leaf (.pair
 .leaf (.pair .leaf (.pair .leaf tM))))))))] (.draw [(.first (im 5 0) (.first (im 6 0) (.first (o1 7 (.nilc 6)) (.first (fa 8 3 7) (.first (o1 10 (.load true 8 3)) (.alt (ld 9 8)
 (.alt (oT ⟨some 11, .buildSl 8 [(.int .i64 0), (.int .u64 0), (.int .u64 0), (.int .u64 0), (.int .u64 0), (.int .i64 0), (.int .i64 0), (.slice none 0 0)] 1 [(0, 10)], none⟩ (some
 (Fc, (.pair .leaf (.pair .leaf (.pair .leaf (.pair .leaf tM))))))) (.alt (oT ⟨some 12, .app 8 80 9 11, none⟩ (some (Fc, (.pair .leaf (.pair .leaf (.pair .leaf (.pair .leaf
 tM))))))) (.first (o1 13 (.nilc 5)) (.first (fa 14 3 13) (.alt (o0 ⟨none, .store 1 14 12, none⟩) .done .stop))) .stop) .stop) (.alt (oT ⟨some 11, .buildSl 8 [(.int .i64 0), (.int
 .u64 0), (.int .u64 0), (.int .u64 0), (.int .u64 0), (.int .i64 0), (.int .i64 0), (.slice none 0 0)] 1 [(0, 10)], none⟩ (some (Fc, (.pair .leaf (.pair .leaf (.pair .leaf
 (.pair .leaf tM))))))) (.first (ld 9 8) (.alt (oT ⟨some 12, .app 8 80 9 11, none⟩ (some (Fc, (.pair .leaf (.pair .leaf (.pair .leaf (.pair .leaf tM))))))) (.first (o1 13 (.nilc
 5)) (.first (fa 14 3 13) (.alt (o0 ⟨none, .store 1 14 12, none⟩) .done .stop))) .stop)) .stop)))))))]))) (.seq (.region [im 15 0, o1 16 (.nilc 15), fa 17 3 16, ld 18 17, o1 19
 (.lenK 18), o1 20 (.bin .sub 19 (kI 1)), ia 4 20]) .ret)))
def DE : AFn := ⟨ zS8, E8.erase, [.tmp 4], 2⟩
def Hw (P : Pg) (x : (Aa × Node)) (K : Int → Aa → Prop) : Prop :=
 Ag (D := Aa) (fun J1 => (((((x.1.2.2.2.length + List.length ([x.2] : List Node)) * 80 ≤ 140737488355328) ∧
 (J1 (x.1.1, (x.1.2.1, (x.1.2.2.1, (x.1.2.2.2 ++ ([x.2] : List Node)))))) ∧ True) ∧ True) ∧ True) ∧ (((((x.1.2.2.2.length + List.length ([x.2] : List Node)) * 80 ≤ 140737488355328) ∧
 (J1 (x.1.1, (x.1.2.1, (x.1.2.2.1, (x.1.2.2.2 ++ ([x.2] : List Node)))))) ∧ True) ∧ True) ∧ True)) (fun d2 => K (i64.wrap ((d2.2.2.2.length : Int) - (1 : Int))) d2)
theorem Lx {P : Pg} (h : Has P DE) {x : DP AG.ps} {K : DP AG.rs → DP (ptrs AG.ps) → Prop} (hw : Hw P x K) : Fn P zS8 AG x K :=
 BI (c := E8) h rfl rfl (by kernel_rfl) (Eq.mpr (show BC P DE AG E8 x K = _ by kernel_rfl) hw)
def Ev : Be :=
 (.seq (.region [ia 6 (kI 0)]) (.seq (.seq (.region [im 7 2, o1 8 (.lenK 7)]) (.frame (rg [6] 9 10) [0] true (.join [.si 6, .bx 0 Aw (.pair .leaf (.pair .leaf (.pair
 .leaf (.node .own (.pair .leaf (.pair .leaf (.pair .leaf (.pair .leaf tM))))))))] (.block 0 (.seq (.region [o1 10 (.bin .eql 8 (kI 0)), ia 9 10]) (.cond 9 (.seq (.region [im 11 0,
 o1 12 (.build [(.int .i64 0), (.int .u64 0), (.int .u64 0), (.int .u64 0), (.int .u64 0), (.int .i64 0), (.int .i64 0), (.slice none 0 0)] []), oS ⟨some 13, .call
 zS8 [11, 12], none⟩ AG, ia 6 13]) .ret) (.seq (.region [o1 15 (.bin .eql 8 (kI 1)), ia 14 15]) (.cond 14 (.seq (.region [im 16 2, o1 17
 (.ixA 1 16 (kI 0)), ld 18 17, ia 6 18]) .ret) .skip)))))))) (.seq (.region [im 19 0, im 20 1, im 21 2, o1 22 (.build [(.int .i64 0), (.int .u64 0), (.int .u64 0), (.int .u64 0),
 (.int .u64 0), (.int .i64 0), (.int .i64 0), (.slice none 0 0)] [(0, 1, 20), (7, 1, 21)]), oS ⟨some 23, .call zS8 [19, 22], none⟩ AG, ia
 6 23]) .ret)))
def Da : AFn := ⟨ Uq, Ev.erase, [.tmp 6], 3⟩
def GB (P : Pg) (x : (Aa × (Int × (List Int)))) (K : Int → Aa → Prop) : Prop :=
 Ag (D := (Int × Aa)) (fun J1 => ((((x.2.2.length : Int) == (0 : Int)) = true → Fn P zS8 AG (x.1, ((0 : Int), (((0 : Int), ((0 : Int), ((0 : Int), (0 : Int)))), ((0 : Int), ((0 : Int), []))))) (fun (d3 : Int) (e4 : Aa) => K d3 e4)) ∧ (((x.2.2.length : Int) == (0 : Int)) = false → ((((x.2.2.length : Int) == (1 : Int)) = true → (0 ≤ (0 : Int) ∧ (0 : Int) < (x.2.2.length : Int)) ∧
 ((Int.toNat (0 : Int)) < x.2.2.length) ∧
 K (List.getD x.2.2 (Int.toNat (0 : Int)) (0 : Int)) x.1) ∧ (((x.2.2.length : Int) == (1 : Int)) = false → J1 ((0 : Int), x.1)))))) (fun d2 => Fn P zS8 AG (d2.2, (x.2.1, (((0 : Int), ((0 : Int), ((0 : Int), (0 : Int)))), ((0 : Int), ((0 : Int), x.2.2))))) (fun (d5 : Int) (e6 : Aa) => K d5 e6))
theorem JR {P : Pg} (h : Has P Da) {x : DP A5.ps} {K : DP A5.rs → DP (ptrs A5.ps) → Prop} (hw : GB P x K) : Fn P Uq A5 x K :=
 BI (c := Ev) h rfl rfl (by kernel_rfl) (Eq.mpr (show BC P Da A5 Ev x K = _ by kernel_rfl) hw)
def EN : Be :=
 (.seq (.region [o1 2 (.asg (.c (.int .u8 0))), o1 3 (.asg kF)]) (.seq (.seq (.draw [(.first (im 4 0) (.first (o1 5 (.nilc 4)) (.first (fa 6 1 5) (.first (ld 7 6) (.first (im 8 0)
 (.first (o1 9 (.nilc 8)) (.first (fa 10 0 9) (.first (ld 11 10) (.first (o1 12 (.lenS 11)) (.first (o1 13 (.bin .eql 7 12)) .done))))))))))]) (.cond 13 (.seq (.region [o1 2 (.asg
 (.c (.int .u8 0))), o1 3 (.asg kF)]) .ret) .skip)) (.seq (.frame (rg [2, 3] 14 9) [] false (.join [.sl 2 false (.int .u8) .leaf, .sl 3 false .bool .leaf] (.draw [(.first (im 14 0)
 (.first (o1 15 (.nilc 14)) (.first (fa 16 0 15) (.first (ld 17 16) (.first (im 18 0) (.first (o1 19 (.nilc 18)) (.first (fa 20 1 19) (.first (ld 21 20) (.first (o1 22 (.ixS 17 21))
 (.alt (ia 2 22) (.alt (o1 3 (.asg kT)) .done .stop) .stop))))))))))]))) .ret)))
def Dn : AFn := ⟨ zS9, EN.erase, [.tmp 2, .tmp 3], 1⟩
def GV (P : Pg) (x : Aa) (K : (Int × Bool) → Aa → Prop) : Prop :=
 (((x.2.1 == (x.1.length : Int)) = true → K ((0 : Int), false) x) ∧ ((x.2.1 == (x.1.length : Int)) = false → Ag (D := (Int × Bool)) (fun J1 => (0 ≤ x.2.1 ∧ x.2.1 < (x.1.length : Int)) ∧
 ((J1 (((x.1.getD x.2.1.toNat 0).toNat : Int), true)) ∧ True) ∧ True) (fun d2 => K d2 x)))
theorem Ku {P : Pg} (h : Has P Dn) {x : DP AF.ps} {K : DP AF.rs → DP (ptrs AF.ps) → Prop} (hw : GV P x K) : Fn P zS9 AF x K :=
 BI (c := EN) h rfl rfl (by kernel_rfl) (Eq.mpr (show BC P Dn AF EN x K = _ by kernel_rfl) hw)
def D7 : Be :=
 (.seq (.region [ia 4 (kI 0)]) (.seq (.region [im 8 0, o1 9 (.nilc 8), fa 10 1 9, ld 11 10, o1 12 (.bin .add 11 (kI 1)), o1 13 (.nilc 8), fa 14 1 13, o0 ⟨none, .store 1 14 12,
 none⟩]) (.seq (.region [im 15 0, im 16 1, o1 17 (.build [(.int .i64 0), (.int .u64 0), (.int .u64 0), (.int .u64 0), (.int .u64 0), (.int .i64 0), (.int .i64 0), (.slice none 0 0)]
 [(0, 1, 16)]), oS ⟨some 18, .call zS8 [15, 17], none⟩ AG, ia 5 18]) (.seq (.seq (.region [im 20 0, oS ⟨some 21, .call
 zS9 [20], none⟩ AF, im 19 21, o1 22 (.ext 19 0), o1 23 (.ext 19 1), ia 6 22, ia 7 23]) (.seq (.region [im 24 7, im 25 24, gt 26 25
 (.mv 6), oS ⟨some 27, .call "strings.IndexByte" [(.c (.string ⟨#[42, 43, 63, 123]⟩)), 26], some (25, true)⟩ Dt, gt 28 25 (.bin .geq 27 (kI 0)), o1 29 (.pick 25 28
 kF)]) (.frame [30] [] false (.join [] (.cond 29 (.region [o1 30 (.mkI 26 (kI 40)), o0 ⟨none, .panic 30, none⟩]) .skip))))) (.seq (.region [im 31 5, ia 4 31]) .ret)))))
def CX : AFn := ⟨ Ur, D7.erase, [.tmp 4], 2⟩
def FO (P : Pg) (x : (Aa × Int)) (K : Int → Aa → Prop) : Prop :=
 Fn P zS8 AG ((x.1.1, ((i64.wrap (x.1.2.1 + (1 : Int))), x.1.2.2)), (x.2, (((0 : Int), ((0 : Int), ((0 : Int), (0 : Int)))), ((0 : Int), ((0 : Int), []))))) (fun (d1 : Int) (e2 : Aa) => Fn P zS9 AF e2 (fun (d3 : (Int × Bool)) (e4 : Aa) => Ag (D := Int) (fun J5 => ((d3.2 = true → Fn P "strings.IndexByte" Dt (([42, 43, 63, 123] : List UInt8), d3.1) (fun (d6 : Int) _ => J5 d6)) ∧ ((d3.2 = false → J5 (0 : Int)) ∧ True))) (fun d7 => Ag (D := Unit) (fun J8 => (((cond d3.2 (decide (d7 ≥ (0 : Int))) false) = true → P.kp (.iface 26 (.int .i64 (40 : Int)))) ∧ ((cond d3.2 (decide (d7 ≥ (0 : Int))) false) = false → J8 ()))) (fun d9 => K d1 e4))))
theorem Jl {P : Pg} (h : Has P CX) {x : DP AY.ps} {K : DP AY.rs → DP (ptrs AY.ps) → Prop} (hw : FO P x K) : Fn P Ur AY x K :=
 BI (c := D7) h rfl rfl (by kernel_rfl) (Eq.mpr (show BC P CX AY D7 x K = _ by kernel_rfl) hw)
def EO : Be :=
 (.seq (.region [o1 4 (.asg (.c .nilFunc))]) (.seq (.seq (.region [im 5 1]) (.frame (rg [4] 6 22) [] false (.join [] (.block 0 (.seq (.region [o1 7 (.bin .eql 5 (.c (.int .u8 40))),
 ia 6 7]) (.cond 6 (.seq (.region [im 8 0, o1 9 (.mkf (XF, true) [8]), ia 4 9]) .ret) (.seq (.region [o1 11 (.bin .eql 5 (.c (.int .u8 91))), ia
 10 11]) (.cond 10 (.seq (.region [im 12 0, o1 13 (.mkf (XG, true) [12]), ia 4 13]) .ret) (.seq (.region [o1 15 (.bin .eql 5 (.c (.int .u8 46))), ia
 14 15]) (.cond 14 (.seq (.region [im 16 0, o1 17 (.mkf (XH, true) [16]), ia 4 17]) .ret) (.seq (.region [o1 19 (.bin .eql 5 (.c (.int .u8 92))), ia 18
 19]) (.cond 18 (.seq (.region [im 20 0, o1 21 (.mkf (VF, true) [20]), ia 4 21]) .ret) (.seq (.seq (.region [o1 23 (.bin .eql 5 (.c (.int .u8 42))),
 ia 22 23]) (.frame [22, 24, 25, 26] [] false (.join [.sl 22 false .bool .leaf] (.cond 22 .skip (.seq (.region [o1 24 (.bin .eql 5 (.c (.int .u8 43))), ia 22 24]) (.frame [22, 25,
 26] [] false (.join [.sl 22 false .bool .leaf] (.cond 22 .skip (.seq (.region [o1 25 (.bin .eql 5 (.c (.int .u8 63))), ia 22 25]) (.frame [22, 26] [] false (.join [.sl 22 false
 .bool .leaf] (.cond 22 .skip (.region [o1 26 (.bin .eql 5 (.c (.int .u8 123))), ia 22 26]))))))))))))) (.frame [27] [] false (.join [] (.cond 22 (.region [o1 27 (.mkI 26 (kI 40)),
 o0 ⟨none, .panic 27, none⟩]) .skip)))))))))))))))) (.seq (.region [im 28 0, o1 29 (.mkf (VG, true) [28]), ia 4 29]) .ret)))
def Dp : AFn := ⟨ AcK, EO.erase, [.tmp 4], 2⟩
def GW (P : Pg) (x : (Aa × Int)) (K : Int → Aa → Prop) : Prop :=
 Ag (D := Unit) (fun J1 => (((x.2 == (40 : Int)) = true → K (0 : Int) x.1) ∧ ((x.2 == (40 : Int)) = false → (((x.2 == (91 : Int)) = true → K (1 : Int) x.1) ∧ ((x.2 == (91 : Int)) = false → (((x.2 == (46 : Int)) = true → K (2 : Int) x.1) ∧ ((x.2 == (46 : Int)) = false → (((x.2 == (92 : Int)) = true → K (3 : Int) x.1) ∧ ((x.2 == (92 : Int)) = false → Ag (D := Bool) (fun J3 => (((x.2 == (42 : Int)) = true → J3 (x.2 == (42 : Int))) ∧ ((x.2 == (42 : Int)) = false → Ag (D := Bool) (fun J5 => (((x.2 == (43 : Int)) = true → J5 (x.2 == (43 : Int))) ∧ ((x.2 == (43 : Int)) = false → Ag (D := Bool) (fun J7 => (((x.2 == (63 : Int)) = true → J7 (x.2 == (63 : Int))) ∧ ((x.2 == (63 : Int)) = false → J7 (x.2 == (123 : Int))))) (fun d8 => J5 d8)))) (fun d6 => J3 d6)))) (fun d4 => Ag (D := Unit) (fun J9 => ((d4 = true → P.kp (.iface 26 (.int .i64 (40 : Int)))) ∧ (d4 = false → J9 ()))) (fun d10 => J1 ()))))))))))) (fun d2 => K (4 : Int) x.1)
theorem Kv {P : Pg} (h : Has P Dp) {x : DP BH.ps} {K : DP BH.rs → DP (ptrs BH.ps) → Prop} (hw : GW P x K) : Fn P AcK BH x K :=
 BI (c := EO) h rfl rfl (by kernel_rfl) (Eq.mpr (show BC P Dp BH EO x K = _ by kernel_rfl) hw)
def Fa : Be :=
 (.seq (.region [o1 4 (.asg kF)]) (.seq (.region [im 8 0, oS ⟨some 9, .call zS9 [8], none⟩ AF, im 7 9, o1 10 (.ext 7 0), o1 11 (.ext 7
 1), ia 5 10, ia 6 11]) (.seq (.seq (.region [im 12 6, o1 13 (.un .not 12), im 14 13, gf 15 14 (.mv 5), gf 16 14 (.mv 1), gf 17 14 (.bin .neq 15 16), o1 18 (.pick 14 kT 17)]) (.cond
 18 (.seq (.region [o1 4 (.asg kF)]) .ret) .skip)) (.seq (.region [im 19 0, o1 20 (.nilc 19), fa 21 1 20, ld 22 21, o1 23 (.bin .add 22 (kI 1)), o1 24 (.nilc 19), fa 25 1 24, o0
 ⟨none, .store 1 25 23, none⟩]) (.seq (.region [o1 4 (.asg kT)]) .ret)))))
def DG : AFn := ⟨ zS3, Fa.erase, [.tmp 4], 2⟩
def Hy (P : Pg) (x : (Aa × Int)) (K : Bool → Aa → Prop) : Prop :=
 Fn P zS9 AF x.1 (fun (d1 : (Int × Bool)) (e2 : Aa) => (((cond (!d1.2) true (d1.1 != x.2)) = true → K false e2) ∧ ((cond (!d1.2) true (d1.1 != x.2)) = false → K true (e2.1, ((i64.wrap (e2.2.1 + (1 : Int))), e2.2.2)))))
theorem Lz {P : Pg} (h : Has P DG) {x : DP As.ps} {K : DP As.rs → DP (ptrs As.ps) → Prop} (hw : Hy P x K) : Fn P zS3 As x K :=
 BI (c := Fa) h rfl rfl (by kernel_rfl) (Eq.mpr (show BC P DG As Fa x K = _ by kernel_rfl) hw)
def JF : Be :=
 (.seq (.region [o1 4 (.asg kF)]) (.seq (.region [im 5 1, im 6 0, o1 7 (.lenS 6), o1 8 (.bin .lss 5 7), im 9 8, gt 10 9 (.mv 0), gt 11 9 (.mv 1), gt 12 9 (.ixS 10 11), gt 13 9 (.bin
 .geq 12 (.c (.int .u8 48))), o1 14 (.pick 9 13 kF), im 15 14, gt 16 15 (.mv 0), gt 17 15 (.mv 1), gt 18 15 (.ixS 16 17), gt 19 15 (.bin .leq 18 (.c (.int .u8 57))), o1 20 (.pick 15
 19 kF), ia 4 20]) .ret))
def G0 : AFn := ⟨ XI, JF.erase, [.tmp 4], 2⟩
def ME (P : Pg) (x : ((List UInt8) × Int)) (K : Bool → Unit → Prop) : Prop :=
 (((decide (x.2 < (x.1.length : Int))) = true → 0 ≤ x.2 ∧ x.2 < (x.1.length : Int))) ∧
 (((cond (decide (x.2 < (x.1.length : Int))) (decide (((x.1.getD x.2.toNat 0).toNat : Int) ≥ (48 : Int))) false) = true → 0 ≤ x.2 ∧ x.2 < (x.1.length : Int))) ∧
 K (cond (cond (decide (x.2 < (x.1.length : Int))) (decide (((x.1.getD x.2.toNat 0).toNat : Int) ≥ (48 : Int))) false) (decide (((x.1.getD x.2.toNat 0).toNat : Int) ≤ (57 : Int))) false) ()
theorem QD {P : Pg} (h : Has P G0) {x : DP Cy.ps} {K : DP Cy.rs → DP (ptrs Cy.ps) → Prop} (hw : ME P x K) : Fn P XI Cy x K :=
 BI (c := JF) h rfl rfl (by kernel_rfl) (Eq.mpr (show BC P G0 Cy JF x K = _ by kernel_rfl) hw)
def IJ : Be :=
 (.seq (.region [ia 4 (kI 0), ia 5 (kI 0), o1 6 (.asg kF)]) (.seq (.seq (.region [im 9 1, o1 10 (.bin .lss 9 (kI 0)), im 11 10, gf 12 11 (.mv 0), gf 13 11 (.mv 1), oS ⟨some 14,
 .call XI [12, 13], some (11, false)⟩ Cy, gf 15 11 (.un .not 14), o1 16 (.pick 11 kT 15)]) (.cond 16 (.seq (.region [ia 4 (kI 0), ia 5 (kI 0), o1 6
 (.asg kF)]) .ret) .skip)) (.seq (.region [im 17 1, ia 7 (kI 0), ia 8 17]) (.seq (.frame (rg [7, 8] 18 14) [] false (.join [.si 7, .si 8] (.block 0 (.loop [.si 7, .si 8] (.seq (.seq
 (.region [im 18 0, im 19 8, oS ⟨some 20, .call XI [18, 19], none⟩ Cy]) (.cond 20 .skip (.exit 0))) (.seq (.frame (rg [7] 23 9) [] false (.join [.si 7]
 (.block 1 (.region [im 23 7, o1 24 (.bin .mul (kI 10) 23), im 25 0, im 26 8, o1 27 (.ixS 25 26), o1 28 (.bin .sub 27 (.c (.int .u8 48))), o1 29 (.conv (.toInt .i64) 28), o1 30
 (.bin .add 24 29), o1 31 (.mm false 30 (kI 2147483648)), ia 7 31])))) (.region [im 21 8, o1 22 (.bin .add 21 (kI 1)), ia 8 22]))))))) (.seq (.seq (.region [im 32 7, o1 33 (.bin
 .gtr 32 (kI 2147483647)), im 34 33, gf 35 34 (.mv 0), gf 36 34 (.mv 1), gf 37 34 (.ixS 35 36), gf 38 34 (.bin .eql 37 (.c (.int .u8 48))), gf 39 34 (.mv 38), gt 40 39 (.mv 8), gt
 41 39 (.mv 1), gt 42 39 (.bin .add 41 (kI 1)), gt 43 39 (.bin .gtr 40 42), gf 44 34 (.pick 39 43 kF), o1 45 (.pick 34 kT 44)]) (.cond 45 (.seq (.region [ia 4 (kI 0), ia 5 (kI 0),
 o1 6 (.asg kF)]) .ret) .skip)) (.seq (.region [im 46 7, im 47 8, ia 4 46, ia 5 47, o1 6 (.asg kT)]) .ret))))))
def Gn : AFn := ⟨ AcO, IJ.erase, [.tmp 4, .tmp 5, .tmp 6], 2⟩
def LV (P : Pg) (x : ((List UInt8) × Int)) (K : (Int × (Int × Bool)) → Unit → Prop) : Prop :=
 Ag (D := Bool) (fun J1 => (((decide (x.2 < (0 : Int))) = false → Fn P XI Cy x (fun (d2 : Bool) _ => J1 d2)) ∧ (((decide (x.2 < (0 : Int))) = true → J1 false) ∧ True))) (fun d3 => (((cond (decide (x.2 < (0 : Int))) true (!d3)) = true → K ((0 : Int), ((0 : Int), false)) ()) ∧ ((cond (decide (x.2 < (0 : Int))) true (!d3)) = false → Ag (D := (Int × Int)) (fun J4 => B0 (D := (Int × Int)) ((0 : Int), x.2) (fun d6 J7 => Fn P XI Cy (x.1, d6.2) (fun (d8 : Bool) (e9 : Unit) => ((d8 = true → Ag (D := Int) (fun J10 => (0 ≤ d6.2 ∧ d6.2 < (x.1.length : Int)) ∧
 J10 (if (2147483648 : Int) < (i64.wrap ((i64.wrap ((10 : Int) * d6.1)) + (i64.wrap (u8.wrap (((x.1.getD d6.2.toNat 0).toNat : Int) - (48 : Int)))))) then (2147483648 : Int) else (i64.wrap ((i64.wrap ((10 : Int) * d6.1)) + (i64.wrap (u8.wrap (((x.1.getD d6.2.toNat 0).toNat : Int) - (48 : Int)))))))) (fun d11 => J7 (d11, (i64.wrap (d6.2 + (1 : Int)))))) ∧ (d8 = false → J4 d6))))) (fun d5 => (((decide (d5.1 > (2147483647 : Int))) = false → 0 ≤ x.2 ∧ x.2 < (x.1.length : Int))) ∧
 (((cond (decide (d5.1 > (2147483647 : Int))) true (cond (((x.1.getD x.2.toNat 0).toNat : Int) == (48 : Int)) (decide (d5.2 > (i64.wrap (x.2 + (1 : Int))))) false)) = true → K ((0 : Int), ((0 : Int), false)) ()) ∧ ((cond (decide (d5.1 > (2147483647 : Int))) true (cond (((x.1.getD x.2.toNat 0).toNat : Int) == (48 : Int)) (decide (d5.2 > (i64.wrap (x.2 + (1 : Int))))) false)) = false → K (d5.1, (d5.2, true)) ()))))))
theorem PC {P : Pg} (h : Has P Gn) {x : DP CM.ps} {K : DP CM.rs → DP (ptrs CM.ps) → Prop} (hw : LV P x K) : Fn P AcO CM x K :=
 BI (c := IJ) h rfl rfl (by kernel_rfl) (Eq.mpr (show BC P Gn CM IJ x K = _ by kernel_rfl) hw)
def Ea : Be :=
 (.seq (.region [ia 2 (kI 0)]) (.seq (.frame (rg [] 3 16) [] false (.join [.si 3, .si 4, .sl 5 false .bool .leaf] (.draw [(.first (im 7 0) (.first (o1 8 (.nilc 7)) (.first (fa 9 0
 8) (.first (ld 10 9) (.first (im 11 0) (.first (o1 12 (.nilc 11)) (.first (fa 13 1 12) (.first (ld 14 13) (.alt (oS ⟨some 15, .call AcO [10, 14], none⟩
 CM) (.first (im 6 15) (.alt (o1 16 (.ext 6 0)) (.alt (o1 17 (.ext 6 1)) (.alt (o1 18 (.ext 6 2)) (.alt (ia 3 16) (.alt (ia 4 17) (.alt (ia 5 18) .done .stop) .stop)
 .stop) (.alt (ia 3 16) (.alt (o1 18 (.ext 6 2)) (.alt (ia 4 17) (.alt (ia 5 18) .done .stop) .stop) (.alt (ia 4 17) (.alt (o1 18 (.ext 6 2)) (.alt (ia 5 18) .done .stop) .stop)
 .stop)) .stop)) (.alt (o1 18 (.ext 6 2)) (.alt (o1 17 (.ext 6 1)) (.alt (ia 3 16) (.alt (ia 4 17) (.alt (ia 5 18) .done .stop) .stop) .stop) (.alt (ia 3 16) (.alt (o1 17 (.ext 6
 1)) (.alt (ia 4 17) (.alt (ia 5 18) .done .stop) .stop) .stop) .stop)) (.alt (ia 3 16) (.alt (o1 17 (.ext 6 1)) (.alt (o1 18 (.ext 6 2)) (.alt (ia 4 17) (.alt (ia 5 18) .done
 .stop) .stop) (.alt (ia 4 17) (.alt (o1 18 (.ext 6 2)) (.alt (ia 5 18) .done .stop) .stop) .stop)) (.alt (o1 18 (.ext 6 2)) (.alt (o1 17 (.ext 6 1)) (.alt (ia 4 17) (.alt (ia 5 18)
 .done .stop) .stop) .stop) .stop)) .stop))) (.alt (o1 17 (.ext 6 1)) (.alt (o1 16 (.ext 6 0)) (.alt (o1 18 (.ext 6 2)) (.alt (ia 3 16) (.alt (ia 4 17) (.alt (ia 5 18) .done .stop)
 .stop) .stop) (.alt (ia 3 16) (.alt (o1 18 (.ext 6 2)) (.alt (ia 4 17) (.alt (ia 5 18) .done .stop) .stop) (.alt (ia 4 17) (.alt (o1 18 (.ext 6 2)) (.alt (ia 5 18) .done .stop)
 .stop) .stop)) .stop)) (.alt (o1 18 (.ext 6 2)) (.alt (o1 16 (.ext 6 0)) (.alt (ia 3 16) (.alt (ia 4 17) (.alt (ia 5 18) .done .stop) .stop) .stop) .stop) .stop)) (.alt (o1 18
 (.ext 6 2)) (.alt (o1 16 (.ext 6 0)) (.alt (o1 17 (.ext 6 1)) (.alt (ia 3 16) (.alt (ia 4 17) (.alt (ia 5 18) .done .stop) .stop) .stop) (.alt (ia 3 16) (.alt (o1 17 (.ext 6 1))
 (.alt (ia 4 17) (.alt (ia 5 18) .done .stop) .stop) .stop) .stop)) (.alt (o1 17 (.ext 6 1)) (.alt (o1 16 (.ext 6 0)) (.alt (ia 3 16) (.alt (ia 4 17) (.alt (ia 5 18) .done .stop)
 .stop) .stop) .stop) .stop)) .stop)))) .stop)))))))))]))) (.seq (.seq (.region [im 19 5, o1 20 (.un .not 19), im 21 20, gf 22 21 (.mv 3), gf 23 21 (.bin .gtr 22 (kI 100)), o1 24
 (.pick 21 kT 23)]) (.frame [25] [] false (.join [] (.cond 24 (.region [o1 25 (.mkI 26 (kI 40)), o0 ⟨none, .panic 25, none⟩]) .skip)))) (.seq (.region [im 26 0, im 27 4, o1 28
 (.nilc 26), fa 29 1 28, o0 ⟨none, .store 1 29 27, none⟩]) (.seq (.region [im 30 3, ia 2 30]) .ret)))))
def C0 : AFn := ⟨ Us, Ea.erase, [.tmp 2], 1⟩
def FR (P : Pg) (x : Aa) (K : Int → Aa → Prop) : Prop :=
 Ag (D := (Int × (Int × Bool))) (fun J1 => (Fn P AcO CM (x.1, x.2.1) (fun (d3 : (Int × (Int × Bool))) (e4 : Unit) => ((((((J1 d3) ∧ True) ∧ True) ∧ True) ∧ (((((J1 d3) ∧ True) ∧ True) ∧ ((((J1 d3) ∧ True) ∧ True) ∧ True)) ∧ True)) ∧ ((((((J1 d3) ∧ True) ∧ True) ∧ True) ∧ (((((J1 d3) ∧ True) ∧ True) ∧ True) ∧ True)) ∧ ((((((J1 d3) ∧ True) ∧ True) ∧ ((((J1 d3) ∧ True) ∧ True) ∧ True)) ∧ (((((J1 d3) ∧ True) ∧ True) ∧ True) ∧ True)) ∧ True))) ∧ (((((((J1 d3) ∧ True) ∧ True) ∧ True) ∧ (((((J1 d3) ∧ True) ∧ True) ∧ ((((J1 d3) ∧ True) ∧ True) ∧ True)) ∧ True)) ∧ ((((((J1 d3) ∧ True) ∧ True) ∧ True) ∧ True) ∧ True)) ∧ (((((((J1 d3) ∧ True) ∧ True) ∧ True) ∧ (((((J1 d3) ∧ True) ∧ True) ∧ True) ∧ True)) ∧ ((((((J1 d3) ∧ True) ∧ True) ∧ True) ∧ True) ∧ True)) ∧ True)))) ∧ True) (fun d2 => Ag (D := Unit) (fun J5 => (((cond (!d2.2.2) true (decide (d2.1 > (100 : Int)))) = true → P.kp (.iface 26 (.int .i64 (40 : Int)))) ∧ ((cond (!d2.2.2) true (decide (d2.1 > (100 : Int)))) = false → J5 ()))) (fun d6 => K d2.1 (x.1, (d2.2.1, x.2.2))))
theorem Jo {P : Pg} (h : Has P C0) {x : DP AZ.ps} {K : DP AZ.rs → DP (ptrs AZ.ps) → Prop} (hw : FR P x K) : Fn P Us AZ x K :=
 BI (c := Ea) h rfl rfl (by kernel_rfl) (Eq.mpr (show BC P C0 AZ Ea x K = _ by kernel_rfl) hw)
def D8 : Be :=
 (.seq (.region [ia 2 (kI 0), ia 3 (kI 0)]) (.seq (.region [im 6 0, oS ⟨some 7, .call Us [6], none⟩ AZ, ia 2 7]) (.seq (.region
 [im 8 2, ia 3 8]) (.seq (.seq (.region [im 9 0, oS ⟨some 10, .call zS3 [9, (.c (.int .u8 44))], none⟩ As]) (.frame (rg [3, 4, 5] 11 12)
 [0] true (.join [.si 3, .bx 0 Aw (.pair .leaf (.pair .leaf (.pair .leaf (.node .own (.pair .leaf (.pair .leaf (.pair .leaf (.pair .leaf tM))))))))] (.cond 10 (.seq
 (.region [ia 3 (kI (-1))]) (.seq (.region [im 12 0, oS ⟨some 13, .call zS9 [12], none⟩ AF, im 11 13, o1 14 (.ext 11 0), o1 15 (.ext 11
 1), ia 4 14, ia 5 15]) (.seq (.region [im 16 5, im 17 16, gt 18 17 (.mv 4), gt 19 17 (.bin .neq 18 (.c (.int .u8 125))), o1 20 (.pick 17 19 kF)]) (.frame [3, 21, 22] [0] true
 (.join [.si 3, .bx 0 Aw (.pair .leaf (.pair .leaf (.pair .leaf (.node .own (.pair .leaf (.pair .leaf (.pair .leaf (.pair .leaf tM))))))))] (.cond 20 (.region [im 21 0,
 oS ⟨some 22, .call Us [21], none⟩ AZ, ia 3 22]) .skip)))))) .skip)))) (.seq (.seq (.region [im 23 0, oS ⟨some 24, .call
 zS3 [23, (.c (.int .u8 125))], none⟩ As, o1 25 (.un .not 24), im 26 25, gf 27 26 (.mv 3), gf 28 26 (.bin .geq 27 (kI 0)), gf 29 26 (.mv
 28), gt 30 29 (.mv 3), gt 31 29 (.mv 2), gt 32 29 (.bin .lss 30 31), gf 33 26 (.pick 29 32 kF), o1 34 (.pick 26 kT 33)]) (.frame [35] [] false (.join [] (.cond 34 (.region [o1 35
 (.mkI 26 (kI 40)), o0 ⟨none, .panic 35, none⟩]) .skip)))) (.seq (.region [im 36 2, im 37 3, ia 2 36, ia 3 37]) .ret))))))
def CY : AFn := ⟨ Y1, D8.erase, [.tmp 2, .tmp 3], 1⟩
def FP (P : Pg) (x : Aa) (K : (Int × Int) → Aa → Prop) : Prop :=
 Fn P Us AZ x (fun (d1 : Int) (e2 : Aa) => Fn P zS3 As (e2, (44 : Int)) (fun (d3 : Bool) (e4 : Aa) => Ag (D := (Int × Aa)) (fun J5 => ((d3 = true → Fn P zS9 AF e4 (fun (d7 : (Int × Bool)) (e8 : Aa) => Ag (D := (Int × Aa)) (fun J9 => (((cond d7.2 (d7.1 != (125 : Int)) false) = true → Fn P Us AZ e8 (fun (d11 : Int) (e12 : Aa) => J9 (d11, e12))) ∧ ((cond d7.2 (d7.1 != (125 : Int)) false) = false → J9 ((-1 : Int), e8)))) (fun d10 => J5 d10))) ∧ (d3 = false → J5 (d1, e4)))) (fun d6 => Fn P zS3 As (d6.2, (125 : Int)) (fun (d13 : Bool) (e14 : Aa) => Ag (D := Unit) (fun J15 => (((cond (!d13) true (cond (decide (d6.1 ≥ (0 : Int))) (decide (d6.1 < d1)) false)) = true → P.kp (.iface 26 (.int .i64 (40 : Int)))) ∧ ((cond (!d13) true (cond (decide (d6.1 ≥ (0 : Int))) (decide (d6.1 < d1)) false)) = false → J15 ()))) (fun d16 => K (d1, d6.1) e14)))))
theorem Jm {P : Pg} (h : Has P CY) {x : DP Bf.ps} {K : DP Bf.rs → DP (ptrs Bf.ps) → Prop} (hw : FP P x K) : Fn P Y1 Bf x K :=
 BI (c := D8) h rfl rfl (by kernel_rfl) (Eq.mpr (show BC P CY Bf D8 x K = _ by kernel_rfl) hw)
end Go.VS
