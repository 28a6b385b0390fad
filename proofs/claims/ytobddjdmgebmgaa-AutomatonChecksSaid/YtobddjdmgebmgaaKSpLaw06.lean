/- The statements about layer 6. -/
import Derived.Test.YtobddjdmgebmgaaKSpSearch
set_option linter.unusedVariables false
set_option linter.unusedSimpArgs false
set_option linter.unusedSectionVars false
namespace Go.VS
variable {P : Program}

def madeS (raw : List Int) (N : Int) (i : Nat) : State := (modF (atF raw (1 + 4 * i)) 5, (putF ((0 : Int), ((0 : Int), ((0 : Int), (0 : Int)))) (97 + modF (atF raw (4 + 4 * i)) 2), (modF (atF raw (2 + 4 * i)) N, modF (atF raw (3 + 4 * i)) N)))
def madeF (raw : List Int) (n k : Int) : Auto := ((List.range (1 + modF n k).toNat).map (madeS raw (1 + modF n k)), modF (atF raw 0) (1 + modF n k))
theorem madeF_valid (raw : List Int) (n : Int) {k : Int} (h1 : 1 ≤ k) (h2 : k ≤ 1000) : Valid (madeF raw n k) := by
  have hr := modF_range (a := n) h1 (by omega)
  have hlen : (madeF raw n k).1.length = (1 + modF n k).toNat := by simp [madeF]
  have hst := modF_range (a := atF raw 0) (n := 1 + modF n k) (by omega) (by omega)
  refine ⟨by omega, by omega, hst.1, by rw [hlen]; have := hst.2; show modF _ _ < _; omega, fun i hi => ?_⟩
  rw [hlen] at hi ⊢
  have e : (madeF raw n k).1.getD i zState = madeS raw (1 + modF n k) i := by
    simp [madeF, List.getD_eq_getElem?_getD, List.getElem?_map, List.getElem?_range hi]
  rw [e]
  have a1 := modF_range (a := atF raw (1 + 4 * i)) (n := 5) (by decide) (by decide)
  have a2 := modF_range (a := atF raw (2 + 4 * i)) (n := 1 + modF n k) (by omega) (by omega)
  have a3 := modF_range (a := atF raw (3 + 4 * i)) (n := 1 + modF n k) (by omega) (by omega)
  simp only [okState, madeS]
  omega

theorem madeS_eq (raw : List Int) (N : Int) {i : Int} (h : 0 ≤ i) : madeS raw N i.toNat = (modF (atF raw (1 + 4 * i)) 5, (putF ((0 : Int), ((0 : Int), ((0 : Int), (0 : Int)))) (97 + modF (atF raw (4 + 4 * i)) 2), (modF (atF raw (2 + 4 * i)) N, modF (atF raw (3 + 4 * i)) N))) := by
  unfold madeS
  rw [show ((i.toNat : Nat) : Int) = i by omega]
theorem madeTail (hM : Sp_Mod P) (hP : Sp_Put P) {a k x y : Int} : Fn P "mergelens/mergelensgen.Mod" S_gen_Mod (a, (2 : Int)) fun (d : Int) (_ : Unit) => Fn P "mergelens/mergelensref04.Put" S_ref04_Put (((0 : Int), ((0 : Int), ((0 : Int), (0 : Int)))), IntKind.u8.wrap (97 + IntKind.u8.wrap d)) (fun (d : Set4) (_ : Unit) => (k, ((d.1, (d.2.1, (d.2.2.1, d.2.2.2))), (x, y))) = (k, (putF ((0 : Int), ((0 : Int), ((0 : Int), (0 : Int)))) (97 + modF a 2), (x, y))) ∧ True) ∧ True := by
  have hr2 := modF_range (a := a) (n := 2) (by decide) (by decide)
  refine hM.at (by decide) (by decide) ⟨?_, trivial⟩
  generalize modF a 2 = m at hr2
  have ew : IntKind.u8.wrap (97 + IntKind.u8.wrap m) = 97 + m := by
    rw [wu8 (n := m) (by omega) (by omega), wu8 (by omega) (by omega)]
  rw [ew]
  have h1 : 0 ≤ 97 + m := by omega
  have h2 : 97 + m ≤ 255 := by omega
  refine hP.at h1 h2 fun d hd => ⟨?_, trivial⟩
  rw [← hd]

abbrev S97 : Set4 := putF ((0 : Int), ((0 : Int), ((0 : Int), (0 : Int)))) 97
end Go.VS
