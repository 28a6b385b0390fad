/- The statements about paths, and about which trees are valid. -/
import Derived.Test.YtbpbcfiodckhjaaDoorKSpRTree
set_option linter.unusedVariables false
set_option linter.unusedSimpArgs false
namespace Go.VS
variable {P : Pg}
abbrev JZ : List Bs := [([97] : List UInt8), ([98] : List UInt8), ([47] : List UInt8), ([46] : List UInt8), ([45] : List UInt8), ([46, 46] : List UInt8), ([97, 47, 98] : List UInt8)]
theorem JL (j : Nat) : (JZ.getD j []).length ≤ 3 := by
 rw [List.getD_eq_getElem?_getD]
 cases h : JZ[j]? with
 | none => exact Nat.zero_le _
 | some s => exact (by decide : ∀ s ∈ JZ, s.length ≤ 3) s (List.mem_of_getElem? h)
def GV (raw : List Int) (fr : Int) : Nat → Bs
 | 0 => []
 | k + 1 => GV raw fr k ++ JZ.getD (Hi (atF raw (fr + 1 + k)) 7).toNat []
theorem HK (raw : List Int) (fr : Int) : ∀ k, (GV raw fr k).length ≤ 3 * k
 | 0 => Nat.le_refl _
 | k + 1 => by
  rw [GV, List.length_append]
  have := HK raw fr k
  have := JL (Hi (atF raw (fr + 1 + k)) 7).toNat
  omega
@[irreducible] def K0 (raw : List Int) (fr : Int) : Bs := GV raw fr (Hi (atF raw fr) 6).toNat
theorem QK (raw : List Int) (fr : Int) : (K0 raw fr).length ≤ 15 := by
 unfold K0
 have := HK raw fr (Hi (atF raw fr) 6).toNat
 have := F6 (a := atF raw fr) (n := 6) (by decide) (by decide)
 omega
def FG (P : Pg) : Prop := ∀ x : List Int × Int, 0 ≤ x.2 → x.2 ≤ 1000000 → Fn P zS5 BV x fun (d : Bs) _ => d = K0 x.1 x.2
theorem QT (h : Has P Et) (hA : Nk P) (hM : IX P) : FG P := by
 rintro ⟨raw, fr⟩ h0 h1
 dsimp only at h0 h1
 refine Lu h ?_
 unfold HS
 dsimp only
 unfold K0
 have hr := F6 (a := atF raw fr) (n := 6) (by decide) (by decide)
 refine AX.mid (fun d => d = GV raw fr (Hi (atF raw fr) 6).toNat) ?_ fun _ h => h
 refine EM.of (fun q => 0 ≤ q.2 ∧ q.2 ≤ Hi (atF raw fr) 6 ∧ q.1 = GV raw fr q.2.toNat) (fun q => (6 - q.2).toNat) ⟨Int.le_refl _, hr.1, rfl⟩ ?_
 rintro ⟨s, i⟩ ⟨i0, i1, hs⟩
 dsimp only at i0 i1 hs ⊢
 refine hA.at h0 (hM.at (by decide) (by decide) ⟨fun hi => ?_, fun hi => ?_⟩)
 ·have hi := of_decide_eq_true hi
  refine AX.mid (fun d => d = GV raw fr (i.toNat + 1)) ?_ ?_
  ·rw [w64 (n := fr + 1) (by omega) (by omega), w64 (n := fr + 1 + i) (by omega) (by omega)]
   refine hA.at (by omega) (hM.at (by decide) (by decide) ?_)
   have hr2 := F6 (a := atF raw (fr + 1 + i)) (n := 7) (by decide) (by decide)
   have hl := HK raw fr i.toNat
   have hw := JL (Hi (atF raw (fr + 1 + i)) 7).toNat
   refine ⟨⟨hr2.1, hr2.2⟩, by simp only [List.length_cons, List.length_nil]; omega, by rw [hs]; exact Nat.le_trans (Nat.add_le_add hl hw) (by omega), ?_⟩
   rw [GV, hs, Int.toNat_of_nonneg i0]
  ·rintro d rfl
   rw [w64 (by omega) (by omega)]
   exact ⟨⟨by omega, by omega, by rw [show (i + 1).toNat = i.toNat + 1 by omega]⟩, by omega⟩
 ·have hi := of_decide_eq_false hi
  rw [hs, show i = Hi (atF raw fr) 6 by omega]
theorem FG.at (h : FG P) {raw : List Int} {fr : Int} (h0 : 0 ≤ fr) (h1 : fr ≤ 1000000) {K : Bs → Unit → Prop} (hk : K (K0 raw fr) ()) : Fn P zS5 BV (raw, fr) K :=
 (h (raw, fr) h0 h1).to fun (d : Bs) _ hd => by
  have hd : d = K0 raw fr := hd
  subst hd
  exact hk
theorem L8 {l : List BX} (h : l.length ≤ 10) (h2 : ∀ f ∈ l, f.1.length ≤ 1000 ∧ f.2.length ≤ 1000) : Ii l := ⟨by omega, fun f hf => by have := h2 f hf; omega⟩
def EP (P : Pg) : Prop := Fn P zS7 A7 () fun (d : Bool) _ => d = true
theorem PB (h : Has P D6) (hF : Gt P) (hT : DA P) (hC : Ct P) : EP P := by
 refine Kp h ?_
 unfold Hl
 refine hF.at (by decide) (hT.at (L8 (by decide) (by decide)) ?_)
 rw [show Rt [(([97] : List UInt8), ([] : List UInt8)), (([97, 45, 98] : List UInt8), ([] : List UInt8)), (([97, 47, 99] : List UInt8), ([] : List UInt8))] = 211 from by decide,
  show findF [(([97] : List UInt8), ([120] : List UInt8))] [97] = ([120], true) from by decide]
 simp only [beq_self_eq_true, cond_true]
 refine ⟨fun _ => by decide, ?_⟩
 refine AX.mid (fun d => d = 0) ⟨⟨by decide, fun _ => hT.at (L8 (by decide) (by decide)) (by decide)⟩, fun hc => absurd hc (by simp), trivial⟩ ?_
 rintro d rfl
 simp only [beq_self_eq_true, cond_true]
 refine AX.mid (fun d => d = 210) ⟨fun _ => hC.at (by decide) (by decide), fun hc => absurd hc (by simp), trivial⟩ ?_
 rintro d rfl
 simp only [beq_self_eq_true, cond_true]
 refine AX.mid (fun d => d = 0) ⟨fun _ => hC.at (by decide) (by decide), fun hc => absurd hc (by simp), trivial⟩ ?_
 rintro d rfl
 rfl
theorem EP.at (h : EP P) {K : Bool → Unit → Prop} (hk : K true ()) : Fn P zS7 A7 () K :=
 Fn.to h fun (d : Bool) _ hd => by
  have hd : d = true := hd
  subst hd
  exact hk
end Go.VS
