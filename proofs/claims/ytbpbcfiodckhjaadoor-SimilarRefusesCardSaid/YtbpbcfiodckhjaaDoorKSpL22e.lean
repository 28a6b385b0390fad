/- SimilarRefuses. -/
import Derived.Test.YtbpbcfiodckhjaaDoorKSpRenE
import Derived.Test.YtbpbcfiodckhjaaDoorKSpL21c
import Derived.Test.YtbpbcfiodckhjaaDoorKSpL22b
set_option linter.unusedVariables false
set_option linter.unusedSimpArgs false
namespace Go.VS
variable {P : Pg}
theorem Aam {l : List Aw} (h : (BT.sl (.pair .str .str)).Good l) (hn : l.length ≤ 1000000) : CH l := ⟨hn, fun f hf => h.2 f hf⟩
theorem ZU (h : Has P ZA) (hC : DE P) (hD : IX P) (hR : Z8 P) (hAw : ZI P) (x : List Aw × (List Aw × Int)) (gx : (tyP Zx.ps).Good x) :
  Fn P V6 Zx x fun (d : Bool) _ => d = true := by
 obtain ⟨l, m, least⟩ := x
 obtain ⟨gl, gm, _⟩ := gx
 have gl : (BT.sl (.pair .str .str)).Good l := gl
 have gm : (BT.sl (.pair .str .str)).Good m := gm
 refine ZL h ?_
 unfold ZF
 dsimp only
 have hlen : (cond (decide (((l.length : Nat) : Int) > 6)) true (decide (((m.length : Nat) : Int) > 6))) = false → l.length ≤ 6 ∧ m.length ≤ 6 := fun hc => by
  rw [Bool.cond_eq_ite] at hc
  split at hc
  ·cases hc
  ·rename_i h1
   have h1 : ¬ (((l.length : Nat) : Int) > 6) := fun h => h1 (decide_eq_true h)
   have h2 := of_decide_eq_false hc
   omega
 have hlt : (cond (decide (((l.length : Nat) : Int) > 6)) true (decide (((m.length : Nat) : Int) > 6))) = false → CH l ∧ CH m := fun hc => by
  have := hlen hc
  exact ⟨Aam gl (by omega), Aam gm (by omega)⟩
 generalize (cond (decide (((l.length : Nat) : Int) > 6)) true (decide (((m.length : Nat) : Int) > 6))) = lg at hlen hlt ⊢
 refine Ar.mid (fun d => lg = false → d = Eu l) ⟨fun hc => hC.at (hlt hc).1 fun _ => rfl, fun hc h => (by rw [hc] at h; cases h), trivial⟩ ?_
 intro d3 h3
 refine Ar.mid (fun d => lg = false → d3 = 0 → d = Eu m) ⟨fun _ hc => hC.at (hlt hc).2 fun _ _ => rfl, fun hc _ h => (by rw [h] at hc; simp at hc), fun hc h => (by rw [hc] at h; cases h), trivial⟩ ?_
 intro d6 h6
 refine ⟨fun _ => hAw.at rfl, fun hc => ?_⟩
 cases lg with
 | true => simp at hc
 | false =>
  have hmt := (hlt rfl).2
  have hlt := (hlt rfl).1
  have hbo : Hl l m ≠ 0 := fun hb => by
   unfold Hl at hb
   split at hb
   ·rename_i h1; exact h1 hb
   ·rename_i h1
    have h1 : Eu l = 0 := by omega
    have e3 := h3 rfl
    rw [h1] at e3
    have e6 := h6 rfl e3
    rw [hb] at e6
    subst e3 e6
    simp at hc
  refine (hD (l, m) hlt hmt).to ?_
  rintro (d : List A0 × Int) _ hd
  have hd : IU l m d := hd
  have hd2 := hd.1
  refine (hR (l, m, least) hlt hmt hbo).to ?_
  rintro (r : List (Bs × (Bs × Int)) × Int) _ hr
  have hr : r = ([], Hl l m) := hr
  subst hr
  rw [hd2]
  have hz : ((((([] : List (Bs × (Bs × Int))).length : Nat)) : Int) == 0) = true := rfl
  simp only [beq_self_eq_true, cond_true, hz]
  refine Ar.mid (fun d => d = true) ⟨fun _ => hAw.at rfl, fun h => absurd h (by simp), trivial⟩ ?_
  rintro d rfl
  simp
end Go.VS
