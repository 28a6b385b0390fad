/- Which trees are valid, and what lies in them. -/
import Derived.Test.YtbpbcfiodckhjaaDoorKSpL21
import Derived.Test.YtbpbcfiodckhjaaDoorKSpLn
set_option linter.unusedVariables false
set_option linter.unusedSimpArgs false
namespace Go.VS
variable {P : Pg}
def Wb (l : List BX) : Prop := l.length ≤ 8 ∧ ∀ f ∈ l, f.1.length ≤ 250 ∧ f.2.length ≤ 60
theorem Wb.Ii {l : List BX} (h : Wb l) : Ii l := ⟨by have := h.1; omega, fun f hf => by have := h.2 f hf; omega⟩
def VG (P : Pg) : Prop := ∀ l : List BX, Fn P Wu U9 l fun (d : Bool) _ => d = true → Wb l
theorem Wn (h : Has P Vh) : VG P := by
 intro l
 refine VO h ?_
 unfold VA
 refine ⟨fun _ h => (nomatch h), fun hc => ?_⟩
 have hc := of_decide_eq_false hc
 refine AX.mid (fun _ => Wb l) ?_ fun _ h _ => h
 refine EM.of (fun q => (0 ≤ q.2 ∧ q.2 ≤ l.length) ∧ ∀ j, j < q.2.toNat → (l.getD j ([], [])).1.length ≤ 250 ∧ (l.getD j ([], [])).2.length ≤ 60) (fun q => (l.length - q.2).toNat) ⟨⟨Int.le_refl _, Int.natCast_nonneg _⟩, fun j hj => absurd hj (by simp)⟩ ?_
 rintro ⟨q, i⟩ ⟨⟨i0, i1⟩, hq⟩
 dsimp only at i0 i1 hq ⊢
 refine ⟨fun hi => ?_, fun hi => ?_⟩
 ·have hi := of_decide_eq_true hi
  have hi2 : i.toNat < l.length := by omega
  refine AX.mid (fun _ => (l.getD i.toNat ([], [])).1.length ≤ 250 ∧ (l.getD i.toNat ([], [])).2.length ≤ 60) ⟨⟨i0, hi⟩, hi2, fun _ => ⟨i0, hi⟩, fun _ => hi2, fun _ h => (nomatch h), fun hb => ?_⟩ fun _ hn => ?_
  ·rw [Bool.cond_eq_ite] at hb
   split at hb
   ·cases hb
   ·rename_i h1
    have h1 : ¬ ((((l.getD i.toNat ([], [])).1.length : Nat) : Int) > 250) := fun h => h1 (decide_eq_true h)
    have h2 := of_decide_eq_false hb
    omega
  ·rw [w64 (by omega) (by omega)]
   refine ⟨⟨⟨by omega, by omega⟩, fun j hj => ?_⟩, by omega⟩
   by_cases hji : j = i.toNat
   ·subst hji; exact hn
   ·exact hq j (by omega)
 ·have hi := of_decide_eq_false hi
  refine ⟨by omega, fun f hf => ?_⟩
  obtain ⟨j, hj⟩ := List.getElem?_of_mem hf
  have hl : j < l.length := (List.getElem?_eq_some_iff.1 hj).1
  have := hq j (by omega)
  rwa [List.getD_eq_getElem?_getD, hj, Option.getD_some] at this
theorem V5 (h : Has P Vd) (hS : VG P) (hM : IX P) (hL : V9 P) (hP : FG P) (hF : Gt P) (hG : Vx P) (hT : DA P) (hR : Vf P) (hAw : EP P) (x : List BX × (Bs × (List Int × Int))) :
  Fn P WC U6 x fun (d : Bool) _ => d = true := by
 obtain ⟨l, s, raw, n⟩ := x
 refine Vz h ?_
 unfold Vo
 dsimp only
 refine (hS l).to ?_
 rintro (b : Bool) _ hb
 refine ⟨fun _ => hAw.at rfl, fun hc => ?_⟩
 have hsm := hb (by simpa using hc)
 clear hb hc
 have hr := F6 (a := n) (n := 5) (by decide) (by decide)
 refine AX.mid (fun d => d.length ≤ 5 ∧ ∀ f ∈ d, f.1.length ≤ 1000 ∧ f.2.length ≤ 1000) ?_ fun m hm => ?_
 ·refine EM.of (fun q => 0 ≤ q.2 ∧ q.2 ≤ 5 ∧ (q.1.length : Int) = q.2 ∧ ∀ f ∈ q.1, f.1.length ≤ 1000 ∧ f.2.length ≤ 1000) (fun q => (5 - q.2).toNat) ⟨by decide, by decide, rfl, fun f hf => nomatch hf⟩ ?_
  rintro ⟨m, i⟩ ⟨i0, i1, i2, i3⟩
  dsimp only at i0 i1 i2 i3 ⊢
  refine hM.at (by decide) (by decide) ⟨fun hi => ?_, fun hi => ⟨by omega, i3⟩⟩
  have hi := of_decide_eq_true hi
  refine AX.mid (fun d => (d.length : Int) = i + 1 ∧ ∀ f ∈ d, f.1.length ≤ 1000 ∧ f.2.length ≤ 1000) ?_ fun d hd => ?_
  ·rw [w64 (by omega) (by omega)]
   refine hP.at (by omega) (by omega) ((hL i).to ?_)
   rintro (ln : Bs) _ hln
   have hpl := QK raw (10 * i)
   refine ⟨by simp only [List.length_cons, List.length_nil]; omega, by rw [List.length_append]; simp only [List.length_cons, List.length_nil]; omega, fun f hf => ?_⟩
   rcases List.mem_append.1 hf with hf | hf
   ·exact i3 f hf
   ·rw [List.mem_singleton.1 hf]
    exact ⟨by dsimp only; omega, by have : ln.length ≤ 3 := hln; dsimp only; omega⟩
  ·rw [w64 (by omega) (by omega)]
   exact ⟨⟨by omega, by omega, hd.1, hd.2⟩, by omega⟩
 have hml := L8 (by omega) hm.2
 refine hF.at (by have := hsm.1; omega) (hG.at (by have := hsm.1; omega) (hP.at (by decide) (by decide) (hF.at hml.1 (hP.at (by decide) (by decide) (hG.at hml.1 (hT.at hsm.Ii (hR.at hsm.Ii ?_)))))))
 simp only [beq_self_eq_true, cond_true]
 refine AX.mid (fun d => d = Rt m) ⟨fun _ => hT.at hml rfl, fun h => absurd h (by simp), trivial⟩ ?_
 rintro d rfl
 refine AX.mid (fun d => d = Rt m) ⟨fun _ => hR.at hml rfl, fun h => absurd h (by simp), trivial⟩ ?_
 rintro d rfl
 simp only [beq_self_eq_true, cond_true]
 refine AX.mid (fun d => d = true) ⟨fun _ => hAw.at rfl, fun h => absurd h (by simp), trivial⟩ ?_
 rintro d rfl
 rfl
end Go.VS
