/- Trees: which are valid. -/
import Derived.Test.YtbpbcfiodckhjaaDoorKSpOrd
import Derived.Test.YtbpbcfiodckhjaaDoorKSpRPath
import Derived.Test.YtbpbcfiodckhjaaDoorKSpTxt
set_option linter.unusedVariables false
set_option linter.unusedSimpArgs false
namespace Go.VS
variable {P : Pg}
def Rt (l : List BX) : Int :=
 if l.length > 200 then 1 else if l.all (fun f => BU f.1 == 0) = false then 210 else if Oc l = false then 211 else if l.all (fun f => Hu f.2 == 0) = false then 1 else 0
def Ii (l : List BX) : Prop := l.length ≤ 1000000 ∧ ∀ f ∈ l, f.1.length ≤ 140737488351232 ∧ f.2.length ≤ 140737488351232
theorem Ii.at {l : List BX} (h : Ii l) {i : Nat} (hi : i < l.length) : (l.getD i ([], [])).1.length ≤ 140737488351232 ∧ (l.getD i ([], [])).2.length ≤ 140737488351232 := h.2 _ (Kw hi)
def OR (P : Pg) : Prop := ∀ f : BX, f.1.length ≤ 140737488351232 → Fn P zS8 BG f fun (d : Bool) _ => d = (BU f.1 != 0)
theorem Ud (h : Has P Dw) (hC : Ct P) : OR P := by
 intro f hf
 refine JM h ?_
 unfold Gu
 exact hC.at hf rfl
def OS (P : Pg) : Prop := ∀ f : BX, f.2.length ≤ 140737488351232 → Fn P zS9 BH f fun (d : Bool) _ => d = (Hu f.2 != 0)
theorem Ue (h : Has P Dx) (hC : IY P) : OS P := by
 intro f hf
 refine JN h ?_
 unfold Gv
 refine (hC _ hf).to ?_
 rintro (d : Int) _ hd
 have hd : d = Hu f.2 := hd
 rw [hd]
def OT (P : Pg) : Prop := ∀ l : List BX, Ii l → Fn P zS2 Am (l, ()) fun (d : Int) _ => decide (d ≥ 0) = l.any fun f => BU f.1 != 0
theorem Q7 {α : Type} {l : List α} {p : α → Bool} {i : Nat} {d : α} (hi : i < l.length) (h : p (l.getD i d) = true) : l.any p = true := List.any_eq_true.2 ⟨_, Kw hi, h⟩
theorem Q9 {α : Type} {l : List α} {p : α → Bool} {d : α} (h : ∀ j, j < l.length → p (l.getD j d) = false) : l.any p = false := by
 rw [List.any_eq_false]
 intro x hx
 obtain ⟨j, hj⟩ := List.getElem?_of_mem hx
 have hl : j < l.length := (List.getElem?_eq_some_iff.1 hj).1
 have := h j hl
 rw [List.getD_eq_getElem?_getD, hj, Option.getD_some] at this
 rw [this]; simp
theorem Uf (h : Has P AE) (hC : OR P) : OT P := by
 intro l hl
 refine B2 h ?_
 unfold Bc
 dsimp only
 refine AX.mid (fun _ => (l.any fun f => BU f.1 != 0) = false) ?_ fun _ h => by rw [h]; rfl
 refine EM.of (fun q => (0 ≤ q.2 ∧ q.2 ≤ l.length) ∧ ∀ j, j < q.2.toNat → (BU (l.getD j ([], [])).1 != 0) = false) (fun q => (l.length - q.2).toNat) ⟨⟨Int.le_refl _, by dsimp only; omega⟩, fun j hj => absurd hj (by simp)⟩ ?_
 rintro ⟨q, i⟩ ⟨⟨i0, i1⟩, hq⟩
 dsimp only at i0 i1 hq ⊢
 have hln := hl.1
 refine ⟨fun hi => ?_, fun hi => ?_⟩
 ·have hi := of_decide_eq_true hi
  have hi2 : i.toNat < l.length := by omega
  refine AX.mid (fun _ => (BU (l.getD i.toNat ([], [])).1 != 0) = false) ⟨⟨i0, hi⟩, hi2, (hC _ (hl.at hi2).1).to ?_⟩ fun _ hn => ?_
  ·rintro (d : Bool) _ hd
   have hd : d = _ := hd
   subst hd
   refine ⟨fun hb => ?_, fun hb => hb⟩
   rw [Q7 (d := ([], [])) hi2 hb, decide_eq_true (by omega)]
  ·rw [w64 (by omega) (by omega)]
   refine ⟨⟨⟨by omega, by omega⟩, fun j hj => ?_⟩, by omega⟩
   by_cases hji : j = i.toNat
   ·subst hji; exact hn
   ·exact hq j (by omega)
 ·have hi := of_decide_eq_false hi
  exact Q9 (d := ([], [])) fun j hj => hq j (by omega)
def OU (P : Pg) : Prop := ∀ l : List BX, Ii l → Fn P zS2 Ao (l, ()) fun (d : Int) _ => decide (d ≥ 0) = l.any fun f => Hu f.2 != 0
theorem Ug (h : Has P AF) (hC : OS P) : OU P := by
 intro l hl
 refine B3 h ?_
 unfold Bd
 dsimp only
 refine AX.mid (fun _ => (l.any fun f => Hu f.2 != 0) = false) ?_ fun _ h => by rw [h]; rfl
 refine EM.of (fun q => (0 ≤ q.2 ∧ q.2 ≤ l.length) ∧ ∀ j, j < q.2.toNat → (Hu (l.getD j ([], [])).2 != 0) = false) (fun q => (l.length - q.2).toNat) ⟨⟨Int.le_refl _, by dsimp only; omega⟩, fun j hj => absurd hj (by simp)⟩ ?_
 rintro ⟨q, i⟩ ⟨⟨i0, i1⟩, hq⟩
 dsimp only at i0 i1 hq ⊢
 have hln := hl.1
 refine ⟨fun hi => ?_, fun hi => ?_⟩
 ·have hi := of_decide_eq_true hi
  have hi2 : i.toNat < l.length := by omega
  refine AX.mid (fun _ => (Hu (l.getD i.toNat ([], [])).2 != 0) = false) ⟨⟨i0, hi⟩, hi2, (hC _ (hl.at hi2).2).to ?_⟩ fun _ hn => ?_
  ·rintro (d : Bool) _ hd
   have hd : d = _ := hd
   subst hd
   refine ⟨fun hb => ?_, fun hb => hb⟩
   rw [Q7 (d := ([], [])) hi2 hb, decide_eq_true (by omega)]
  ·rw [w64 (by omega) (by omega)]
   refine ⟨⟨⟨by omega, by omega⟩, fun j hj => ?_⟩, by omega⟩
   by_cases hji : j = i.toNat
   ·subst hji; exact hn
   ·exact hq j (by omega)
 ·have hi := of_decide_eq_false hi
  exact Q9 (d := ([], [])) fun j hj => hq j (by omega)
def OV (P : Pg) : Prop := ∀ l : List BX, Ii l → Fn P zS3 Ak (l, ()) fun (d : Bool) _ => d = l.any fun f => BU f.1 != 0
theorem Uh (h : Has P AA) (hI : OT P) : OV P := by
 intro l hl
 refine BM h ?_
 unfold A8
 exact (hI l hl).to fun (d : Int) _ hd => hd
def OW (P : Pg) : Prop := ∀ l : List BX, Ii l → Fn P zS3 Al (l, ()) fun (d : Bool) _ => d = l.any fun f => Hu f.2 != 0
theorem Ui (h : Has P AB) (hI : OU P) : OW P := by
 intro l hl
 refine BN h ?_
 unfold A9
 exact (hI l hl).to fun (d : Int) _ hd => hd
theorem Q8 {α : Type} (l : List α) (p : α → Int) : (l.any fun f => p f != 0) = !(l.all fun f => p f == 0) := by
 induction l with
 | nil => rfl
 | cons a l ih => rw [List.any_cons, List.all_cons, ih, Bool.not_and]; rfl
def DA (P : Pg) : Prop := ∀ l : List BX, Ii l → Fn P zS6 Bq l fun (d : Int) _ => d = Rt l
theorem M7 (h : Has P Ew) (h1 : OV P) (hO : Hq P) (h2 : OW P) : DA P := by
 intro l hl
 refine Lx h ?_
 unfold HV
 unfold Rt
 refine AX.mid (fun _ => l.length ≤ 200 ∧ l.all (fun f => BU f.1 == 0) = true ∧ Oc l = true ∧ l.all (fun f => Hu f.2 == 0) = true) ?_ fun _ hh => by
  obtain ⟨a1, a2, a3, a4⟩ := hh
  rw [if_neg (by omega), if_neg (by rw [a2]; simp), if_neg (by rw [a3]; simp), if_neg (by rw [a4]; simp)]
 refine ⟨fun hc => ?_, fun hc => ?_⟩
 ·have hc := of_decide_eq_true hc
  rw [if_pos (by omega)]
 have hc := of_decide_eq_false hc
 rw [if_neg (by omega)]
 refine (h1 l hl).to ?_
 rintro (d : Bool) _ hd
 have hd : d = _ := hd
 rw [Q8 l fun f => BU f.1] at hd
 subst hd
 refine ⟨fun hb => ?_, fun hb => ?_⟩
 ·rw [if_pos (by simpa using hb)]
 have hb : l.all (fun f => BU f.1 == 0) = true := by simpa using hb
 rw [if_neg (by rw [hb]; simp)]
 refine (hO l hl.1 hl.2).to ?_
 rintro (d : Bool) _ hd
 have hd : d = Oc l := hd
 subst hd
 refine ⟨fun hb2 => ?_, fun hb2 => ?_⟩
 ·rw [if_pos (by simpa using hb2)]
 have hb2 : Oc l = true := by simpa using hb2
 rw [if_neg (by rw [hb2]; simp)]
 refine (h2 l hl).to ?_
 rintro (d : Bool) _ hd
 have hd : d = _ := hd
 rw [Q8 l fun f => Hu f.2] at hd
 subst hd
 refine ⟨fun hb3 => ?_, fun hb3 => ?_⟩
 ·rw [if_pos (by simpa using hb3)]
 have hb3 : l.all (fun f => Hu f.2 == 0) = true := by simpa using hb3
 exact ⟨by omega, hb, hb2, hb3⟩
theorem DA.at (h : DA P) {l : List BX} (hl : Ii l) {K : Int → Unit → Prop} (hk : K (Rt l) ()) : Fn P zS6 Bq l K :=
 (h l hl).to fun (d : Int) _ hd => by
  have hd : d = Rt l := hd
  subst hd
  exact hk
end Go.VS
