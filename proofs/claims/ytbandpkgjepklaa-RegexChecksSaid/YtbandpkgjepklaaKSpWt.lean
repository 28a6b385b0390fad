/- Weights: both computations. -/
import Derived.Test.YtbandpkgjepklaaKSpNode
set_option linter.unusedVariables false
set_option linter.unusedSimpArgs false
namespace Go.VS
variable {P : Pg}
theorem AiO {a b : Int} (h1 : 0 ≤ a) (h2 : a ≤ 100) (h3 : 0 ≤ b) (h4 : b ≤ 4002) : 0 ≤ a * b ∧ a * b ≤ 400200 :=
 ⟨Int.mul_nonneg h1 h3, Int.le_trans (Int.mul_le_mul_of_nonneg_right h2 h3) (by omega)⟩
theorem AeK {l : List Int} {i : Int} (h0 : 0 ≤ i) (h : i < (l.length : Int)) : l.take (i + 1).toNat = l.take i.toNat ++ [l.getD i.toNat 0] := by
 rw [show (i + 1).toNat = i.toNat + 1 by omega, List.take_succ_eq_append_getElem (by omega), getD_eq (by omega)]
theorem Aiq {l : List Node} {i : Int} (h0 : 0 ≤ i) (h : i < (l.length : Int)) : l.take (i + 1).toNat = l.take i.toNat ++ [l.getD i.toNat Ak] := by
 rw [show (i + 1).toNat = i.toNat + 1 by omega, List.take_succ_eq_append_getElem (by omega), getD_eq (by omega)]
theorem Ai9 {n : Node} {i : Nat} (ho : R8 n i) {w : List Int} (hw : InW w) (hl : n.2.2.2.2.length ≤ 140737488351232) :
  0 ≤ Adq w n.2.2.2.2 ∧ Adq w n.2.2.2.2 ≤ 4001 ∧ (n.1 = 6 → 0 ≤ n.2.2.1 ∧ n.2.2.1 ≤ 100 ∧ 0 ≤ n.2.2.1 * Adq w n.2.2.2.2 ∧ n.2.2.1 * Adq w n.2.2.2.2 ≤ 400200 ∧ (0 ≤ n.2.2.2.1 → 0 ≤ n.2.2.2.1 - n.2.2.1 ∧ n.2.2.2.1 - n.2.2.1 ≤ 100 ∧ 0 ≤ (n.2.2.2.1 - n.2.2.1) * (Adq w n.2.2.2.2 + 1) ∧ (n.2.2.2.1 - n.2.2.1) * (Adq w n.2.2.2.2 + 1) ≤ 400200)) := by
 have hs := AeF hw n.2.2.2.2
 refine ⟨hs.1, hs.2, fun h6 => ?_⟩
 obtain ⟨_, h1, h2, h3⟩ := ho.2.2.2.2.2 h6
 have := AiO h1 h2 hs.1 (by omega)
 refine ⟨h1, h2, this.1, this.2, fun h0 => ?_⟩
 have := AiO (a := n.2.2.2.1 - n.2.2.1) (b := Adq w n.2.2.2.2 + 1) (by omega) (by omega) (by omega) (by omega)
 exact ⟨by omega, by omega, this.1, this.2⟩
def AfX (P : Pg) : Prop := ∀ x : Node × List Int, InW x.2 → R8 x.1 x.2.length → x.1.2.2.2.2.length ≤ 140737488351232 → Fn P AaZ Adm x fun (d : Int) _ => d = Ac7 x.1 x.2
theorem Aio (h : Has P Ad6) : AfX P := by
 rintro ⟨⟨k, st, mn, mx, kids⟩, w⟩ hw ho hl
 have hc := Ai9 ho hw hl
 dsimp only at hw ho hl hc
 refine Agz h ?_
 unfold Afw
 dsimp only
 refine Ag.mid (fun d => d = Adq w kids) ?_ ?_
 ·refine B0.of (fun d => 0 ≤ d.2 ∧ d.2 ≤ kids.length ∧ d.1 = Adq w (kids.take d.2.toNat)) (fun d => (kids.length - d.2).toNat) ⟨Int.le_refl _, by dsimp only; omega, rfl⟩ ?_
  rintro ⟨n, i⟩ ⟨i0, i1, hi⟩
  dsimp only at i0 i1 hi ⊢
  refine ⟨fun hb => Ag.of ?_, fun hb => ?_⟩
  ·have hb := of_decide_eq_true hb
   have hk := ho.1 i.toNat (by dsimp only; omega)
   dsimp only at hk
   have hn := AeF hw (kids.take i.toNat)
   have hg := hw (kids.getD i.toNat 0).toNat
   have e1 : IntKind.i64.wrap (i + 1) = i + 1 := w64 (by omega) (by omega)
   rw [e1]
   refine ⟨⟨i0, hb⟩, by omega, hk, by omega, ⟨by omega, by omega, ?_⟩, by omega⟩
   rw [AeK i0 hb, Agt, ← hi, w64 (by omega) (by omega)]
   rfl
  ·have hb := of_decide_eq_false hb
   rw [hi, List.take_of_length_le (by omega)]
 ·rintro d rfl
  generalize hS : Adq w kids = S at hc ⊢
  unfold Ac7
  dsimp only
  rw [hS]
  refine Ag.of ⟨fun h4 => ?_, fun h4 => ⟨fun h5 => ?_, fun h5 => ⟨fun h6 => ?_, fun h6 => ?_⟩⟩⟩
  ·simp at h4; rw [if_pos h4]
  ·simp at h4 h5
   rw [if_neg h4, if_pos h5, w64 (n := S + _) (by omega) (by omega), w64 (by omega) (by omega)]
   rfl
  ·simp at h4 h5 h6
   rw [if_neg h4, if_neg h5, if_pos h6]
   obtain ⟨c1, c2, c3, c4, c5⟩ := hc.2.2 h6
   refine ⟨fun hm => ?_, fun hm => ?_⟩
   ·have hm := of_decide_eq_true hm
    rw [if_pos hm, w64 (n := mn * S) (by omega) (by omega), w64 (n := mn * S + S) (by omega) (by omega), w64 (by omega) (by omega)]
    rfl
   ·have hm := of_decide_eq_false hm
    obtain ⟨e1, e2, e3, e4⟩ := c5 (by omega)
    rw [if_neg hm, w64 (n := mn * S) (by omega) (by omega), w64 (n := mx - mn) (by omega) (by omega), w64 (n := S + 1) (by omega) (by omega), w64 (n := (mx - mn) * (S + 1)) (by omega) (by omega), w64 (by omega) (by omega)]
    rfl
  ·simp at h4 h5 h6
   rw [if_neg h4, if_neg h5, if_neg h6]
theorem Aad.Aj3 {l : List Node} (v : Aad l) (i : Nat) : InW (wts (l.take i)) := AhJ fun j hj => by
 have h1 : j < l.length := by simp at hj; omega
 have := v.ok j h1
 rw [getD_eq h1] at this
 rw [getD_eq hj]
 simpa using this
def AeQ (P : Pg) : Prop := ∀ x : List Node, Aad x → KB x → Fn P AcJ Ac9 x fun (d : List Int) _ => d = wts x
theorem Ah7 (h : Has P Ad1) (hW : AfX P) : AeQ P := by
 intro x v hK
 have := v.lo; have := v.hi
 refine Agr h ?_
 unfold Afo
 refine ⟨⟨by omega, by omega, by omega⟩, Ag.mid (fun d => d = wts x) ?_ fun d hd => hd⟩
 refine B0.of (fun d => 0 ≤ d.2 ∧ d.2 ≤ x.length ∧ d.1 = wts (x.take d.2.toNat) ++ List.replicate (x.length - d.2.toNat) 0) (fun d => (x.length - d.2).toNat) ⟨Int.le_refl _, by dsimp only; omega, by simp [wts]⟩ ?_
 rintro ⟨w, i⟩ ⟨i0, i1, hi⟩
 dsimp only at i0 i1 hi ⊢
 refine ⟨fun hb => Ag.of ?_, fun hb => ?_⟩
 ·have hb := of_decide_eq_true hb
  refine ⟨⟨i0, hb⟩, by omega, ?_⟩
  have hlen : (wts (x.take i.toNat)).length = i.toNat := by rw [Aeg]; simp; omega
  have hg : ∀ j, w.getD j 0 = (wts (x.take i.toNat)).getD j 0 := by
   intro j
   rw [hi]
   rcases Nat.lt_or_ge j i.toNat with hj | hj
   ·rw [Dx (by omega)]
   ·rw [List.getD_eq_getElem?_getD, List.getElem?_append_right (by omega), List.getD_eq_getElem?_getD, List.getElem?_eq_none (l := wts _) (by omega)]
    rw [List.getElem?_replicate]
    split <;> rfl
  have hwl : w.length = x.length := by rw [hi]; simp [hlen]; omega
  refine (hW (x.getD i.toNat Ak, w) ?_ ?_ (hK _)).to ?_
  ·intro j; dsimp only; rw [hg]; exact v.Aj3 _ j
  ·have := v.ok i.toNat (by omega)
   exact ⟨fun k hk => by have := this.1 k hk; dsimp only; omega, this.2⟩
  ·rintro (d : Int) _ rfl
   dsimp only
   rw [w64 (by omega) (by omega)]
   have e : Ac7 (x.getD i.toNat Ak) w = Ac7 (x.getD i.toNat Ak) (wts (x.take i.toNat)) := by
    have : ∀ kids, Adq w kids = Adq (wts (x.take i.toNat)) kids := fun kids => by unfold Adq; simp only [hg]
    unfold Ac7; simp only [this]
   refine ⟨⟨i0, by omega⟩, by omega, ⟨by omega, by omega, ?_⟩, by omega⟩
   have : x.length - i.toNat = (x.length - (i + 1).toNat) + 1 := by omega
   rw [Aiq i0 hb, AfG, e, hi, this, List.replicate_succ, List.set_append_right _ _ (by omega), hlen, Nat.sub_self, List.set_cons_zero, List.append_assoc]
   rfl
 ·have hb := of_decide_eq_false hb
  rw [hi, List.take_of_length_le (by omega), show x.length - i.toNat = 0 by omega]
  simp
def AfT (P : Pg) : Prop := ∀ x : List Node, KB x → x.length ≤ 140737488351232 → Fn P Uo Adl x fun (d : Int × Int) _ => (Aad x → d = ((wts x).getD (x.length - 1) 0, 0)) ∧ (¬ Aad x → d = (0, 2))
theorem Aik (h : Has P Ad5) (hC : Ab6 P) (hW : AeQ P) : AfT P := by
 intro x hK hl
 refine Agy h ?_
 unfold Afv
 refine (hC x hK hl).to ?_
 rintro (d : Int) _ hd
 refine ⟨fun hc => ⟨fun v => ?_, fun nv => ?_⟩, fun hc => ?_⟩
 ·rw [hd.1 v] at hc; simp at hc
 ·rw [hd.2 nv]
 ·have v : Aad x := by
   apply Classical.byContradiction
   intro nv
   rw [hd.2 nv] at hc; simp at hc
  have := v.lo
  refine (hW x v hK).to ?_
  rintro (w : List Int) _ rfl
  have hlen := Aeg x
  rw [w64 (by omega) (by omega)]
  refine ⟨⟨by omega, by omega⟩, by omega, fun _ => ?_, fun nv => (nv v).elim⟩
  rw [show (((x.length : Nat) : Int) - 1).toNat = x.length - 1 by omega]
def AlL (P : Pg) : Prop := ∀ x : Int, Fn P VL Alx x fun (d : Int) _ => d = AdS x
theorem AlW (h : Has P AlB) : AlL P := by
 intro x
 refine AlO h ?_
 unfold AlH
 rfl
def AlD (P : Pg) : Prop := ∀ x : List Node, KB x → x.length ≤ 140737488351232 → Fn P Up Alw x fun (d : Int × Int) _ => (Aad x → d = ((wts x).getD (x.length - 1) 0, 0)) ∧ (¬ Aad x → d = (0, 2))
theorem AlV (h : Has P AlA) (hC : Agm P) (hcap : AlL P) : AlD P := by
 intro x hK hl
 refine AlN h ?_
 unfold AlG
 refine (hC x hK hl).to ?_
 rintro (d : Int) _ hd
 refine ⟨fun hc => ⟨fun v => ?_, fun nv => rfl⟩, fun hc => ?_⟩
 ·rw [hd.1 v] at hc; simp at hc
 have v : Aad x := by
  apply Classical.byContradiction
  intro nv
  rw [hd.2 nv] at hc; simp at hc
 have hlo := v.lo; have hhi := v.hi
 refine Ag.mid (fun d => d = wts x) ?_ ?_
 ·refine B0.of (fun d => 0 ≤ d.2 ∧ d.2 ≤ x.length ∧ d.1 = wts (x.take d.2.toNat)) (fun d => (x.length - d.2).toNat) ⟨Int.le_refl _, by dsimp only; omega, rfl⟩ ?_
  rintro ⟨w, i⟩ ⟨i0, i1, hi⟩
  dsimp only at i0 i1 hi ⊢
  refine ⟨fun hb => Ag.of ?_, fun hb => ?_⟩
  ·have hb := of_decide_eq_true hb
   have hlen : w.length = i.toNat := by rw [hi, Aeg]; simp; omega
   have hw : InW w := by rw [hi]; exact v.Aj3 _
   have ho : R8 (x.getD i.toNat Ak) w.length := by rw [hlen]; exact v.ok _ (by omega)
   have hfin : ∀ d, d = Ac7 (x.getD i.toNat Ak) w → (w.length + ([d] : List Int).length) * 8 ≤ 140737488355328 ∧ (0 ≤ IntKind.i64.wrap (i + 1) ∧ IntKind.i64.wrap (i + 1) ≤ (x.length : Int) ∧ w ++ [d] = wts (x.take (IntKind.i64.wrap (i + 1)).toNat)) ∧ ((x.length : Int) - IntKind.i64.wrap (i + 1)).toNat < ((x.length : Int) - i).toNat := by
    rintro d rfl
    rw [w64 (by omega) (by omega), Aiq i0 hb, AfG, hi]
    rw [hi] at hlen
    refine ⟨?_, ⟨by omega, by omega, rfl⟩, by omega⟩
    simp only [List.length_cons, List.length_nil]; omega
   have hI : 0 ≤ i ∧ i < (x.length : Int) := ⟨i0, hb⟩
   have hIN : i.toNat < x.length := by omega
   have hKi := hK i.toNat
   generalize x.getD i.toNat Ak = n at ho hfin hKi ⊢
   obtain ⟨k, st, mn, mx, kids⟩ := n
   have hcs := Ai9 ho hw hKi
   dsimp only at hKi hcs ⊢
   refine Ag.mid (fun d => d = Adq w kids) ?_ ?_
   ·refine B0.of (fun d => 0 ≤ d.2 ∧ d.2 ≤ kids.length ∧ d.1 = Adq w (kids.take d.2.toNat)) (fun d => (kids.length - d.2).toNat) ⟨Int.le_refl _, by dsimp only; omega, rfl⟩ ?_
    rintro ⟨n, j⟩ ⟨j0, j1, hj⟩
    dsimp only at j0 j1 hj ⊢
    refine ⟨hI, hIN, fun hb => Ag.of ?_, fun hb => ?_⟩
    ·have hb := of_decide_eq_true hb
     have hk := ho.1 j.toNat (by dsimp only; omega)
     dsimp only at hk
     have hn := AeF hw (kids.take j.toNat)
     have hg := hw (kids.getD j.toNat 0).toNat
     refine ⟨hI, hIN, ⟨j0, hb⟩, by omega, hk, by omega, ?_⟩
     refine (hcap _).to ?_
     rintro (c : Int) _ rfl
     refine ⟨⟨?_, ?_, ?_⟩, ?_⟩ <;> rw [w64 (n := j + 1) (by omega) (by omega)]
     ·omega
     ·omega
     ·rw [AeK j0 hb, Agt, ← hj, w64 (by omega) (by omega)]
     ·omega
    ·have hb := of_decide_eq_false hb
     rw [hj, List.take_of_length_le (by omega)]
   ·rintro d rfl
    refine ⟨hI, hIN, ?_⟩
    have hWn : Ac7 (k, (st, (mn, (mx, kids)))) w = Ac7 (k, (st, (mn, (mx, kids)))) w := rfl
    conv at hWn => rhs; unfold Ac7
    dsimp only at hWn
    generalize hS : Adq w kids = S at hcs hWn ⊢
    refine Ag.mid (fun d => AdS d = Ac7 (k, (st, (mn, (mx, kids)))) w) (Ag.of ⟨fun h5 => ⟨hI, hIN, ?_⟩, fun h5 => Ag.of ⟨fun h6 => ⟨hI, hIN, ?_⟩, fun h6 => Ag.of ⟨fun h4 => ?_, fun h4 => ?_⟩⟩⟩) ?_
    ·simp at h5
     subst h5
     rw [if_neg (show ¬ (5 : Int) = 4 by omega), if_pos rfl] at hWn
     rw [hWn, w64 (n := S + _) (by omega) (by omega), w64 (by omega) (by omega)]
    ·simp at h6
     subst h6
     obtain ⟨c1, c2, c3, c4, c5⟩ := hcs.2.2 rfl
     rw [if_neg (show ¬ (6 : Int) = 4 by omega), if_neg (show ¬ (6 : Int) = 5 by omega), if_pos rfl] at hWn
     refine Ag.mid (fun d => d = if mx < 0 then S + 1 else (mx - mn) * (S + 1)) ⟨fun hm => Ag.of ⟨hI, hIN, hI, hIN, ?_, trivial⟩, fun hm => ?_⟩ ?_
     ·have hm := of_decide_eq_true hm
      obtain ⟨e1, e2, e3, e4⟩ := c5 hm
      rw [if_neg (by omega), w64 (n := mx - mn) (by omega) (by omega), w64 (n := S + 1) (by omega) (by omega), w64 (by omega) (by omega)]
     ·have hm := of_decide_eq_false hm
      rw [if_pos (by omega), w64 (by omega) (by omega)]
     ·rintro d rfl
      refine ⟨hI, hIN, ?_⟩
      rw [hWn, w64 (n := mn * S) (by omega) (by omega)]
      split
      ·rw [w64 (by omega) (by omega), Int.add_assoc]
      ·obtain ⟨e1, e2, e3, e4⟩ := c5 (by omega)
       rw [w64 (by omega) (by omega)]
    ·simp at h4
     subst h4
     rw [if_pos rfl] at hWn
     rw [hWn]
     show (if 4001 < S then (4001 : Int) else S) = S
     rw [if_neg (by omega)]
    ·simp at h4 h5 h6
     simp only [if_neg h4, if_neg h5, if_neg h6] at hWn
     rw [hWn]; rfl
    ·intro d hd
     refine (hcap _).to ?_
     rintro (c : Int) _ rfl
     exact hfin _ hd
  ·have hb := of_decide_eq_false hb
   rw [hi, List.take_of_length_le (by omega)]
 ·rintro w rfl
  have hlen := Aeg x
  rw [w64 (by omega) (by omega)]
  refine ⟨⟨by omega, by omega⟩, by omega, fun _ => ?_, fun nv => (nv v).elim⟩
  rw [hlen, show (((x.length : Nat) : Int) - 1).toNat = x.length - 1 by omega]
end Go.VS
