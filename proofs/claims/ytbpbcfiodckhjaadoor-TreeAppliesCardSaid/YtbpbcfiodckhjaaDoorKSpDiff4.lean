/- The document's Deltas. -/
import Derived.Test.YtbpbcfiodckhjaaDoorKSpDiff3
set_option linter.unusedVariables false
set_option linter.unusedSimpArgs false
namespace Go.VS
variable {P : Pg}
def IW (P : Pg) : Prop := ∀ x : List Aw × List Aw, CH x.1 → CH x.2 → Gn x.1 → Gn x.2 → Fn P V6 BX x fun (d : List A0) _ => GW x.1 x.2 d
theorem SL (h : Has P DY) (hP : KE P) (hF : Ht P) : IW P := by
 rintro ⟨a, b⟩ ha hb oa ob
 dsimp only at ha hb oa ob
 have hna := ha.1
 have hnb := hb.1
 refine LG h ?_
 unfold Hv
 dsimp only
 refine (hP (a, b) ha hb oa ob).to ?_
 rintro (l : List Bs) _ hl
 have hl : Gath a b l a.length b.length := hl
 have hll := hl.len
 refine Ar.mid (fun d => d = l.filterMap (FJ a b)) ?_ fun d hd => by subst hd; exact Ue hl
 refine BU.of (fun q => (0 ≤ q.2 ∧ q.2 ≤ l.length) ∧ q.1 = (l.take q.2.toNat).filterMap (FJ a b)) (fun q => (l.length - q.2).toNat) ⟨⟨Int.le_refl _, Int.natCast_nonneg _⟩, rfl⟩ ?_
 rintro ⟨o, i⟩ ⟨⟨i0, i1⟩, ho⟩
 dsimp only at i0 i1 ho ⊢
 refine ⟨fun hi => ?_, fun hi => ?_⟩
 ·have hi := of_decide_eq_true hi
  have hi2 : i.toNat < l.length := by omega
  have hol : o.length ≤ l.length := by rw [ho]; exact Nat.le_trans (List.length_filterMap_le ..) (by rw [List.length_take]; omega)
  have hnx : (l.take (i.toNat + 1)).filterMap (FJ a b) = o ++ (FJ a b (l.getD i.toNat [])).toList := by
   rw [ho, List.take_add_one, List.getElem?_eq_getElem hi2, List.filterMap_append, List.getD_eq_getElem?_getD, List.getElem?_eq_getElem hi2]
   simp only [Option.toList_some, Option.getD_some]
   cases hp : FJ a b l[i.toNat] with
   | none => simp [hp]
   | some v => simp [hp]
  have hin : (AU a (l.getD i.toNat [])).isSome = true ∨ (AU b (l.getD i.toNat [])).isSome = true := by
   rcases (hl.mem _).1 (D8 (d := []) hi2) with ⟨k, h1, h2, h3⟩ | ⟨k, h1, h2, h3⟩
   ·exact .inl ((CN a _).2 ⟨_, D8 (d := ([], [])) h2, h3⟩)
   ·exact .inr ((CN b _).2 ⟨_, D8 (d := ([], [])) h2, h3⟩)
  have hpd : FJ a b (l.getD i.toNat []) = (JS a b (l.getD i.toNat [])).map fun k => (l.getD i.toNat [], k) := rfl
  have hsz : ∀ k : Int, (o.length + ([(l.getD i.toNat [], k)] : List A0).length) * 24 ≤ 140737488355328 := fun k => by
   simp only [List.length_cons, List.length_nil]
   omega
  rw [hpd] at hnx
  unfold JS at hnx
  refine Ar.mid (fun d => d = (l.take (i.toNat + 1)).filterMap (FJ a b)) ⟨⟨i0, hi⟩, hi2, (hF (a, l.getD i.toNat []) (by dsimp only; omega)).to ?_⟩ ?_
  ·rintro (da : Bs × Bool) _ hda
   have hda : da = _ := (show da = findF a (l.getD i.toNat []) from hda).trans (K0 oa.ne _)
   refine ⟨⟨i0, hi⟩, hi2, (hF (b, l.getD i.toNat []) (by dsimp only; omega)).to ?_⟩
   rintro (db : Bs × Bool) _ hdb
   have hdb : db = _ := (show db = findF b (l.getD i.toNat []) from hdb).trans (K0 ob.ne _)
   refine Ar.mid (fun d => d = (l.take (i.toNat + 1)).filterMap (FJ a b)) ?_ fun _ h => h
   refine Ar.mid (fun d => d = (l.take (i.toNat + 1)).filterMap (FJ a b)) ?_ fun _ h => h
   cases hba : AU a (l.getD i.toNat []) with
   | none =>
    cases hbb : AU b (l.getD i.toNat []) with
    | none => rw [hba, hbb] at hin; simp at hin
    | some v =>
     rw [hba] at hda
     rw [hba, hbb] at hnx
     subst hda
     exact ⟨fun _ => ⟨⟨i0, hi⟩, hi2, hsz 1, hnx.symm⟩, fun hc => absurd hc (by simp)⟩
   | some u =>
    rw [hba] at hda
    subst hda
    refine ⟨fun hc => absurd hc (by simp), fun _ => ?_⟩
    refine Ar.mid (fun d => d = (l.take (i.toNat + 1)).filterMap (FJ a b)) ?_ fun _ h => h
    cases hbb : AU b (l.getD i.toNat []) with
    | none =>
     rw [hbb] at hdb
     rw [hba, hbb] at hnx
     subst hdb
     exact ⟨fun _ => ⟨⟨i0, hi⟩, hi2, hsz 2, hnx.symm⟩, fun hc => absurd hc (by simp)⟩
    | some v =>
     rw [hbb] at hdb
     rw [hba, hbb] at hnx
     subst hdb
     refine ⟨fun hc => absurd hc (by simp), fun _ => ?_⟩
     refine Ar.mid (fun d => d = (l.take (i.toNat + 1)).filterMap (FJ a b)) ⟨fun hc => ⟨⟨i0, hi⟩, hi2, hsz 3, ?_⟩, fun hc => ?_⟩ fun _ h => h
     ·have hne : ¬ u = v := by simpa using hc
      dsimp only at hnx
      rw [if_neg hne] at hnx
      exact hnx.symm
     ·have he : u = v := by simpa using hc
      dsimp only at hnx
      rw [if_pos he] at hnx
      rw [hnx]
      exact (List.append_nil o).symm
  ·rintro d rfl
   rw [w64 (by omega) (by omega)]
   exact ⟨⟨⟨by omega, by omega⟩, by rw [show (i + 1).toNat = i.toNat + 1 by omega]⟩, by omega⟩
 ·have hi := of_decide_eq_false hi
  rw [ho, List.take_of_length_le (by omega)]
end Go.VS
namespace Go.VS
variable {P : Pg}
theorem LV {l : List Aw} (h : Eu l = 0) : Gn l := by
 unfold Eu at h
 split at h
 ·cases h
 ·split at h
  ·cases h
  ·split at h
   ·cases h
   ·rename_i h3
    exact (M3 l).1 (by simpa using h3)
end Go.VS
