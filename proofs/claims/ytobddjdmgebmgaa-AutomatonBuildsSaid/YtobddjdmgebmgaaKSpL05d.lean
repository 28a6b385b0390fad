/- Thompson's theorem for patterns. -/
import Derived.Test.YtobddjdmgebmgaaKSpAwk05
import Derived.Test.YtobddjdmgebmgaaKSpPat
import Derived.Test.YtobddjdmgebmgaaKSpPatt
set_option linter.unusedVariables false
set_option linter.unusedSimpArgs false
namespace Go.VS
variable {P : Program}
def Sp_short05 (P : Program) : Prop := ∀ x : Bs × Int, 0 ≤ x.2 → Fn P "mergelens/mergelenslaw05.short" S_law05_short x fun (d : Bs) _ => (d.length : Int) ≤ x.2
theorem sp_short05 (h : Has P F_law05_short) : Sp_short05 P := by
 rintro ⟨s, n⟩ hn
 dsimp only at hn
 refine fn_law05_short h ?_
 unfold W_law05_short
 dsimp only
 refine ⟨⟨by split <;> omega, by split <;> omega⟩, ?_⟩
 rw [List.length_take]
 split <;> omega
theorem sp_AutomatonBuilds (h : Has P F_law05_AutomatonBuilds) (hPt : Sp_Pattern P) (hPs : Sp_RParse P) (hSh : Sp_short05 P) (hW : Sp_RWeight P) (hA : Sp_At P) (hM : Sp_Mod P) (hB : Sp_Build P) (hR : Sp_RCheck P) (hAc : Sp_accepts P) (hAw : Sp_awake05 P) (x : List Int × (Int × (List UInt8 × Bool))) :
  Fn P "mergelens/mergelenslaw05.AutomatonBuilds" S_law05_AutomatonBuilds x fun (d : Bool) _ => d = true := by
 obtain ⟨raw, n, s, pl⟩ := x
 refine fn_law05_AutomatonBuilds h ?_
 unfold W_law05_AutomatonBuilds
 dsimp only
 refine (hPt (raw, n)).to ?_
 rintro (p : Bs) _ ⟨hm, hpl⟩
 refine (hPs p).to ?_
 rintro (q : List Node × Int) _ hq
 have hq : q = parseF p := hq
 obtain ⟨l, e⟩ := q
 dsimp only
 refine ⟨fun _ => Fn.to hAw fun (d : Bool) _ hd => hd, fun hc => ?_⟩
 have he : e = 0 := by simpa using hc
 subst he
 obtain ⟨v, hK, _⟩ := parse_ok hq.symm
 have hw := (parse_w hm hq.symm).2.1
 have hw0 := (v.inW (l.length - 1)).1
 have hll := v.hi
 refine (hSh (s, 9) (show (0 : Int) ≤ 9 by decide)).to ?_
 rintro (s1 : Bs) _ hs1
 have hs1 : (s1.length : Int) ≤ 9 := hs1
 refine JoinW.mid (fun s => s.length ≤ 10) ⟨fun _ => ?_, fun _ => by omega⟩ fun s hs => ?_
 ·refine JoinW.of (LoopW.of (fun d => 0 ≤ d.2 ∧ d.2 ≤ 10 ∧ (d.1.length : Int) = d.2) (fun d => (10 - d.2).toNat) ⟨Int.le_refl _, by dsimp only; omega, rfl⟩ ?_)
  rintro ⟨s, i⟩ ⟨i0, i1, hs⟩
  dsimp only at i0 i1 hs ⊢
  refine hA.at (by decide) (hM.at (by decide) (by decide) ?_)
  have hr := modF_range (a := atF raw 70) (n := 10) (by decide) (by decide)
  refine ⟨fun hc => JoinW.of ?_, fun hc => by omega⟩
  have hc := of_decide_eq_true hc
  rw [w64 (n := 71 + i) (by omega) (by omega), w64 (n := i + 1) (by omega) (by omega)]
  refine hA.at (by omega) (hM.at (by decide) (by decide) ?_)
  have hr3 := modF_range (a := atF raw (71 + i)) (n := 4) (by decide) (by decide)
  generalize modF (atF raw (71 + i)) 4 = k at hr3
  have hk : k = 0 ∨ k = 1 ∨ k = 2 ∨ k = 3 := by omega
  have hlen : (List.getD ([([97] : List UInt8), ([98] : List UInt8), ([120] : List UInt8), ([43] : List UInt8)] : List (List UInt8)) k.toNat []).length = 1 := by
   rcases hk with rfl | rfl | rfl | rfl <;> rfl
  refine ⟨⟨hr3.1, by simp; omega⟩, by simp; omega, by omega, ⟨by omega, by omega, ?_⟩, by omega⟩
  rw [List.length_append, hlen]; omega
 refine (hW l hK (by omega)).to ?_
 rintro (d3 : Int × Int) _ hd3
 have hd3 := hd3.1 v
 subst hd3
 dsimp only
 refine (hB l hK (by omega)).to ?_
 rintro (d19 : Auto × Int) _ ⟨_, hd⟩
 obtain ⟨e0, hb⟩ := (hd v).2 (by omega)
 rw [e0]
 have hblen := hb.len
 refine JoinW.mid (fun d => d = 0) ⟨fun _ => (hR d19.1).to fun (d : Int) _ hd => hd.1 hb.valid, fun hc => by simp at hc, trivial⟩ ?_
 rintro d rfl
 rw [w64 (n := _ + 1) (by omega) (by omega)]
 have hle : decide (((List.length d19.1.1 : Nat) : Int) ≤ (wts l).getD (l.length - 1) 0 + 1) = true := decide_eq_true hblen
 rw [hle]
 refine JoinW.mid (fun d => d = true) ⟨fun _ => (hAc (l, (d19.1, s)) v hK (by dsimp only; omega) hb.valid hb.lang).to fun (d : Bool) _ hd => hd, fun hc => by simp at hc, trivial⟩ ?_
 rintro d rfl
 refine JoinW.mid (fun d => d = true) ⟨fun _ => Fn.to hAw fun (d : Bool) _ hd => hd, fun hc => by simp at hc, trivial⟩ ?_
 rintro d rfl
 rfl
end Go.VS
