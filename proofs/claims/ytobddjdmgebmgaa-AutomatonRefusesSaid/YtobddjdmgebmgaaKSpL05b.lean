/- Lists of nodes in which a node may be the kid of several ones; what Build refuses. -/
import Derived.Test.YtobddjdmgebmgaaKSpAwk05
set_option linter.unusedVariables false
set_option linter.unusedSimpArgs false
set_option linter.unusedSectionVars false
namespace Go.VS
variable {P : Program}

def smallN (n : Node) : Prop := n.2.2.2.2.length ≤ 2 ∧ (n.1 = 6 → n.2.2.1 ≤ 2 ∧ n.2.2.2.1 ≤ n.2.2.1 + 2)
theorem ok_leaf {k : Int} {w : Set4} {a b : Int} {i : Nat} (h0 : 0 ≤ k) (h3 : k ≤ 3) : okNode (k, (w, (a, (b, [])))) i ∧ smallN (k, (w, (a, (b, [])))) := by
  refine ⟨⟨fun j hj => by simp at hj, h0, by dsimp only; omega, fun _ => rfl, fun h => ?_, fun h => ?_⟩, by simp, fun h => ?_⟩
  · dsimp only at h; omega
  · dsimp only at h; omega
  · dsimp only at h; omega
theorem ok_rep100 {w : Set4} {a b k : Int} {i : Nat} (k0 : 0 ≤ k) (k1 : k < (i : Int)) (a0 : 0 ≤ a) (a1 : a ≤ 100) (hb : b = -1 ∨ a ≤ b ∧ b ≤ 100) : okNode ((6 : Int), (w, (a, (b, [k])))) i := by
  refine ⟨fun j hj => ?_, by dsimp only; omega, by dsimp only; omega, fun h => by dsimp only at h; omega, fun h => by dsimp only at h; omega, fun _ => ⟨rfl, a0, a1, hb⟩⟩
  have : j = 0 := by simp at hj; omega
  subst this
  exact ⟨k0, k1⟩
def mList (v : Int) : List Node := [((1 : Int), (((0 : Int), ((0 : Int), ((0 : Int), (0 : Int)))), ((0 : Int), ((0 : Int), [])))), ((6 : Int), (((0 : Int), ((0 : Int), ((0 : Int), (0 : Int)))), ((100 : Int), ((100 : Int), ([(0 : Int)] : List Int))))), ((6 : Int), (((0 : Int), ((0 : Int), ((0 : Int), (0 : Int)))), (v, (v, ([(1 : Int)] : List Int)))))]
theorem mList_ok {v : Int} (h1 : 0 ≤ v) (h2 : v ≤ 100) : NValid (mList v) := by
  refine ⟨by simp [mList], by simp [mList], fun i hi => ?_⟩
  have hi : i < 3 := hi
  have : i = 0 ∨ i = 1 ∨ i = 2 := by omega
  rcases this with rfl | rfl | rfl
  · exact (ok_leaf (by decide) (by decide)).1
  · exact ok_rep100 (a := 100) (b := 100) (k := 0) (by decide) (by decide) (by decide) (by decide) (.inr ⟨by decide, by decide⟩)
  · exact ok_rep100 (k := 1) (by decide) (by decide) h1 h2 (.inr ⟨Int.le_refl _, h2⟩)
theorem sp_AutomatonRefuses (h : Has P F_law05_AutomatonRefuses) (hC : Sp_NCheck P) (hW : Sp_RWeight P) (hM : Sp_Mod P) (hB : Sp_Build P) (hAw : Sp_awake05 P) (x : List Node × Int) :
    Fn P "mergelens/mergelenslaw05.AutomatonRefuses" S_law05_AutomatonRefuses x fun (d : Bool) _ => d = true := by
  obtain ⟨l, n⟩ := x
  refine fn_law05_AutomatonRefuses h ?_
  unfold W_law05_AutomatonRefuses
  dsimp only
  have aw : Fn P "mergelens/mergelenslaw05.awake" S_law05_awake () fun (d : Bool) _ => d = true := hAw
  refine ⟨fun _ => aw.to fun (d : Bool) _ hd => hd, fun hc => ?_⟩
  have hc := of_decide_eq_false hc
  refine JoinW.mid (fun _ => ∀ i, i < l.length → (l.getD i zNode).2.2.2.2.length ≤ 4) ?_ fun _ hk => ?_
  · refine LoopW.of (fun d => 0 ≤ d.2 ∧ d.2 ≤ l.length ∧ ∀ i : Nat, (i : Int) < d.2 → (l.getD i zNode).2.2.2.2.length ≤ 4) (fun d => (l.length - d.2).toNat) ⟨Int.le_refl _, by dsimp only; omega, fun i hi => by dsimp only at hi; omega⟩ ?_
    rintro ⟨u, i⟩ ⟨i0, i1, hi⟩
    dsimp only at i0 i1 hi ⊢
    refine ⟨fun hb => JoinW.of ?_, fun hb => ?_⟩
    · have hb := of_decide_eq_true hb
      rw [w64 (by omega) (by omega)]
      refine ⟨⟨i0, hb⟩, by omega, fun _ => aw.to fun (d : Bool) _ hd => hd, fun h4 => ⟨⟨by omega, by omega, fun j hj => ?_⟩, by omega⟩⟩
      have h4 := of_decide_eq_false h4
      by_cases e : j = i.toNat
      · subst e; omega
      · exact hi j (by omega)
    · have hb := of_decide_eq_false hb
      exact fun j hj => hi j (by omega)
  · have hK : KB l := fun i => by
      rcases Nat.lt_or_ge i l.length with hi | hi
      · have := hk i hi; omega
      · rw [List.getD_eq_getElem?_getD, List.getElem?_eq_none hi]; decide
    refine (hC l hK (by omega)).to ?_
    rintro (d11 : Int) _ ⟨hd1, hd2⟩
    refine ⟨fun hne => ?_, fun _ => ?_⟩
    · have nv : ¬ NValid l := fun v => by rw [hd1 v] at hne; simp at hne
      refine (hB l hK (by omega)).to ?_
      rintro (d13 : Auto × Int) _ ⟨hd, _⟩
      have hd := hd nv
      subst hd
      refine JoinW.mid (fun d => d = true) ⟨fun _ => aw.to fun (d : Bool) _ hd => hd, fun hc => absurd hc (by decide), trivial⟩ ?_
      rintro d rfl
      rfl
    · refine hM.at (by decide) (by decide) ?_
      have hr := modF_range (a := n) (n := 3) (by decide) (by decide)
      generalize modF n 3 = m at hr
      have v : NValid (mList (IntKind.i64.wrap (39 + m))) := by
        rw [w64 (by omega) (by omega)]; exact mList_ok (by omega) (by omega)
      have hK2 : KB (mList (IntKind.i64.wrap (39 + m))) := kb_of (by intro n hn; simp [mList] at hn; rcases hn with rfl | rfl | rfl <;> simp)
      refine ⟨⟨by decide, by simp⟩, by simp, ⟨by decide, by simp⟩, by simp, ?_⟩
      refine Fn.to (hW (mList (IntKind.i64.wrap (39 + m))) hK2 (by simp [mList])) ?_
      rintro (d20 : Int × Int) _ ⟨hd20, _⟩
      have hd20 := hd20 v
      subst hd20
      dsimp only
      refine JoinW.mid (fun d => d = if (wts (mList (IntKind.i64.wrap (39 + m)))).getD ((mList (IntKind.i64.wrap (39 + m))).length - 1) 0 > 4000 then 1 else 0) ⟨fun hg => ?_, fun hg => ?_⟩ ?_
      · rw [if_pos (of_decide_eq_true hg)]
      · rw [if_neg (of_decide_eq_false hg)]
      · rintro d hd
        refine Fn.to (hB (mList (IntKind.i64.wrap (39 + m))) hK2 (by simp [mList])) ?_
        rintro (d24 : Auto × Int) _ ⟨_, hd24⟩
        obtain ⟨hg1, hg2⟩ := hd24 v
        have he : d24.2 = d := by
          rw [hd]
          split
          · rename_i hg; rw [hg1 hg]
          · rename_i hg; exact (hg2 (by omega)).1
        rw [he]
        refine JoinW.mid (fun b => b = true) ⟨fun _ => aw.to fun (d : Bool) _ hd => hd, fun hc => by simp at hc, trivial⟩ ?_
        rintro b rfl
        simp
end Go.VS
