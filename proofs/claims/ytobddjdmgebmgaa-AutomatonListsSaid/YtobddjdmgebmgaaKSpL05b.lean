/- Lists of nodes in which a node may be the kid of several ones; what Build refuses. -/
import Derived.Test.YtobddjdmgebmgaaKSpAwk05
set_option linter.unusedVariables false
set_option linter.unusedSimpArgs false
set_option linter.unusedSectionVars false
namespace Go.VS
variable {P : Program}

def smallN (n : Node) : Prop := n.2.2.2.2.length ≤ 2 ∧ (n.1 = 6 → n.2.2.1 ≤ 2 ∧ n.2.2.2.1 ≤ n.2.2.1 + 2)
def Sp_nodes (P : Program) : Prop := ∀ x : List Int × Int, Fn P "mergelens/mergelenslaw05.nodes" S_law05_nodes x fun (d : List Node) _ => 1 ≤ d.length ∧ d.length ≤ 6 ∧ ∀ i, i < d.length → okNode (d.getD i zNode) i ∧ smallN (d.getD i zNode)
theorem ok_leaf {k : Int} {w : Set4} {a b : Int} {i : Nat} (h0 : 0 ≤ k) (h3 : k ≤ 3) : okNode (k, (w, (a, (b, [])))) i ∧ smallN (k, (w, (a, (b, [])))) := by
  refine ⟨⟨fun j hj => by simp at hj, h0, by dsimp only; omega, fun _ => rfl, fun h => ?_, fun h => ?_⟩, by simp, fun h => ?_⟩
  · dsimp only at h; omega
  · dsimp only at h; omega
  · dsimp only at h; omega
theorem ok_rep100 {w : Set4} {a b k : Int} {i : Nat} (k0 : 0 ≤ k) (k1 : k < (i : Int)) (a0 : 0 ≤ a) (a1 : a ≤ 100) (hb : b = -1 ∨ a ≤ b ∧ b ≤ 100) : okNode ((6 : Int), (w, (a, (b, [k])))) i := by
  refine ⟨fun j hj => ?_, by dsimp only; omega, by dsimp only; omega, fun h => by dsimp only at h; omega, fun h => by dsimp only at h; omega, fun _ => ⟨rfl, a0, a1, hb⟩⟩
  have : j = 0 := by simp at hj; omega
  subst this
  exact ⟨k0, k1⟩
theorem ok_rep {w : Set4} {a b k : Int} {i : Nat} (k0 : 0 ≤ k) (k1 : k < (i : Int)) (a0 : 0 ≤ a) (a1 : a ≤ 2) (hb : b = -1 ∨ a ≤ b ∧ b ≤ a + 2) : okNode ((6 : Int), (w, (a, (b, [k])))) i ∧ smallN ((6 : Int), (w, (a, (b, [k])))) :=
  ⟨ok_rep100 k0 k1 a0 (by omega) (by omega), by simp, fun _ => ⟨a1, by dsimp only; omega⟩⟩
theorem ok_two {kd : Int} {w : Set4} {a b k q : Int} {i : Nat} (hk : kd = 4 ∨ kd = 5) (k0 : 0 ≤ k) (k1 : k < (i : Int)) (q0 : 0 ≤ q) (q1 : q < (i : Int)) : okNode (kd, (w, (a, (b, [k, q])))) i ∧ smallN (kd, (w, (a, (b, [k, q])))) := by
  refine ⟨⟨fun j hj => ?_, by dsimp only; omega, by dsimp only; omega, fun h => by dsimp only at h; omega, fun h => by simp, fun h => by dsimp only at h; omega⟩, by simp, fun h => by dsimp only at h; omega⟩
  have : j = 0 ∨ j = 1 := by simp at hj; omega
  rcases this with rfl | rfl
  · exact ⟨k0, k1⟩
  · exact ⟨q0, q1⟩
theorem sp_nodes (h : Has P F_law05_nodes) (hA : Sp_At P) (hM : Sp_Mod P) (hP : Sp_Put P) : Sp_nodes P := by
  rintro ⟨raw, n⟩
  refine fn_law05_nodes h ?_
  unfold W_law05_nodes
  dsimp only
  have hr := modF_range (a := n) (n := 6) (by decide) (by decide)
  refine JoinW.mid (fun d => 1 ≤ d.length ∧ d.length ≤ 6 ∧ ∀ i, i < d.length → okNode (d.getD i zNode) i ∧ smallN (d.getD i zNode)) ?_ fun d hd => hd
  refine LoopW.of (fun d => 0 ≤ d.2 ∧ d.2 ≤ modF n 6 + 1 ∧ (d.1.length : Int) = d.2 ∧ ∀ i, i < d.1.length → okNode (d.1.getD i zNode) i ∧ smallN (d.1.getD i zNode)) (fun d => (7 - d.2).toNat) ⟨Int.le_refl _, by dsimp only; omega, rfl, fun i hi => by simp at hi⟩ ?_
  rintro ⟨l, i⟩ ⟨i0, i1, hl, hok⟩
  dsimp only at i0 i1 hl hok ⊢
  refine hM.at (by decide) (by decide) ⟨fun hc => JoinW.of ?_, fun hc => ?_⟩
  · have hc := of_decide_eq_true hc
    have e1 : IntKind.i64.wrap (10 * i) = 10 * i := w64 (by omega) (by omega)
    have e2 : IntKind.i64.wrap (10 * i + 1) = 10 * i + 1 := w64 (by omega) (by omega)
    have e3 : IntKind.i64.wrap (10 * i + 2) = 10 * i + 2 := w64 (by omega) (by omega)
    have e4 : IntKind.i64.wrap (i + 1) = i + 1 := w64 (by omega) (by omega)
    simp only [e1, e2, e3, e4]
    refine hA.at (by omega) (hM.at (by decide) (by decide) (hA.at (by omega) (hA.at (by omega) ?_)))
    have hk := modF_range (a := atF raw (10 * i)) (n := 7) (by decide) (by decide)
    generalize modF (atF raw (10 * i)) 7 = k at hk ⊢
    generalize atF raw (10 * i + 1) = a
    generalize atF raw (10 * i + 2) = b
    refine JoinW.mid (fun d => okNode d i.toNat ∧ smallN d) (JoinW.of ⟨fun hb => ?_, fun hb => JoinW.of ⟨fun h6 => ?_, fun h6 => ?_⟩⟩) ?_
    · have hm := modF_range (a := k) (n := 4) (by decide) (by decide)
      refine hM.at (by decide) (by decide) ?_
      have put : ∀ (J : Node → Prop), (∀ s : Set4, J (modF k 4, (s, ((0 : Int), ((0 : Int), []))))) → Fn P "mergelens/mergelensgen.Mod" S_gen_Mod (a, (2 : Int)) (fun (d27 : Int) (e28 : Unit) => (Fn P "mergelens/mergelensref04.Put" S_ref04_Put (((0 : Int), ((0 : Int), ((0 : Int), (0 : Int)))), (IntKind.u8.wrap ((97 : Int) + (IntKind.u8.wrap d27)))) (fun (d29 : (Int × (Int × (Int × Int)))) (e30 : Unit) => (Fn P "mergelens/mergelensref04.Put" S_ref04_Put ((d29.1, (d29.2.1, (d29.2.2.1, d29.2.2.2))), (120 : Int)) (fun (d31 : (Int × (Int × (Int × Int)))) (e32 : Unit) => (J (modF k 4, ((d31.1, (d31.2.1, (d31.2.2.1, d31.2.2.2))), ((0 : Int), ((0 : Int), []))))) ∧ (True))) ∧ (True))) ∧ (True)) := by
        intro J hJ
        have hr2 := modF_range (a := a) (n := 2) (by decide) (by decide)
        refine hM.at (by decide) (by decide) ⟨?_, trivial⟩
        generalize modF a 2 = m at hr2
        have ew : IntKind.u8.wrap (97 + IntKind.u8.wrap m) = 97 + m := by
          rw [wu8 (n := m) (by omega) (by omega), wu8 (by omega) (by omega)]
        rw [ew]
        have h1 : 0 ≤ 97 + m := by omega
        have h2 : 97 + m ≤ 255 := by omega
        refine hP.at h1 h2 fun d hd => ⟨?_, trivial⟩
        exact hP.at (by decide) (by decide) fun d hd => ⟨hJ _, trivial⟩
      refine JoinW.of ⟨fun h1 => JoinW.of ⟨⟨put (fun n => okNode n i.toNat ∧ smallN n) fun s => ok_leaf hm.1 (by omega), trivial⟩, put (fun n => okNode n i.toNat ∧ smallN n) fun s => ok_leaf hm.1 (by omega), trivial⟩, fun h1 => ok_leaf hm.1 (by omega)⟩
    · have h6 : k = 6 := by simpa using h6
      subst h6
      have hi1 : 1 ≤ i := by
        rcases Int.lt_or_le 0 i with h | h
        · exact h
        · have : i = 0 := by omega
          subst this; simp at hb
      have ha := modF_range (a := a) (n := i) hi1 (by omega)
      have hbb := modF_range (a := b) (n := 3) (by decide) (by decide)
      refine hM.at hi1 (by omega) (hM.at (by decide) (by decide) ⟨by decide, JoinW.of ⟨fun h2 => ?_, fun h2 => ?_⟩⟩)
      · have hcc := modF_range (a := IntKind.i64.wrap (Int.tdiv b 8)) (n := 3) (by decide) (by decide)
        have fin : okNode ((6 : Int), (((0 : Int), ((0 : Int), ((0 : Int), (0 : Int)))), (modF b 3, (IntKind.i64.wrap (modF b 3 + modF (IntKind.i64.wrap (Int.tdiv b 8)) 3), [modF a i])))) i.toNat ∧ smallN ((6 : Int), (((0 : Int), ((0 : Int), ((0 : Int), (0 : Int)))), (modF b 3, (IntKind.i64.wrap (modF b 3 + modF (IntKind.i64.wrap (Int.tdiv b 8)) 3), [modF a i])))) := by
          rw [w64 (n := modF b 3 + _) (by omega) (by omega)]
          exact ok_rep ha.1 (by omega) hbb.1 (by omega) (.inr ⟨by omega, by omega⟩)
        exact JoinW.of ⟨by decide, ⟨hM.at (by decide) (by decide) ⟨fin, trivial⟩, trivial⟩, hM.at (by decide) (by decide) ⟨fin, trivial⟩, trivial⟩
      · exact ok_rep (a := modF b 3) (b := -1) ha.1 (by omega) hbb.1 (by omega) (.inl rfl)
    · have h6 : k ≠ 6 := by simpa using h6
      have hb : ¬ i = 0 ∧ ¬ k < 4 := by
        rw [Bool.cond_eq_ite] at hb
        split at hb
        · cases hb
        · rename_i h; exact ⟨fun e => h (by simp [e]), of_decide_eq_false hb⟩
      have ha := modF_range (a := a) (n := i) (by omega) (by omega)
      have hbb := modF_range (a := b) (n := i) (by omega) (by omega)
      exact hM.at (by omega) (by omega) (hM.at (by omega) (by omega) (ok_two (by omega) ha.1 (by omega) hbb.1 (by omega)))
    · rintro d ⟨hd1, hd2⟩
      refine ⟨by simp only [List.length_cons, List.length_nil]; omega, ⟨by omega, by omega, by simp; omega, fun j hj => ?_⟩, by omega⟩
      rcases Nat.lt_or_ge j l.length with hlt | hge
      · rw [getD_append_left hlt]; exact hok j hlt
      · have : j = l.length := by simp at hj; omega
        subst this
        rw [getD_append_at, show l.length = i.toNat by omega]
        exact ⟨hd1, hd2⟩
  · have hc := of_decide_eq_false hc
    exact ⟨by omega, by omega, hok⟩

/-! Small nodes have small weights. -/
def bndF : Nat → Int
  | 0 => 1
  | k + 1 => 4 * bndF k + 2
theorem bndF_pos (k : Nat) : 1 ≤ bndF k := by
  induction k with
  | zero => exact Int.le_refl _
  | succ k ih => show 1 ≤ 4 * bndF k + 2; omega
theorem bndF_mono {k m : Nat} (h : k ≤ m) : bndF k ≤ bndF m := by
  induction h with
  | refl => exact Int.le_refl _
  | step _ ih => rename_i m _; have := bndF_pos m; show bndF k ≤ 4 * bndF m + 2; omega
theorem sumW_le {w : List Int} (hw : InW w) (kids : List Int) : sumW w kids ≤ sumX w kids := by
  have : ∀ (kids : List Int) (n : Int), 0 ≤ n → kids.foldl (fun n k => capW (n + w.getD k.toNat 0)) n ≤ n + sumX w kids := by
    intro kids
    induction kids with
    | nil => intro n _; simp [sumX]
    | cons k kids ih =>
      intro n hn
      have hk := (hw k.toNat).1
      have hc := capW_range (n := n + w.getD k.toNat 0) (by omega)
      have := ih _ hc.1
      have hle : capW (n + w.getD k.toNat 0) ≤ n + w.getD k.toNat 0 := by unfold capW; split <;> omega
      simp only [List.foldl_cons, sumX]; omega
  have := this kids 0 (Int.le_refl _)
  unfold sumW; omega
theorem wt_small {l : List Node} (v : NValid l) (hs : ∀ i, i < l.length → smallN (l.getD i zNode)) {k : Nat} (h : k < l.length) : (wts l).getD k 0 ≤ bndF k := by
  induction k using Nat.strongRecOn with
  | ind k ih =>
    have hw := v.inW
    have ho := v.ok k h
    have hsm := hs k h
    rw [wts_at v h]
    have hmem : ∀ q ∈ (l.getD k zNode).2.2.2.2, 0 ≤ q ∧ q < (k : Int) := fun q hq => ho.mem hq
    generalize l.getD k zNode = n at ho hsm hmem ⊢
    obtain ⟨kd, st, mn, mx, kids⟩ := n
    have hcs := sumW_range hw kids
    have hle := sumW_le hw kids
    have hpos := bndF_pos k
    have ho2 := ho.2.2.2
    dsimp only [smallN] at hmem ho2 hsm
    have hcap : ∀ n, capW n ≤ n := fun n => by unfold capW; split <;> omega
    cases k with
    | zero =>
      have hk0 : kids = [] := by
        cases kids with
        | nil => rfl
        | cons q _ => have := hmem q (by simp); omega
      subst hk0
      have e : sumW (wts l) [] = 0 := rfl
      unfold wtNode
      dsimp only
      split
      · rw [e]; exact hpos |> fun h => by omega
      split
      · have := ho2.2.1 (.inr (by assumption)); simp at this
      split
      · have := ho2.2.2 (by assumption); simp at this
      · exact Int.le_refl _
    | succ k =>
      have hB : ∀ q ∈ kids, (wts l).getD q.toNat 0 ≤ bndF k := fun q hq => by
        have := hmem q hq
        exact Int.le_trans (ih q.toNat (by omega) (by omega)) (bndF_mono (by omega))
      have hBp := bndF_pos k
      have hsum : sumX (wts l) kids ≤ kids.length * bndF k := by
        clear hle hcs ho2 hsm ho hmem ih
        induction kids with
        | nil => simp [sumX]
        | cons q kids ihq =>
          have h1 := hB q (by simp)
          have h2 := ihq fun q hq => hB q (by simp [hq])
          simp only [sumX, List.length_cons]
          have e : ((kids.length + 1 : Nat) : Int) * bndF k = (kids.length : Int) * bndF k + bndF k := by
            rw [Int.natCast_add, Int.add_mul]; simp
          rw [e]; omega
      have h2B : (kids.length : Int) * bndF k ≤ 2 * bndF k := Int.mul_le_mul_of_nonneg_right (by omega) (by omega)
      show wtNode (kd, st, mn, mx, kids) (wts l) ≤ 4 * bndF k + 2
      unfold wtNode
      dsimp only
      split
      · omega
      split
      · have := hcap (sumW (wts l) kids + kids.length - 1); omega
      split
      · rename_i h6
        obtain ⟨o1, o2, o3, o4⟩ := ho2.2.2 h6
        obtain ⟨s1, s2, s3⟩ := hsm.1, (hsm.2 h6).1, (hsm.2 h6).2
        have hS : sumW (wts l) kids ≤ bndF k := by
          rw [o1] at hsum
          simp at hsum; omega
        generalize sumW (wts l) kids = S at hcs hS ⊢
        have hm1 : mn * S ≤ 2 * S := Int.mul_le_mul_of_nonneg_right s2 hcs.1
        split
        · have := hcap (mn * S + S + 1); omega
        · have hm2 : (mx - mn) * (S + 1) ≤ 2 * (S + 1) := Int.mul_le_mul_of_nonneg_right (by omega) (by omega)
          have := hcap (mn * S + (mx - mn) * (S + 1)); omega
      · omega

theorem lists_ok {l : List Node} (h1 : 1 ≤ l.length) (h6 : l.length ≤ 6) (h : ∀ i, i < l.length → okNode (l.getD i zNode) i ∧ smallN (l.getD i zNode)) : NValid l ∧ KB l ∧ (wts l).getD (l.length - 1) 0 ≤ 1706 := by
  have v : NValid l := ⟨h1, by omega, fun i hi => (h i hi).1⟩
  refine ⟨v, fun i => ?_, ?_⟩
  · rcases Nat.lt_or_ge i l.length with hi | hi
    · have := (h i hi).2.1; omega
    · rw [List.getD_eq_getElem?_getD, List.getElem?_eq_none hi]; decide
  · have := wt_small v (fun i hi => (h i hi).2) (show l.length - 1 < l.length by omega)
    have h5 := bndF_mono (show l.length - 1 ≤ 5 by omega)
    have e : bndF 5 = 1706 := rfl
    omega

theorem sp_AutomatonLists (h : Has P F_law05_AutomatonLists) (hN : Sp_nodes P) (hW : Sp_RWeight P) (hA : Sp_At P) (hM : Sp_Mod P) (hB : Sp_Build P) (hR : Sp_RCheck P) (hAc : Sp_accepts P) (hAw : Sp_awake05 P) (x : List Int × Int) :
    Fn P "mergelens/mergelenslaw05.AutomatonLists" S_law05_AutomatonLists x fun (d : Bool) _ => d = true := by
  obtain ⟨raw, n⟩ := x
  refine fn_law05_AutomatonLists h ?_
  unfold W_law05_AutomatonLists
  dsimp only
  refine (hN (raw, n)).to ?_
  rintro (l : List Node) _ ⟨h1, h6, hl⟩
  obtain ⟨v, hK, hw⟩ := lists_ok h1 h6 hl
  have hw0 := (v.inW (l.length - 1)).1
  refine (hW l hK (by omega)).to ?_
  rintro (d3 : Int × Int) _ hd3
  have hd3 := hd3.1 v
  subst hd3
  dsimp only
  refine JoinW.mid (fun s => s.length ≤ 7) ?_ fun s hs => ?_
  · refine LoopW.of (fun d => 0 ≤ d.2 ∧ d.2 ≤ 7 ∧ (d.1.length : Int) = d.2) (fun d => (7 - d.2).toNat) ⟨Int.le_refl _, by dsimp only; omega, rfl⟩ ?_
    rintro ⟨s, i⟩ ⟨i0, i1, hs⟩
    dsimp only at i0 i1 hs ⊢
    refine hA.at (by decide) (hM.at (by decide) (by decide) ?_)
    have hr := modF_range (a := atF raw 90) (n := 7) (by decide) (by decide)
    refine ⟨fun hc => JoinW.of ?_, fun hc => by omega⟩
    have hc := of_decide_eq_true hc
    rw [w64 (n := 91 + i) (by omega) (by omega), w64 (n := i + 1) (by omega) (by omega)]
    refine hA.at (by omega) (hM.at (by decide) (by decide) ?_)
    have hr3 := modF_range (a := atF raw (91 + i)) (n := 3) (by decide) (by decide)
    generalize modF (atF raw (91 + i)) 3 = k at hr3
    have hk : k = 0 ∨ k = 1 ∨ k = 2 := by omega
    have hlen : (List.getD ([([97] : List UInt8), ([98] : List UInt8), ([120] : List UInt8)] : List (List UInt8)) k.toNat []).length = 1 := by
      rcases hk with rfl | rfl | rfl <;> rfl
    refine ⟨⟨hr3.1, by simp; omega⟩, by simp; omega, by omega, ⟨by omega, by omega, ?_⟩, by omega⟩
    rw [List.length_append, hlen]; omega
  · refine (hB l hK (by omega)).to ?_
    rintro (d19 : Auto × Int) _ ⟨_, hd⟩
    obtain ⟨e0, hb⟩ := (hd v).2 (by omega)
    rw [e0]
    have hblen := hb.len
    refine JoinW.mid (fun d => d = 0) ⟨fun _ => (hR d19.1).to fun (d : Int) _ hd => hd.1 hb.valid, fun hc => by simp at hc, trivial⟩ ?_
    rintro d rfl
    rw [w64 (n := _ + 1) (by omega) (by omega)]
    have hle : decide (((List.length d19.1.1 : Nat) : Int) ≤ (wts l).getD (l.length - 1) 0 + 1) = true := decide_eq_true hblen
    rw [hle]
    refine JoinW.mid (fun d => d = true) ⟨fun _ => (hAc (l, (d19.1, s)) v hK (by dsimp only; omega) hb.valid hb.lang).to fun (d : Bool) _ hd => hd, fun hc => by simp at hc, trivial⟩ ?_
    rintro d rfl
    refine JoinW.mid (fun d => d = true) ⟨fun _ => Fn.to hAw fun (d : Bool) _ hd => hd, fun hc => by simp at hc, trivial⟩ ?_
    rintro d rfl
    rfl

end Go.VS
