/- A sequence of sets of bytes, read from either end. -/
import Derived.Test.YtobddjdmgebmgaaKSpLaw06
import Derived.Test.YtobddjdmgebmgaaKSpPairs
set_option linter.unusedVariables false
set_option linter.unusedSimpArgs false
set_option linter.unusedSectionVars false
namespace Go.VS
variable {P : Program}

def cntL (n : Nat) : List Int := (List.range n).map fun (i : Nat) => (i : Int)
theorem cntL_succ (n : Nat) : cntL (n + 1) = cntL n ++ [(n : Int)] := by unfold cntL; rw [List.range_succ, List.map_append]; rfl
theorem cntL_length (n : Nat) : (cntL n).length = n := by simp [cntL]
theorem cntL_get {n k : Nat} (h : k < n) : (cntL n).getD k 0 = k := by simp [cntL, List.getD_eq_getElem?_getD, List.getElem?_map, List.getElem?_range h]
def Sp_Count (P : Program) : Prop := ∀ x : Int, 0 ≤ x → x ≤ 1000000 → Fn P "mergelens/mergelensgen.Count" S_gen_Count x fun (d : List Int) _ => d = cntL x.toNat
theorem sp_Count (h : Has P F_gen_Count) : Sp_Count P := by
  intro x h0 h1
  refine fn_gen_Count h ?_
  unfold W_gen_Count
  refine JoinW.mid (fun d => d = cntL x.toNat) ?_ fun d hd => hd
  refine LoopW.of (fun d => 0 ≤ d.2 ∧ d.2 ≤ x ∧ d.1 = cntL d.2.toNat) (fun d => (x - d.2).toNat) ⟨Int.le_refl _, h0, rfl⟩ ?_
  rintro ⟨l, i⟩ ⟨i0, i1, hl⟩
  dsimp only at i0 i1 hl ⊢
  subst hl
  have hlen := cntL_length i.toNat
  refine ⟨fun hc => JoinW.of ?_, fun hc => ?_⟩
  · have hc := of_decide_eq_true hc
    rw [w64 (by omega) (by omega)]
    refine ⟨by simp only [List.length_cons, List.length_nil]; omega, ⟨by omega, by omega, ?_⟩, by omega⟩
    rw [show (i + 1).toNat = i.toNat + 1 by omega, cntL_succ, show ((i.toNat : Nat) : Int) = i by omega]
  · have hc := of_decide_eq_false hc
    rw [show i = x by omega]

def setN (w : Set4) : Node := ((1 : Int), (w, ((0 : Int), ((0 : Int), []))))
def catN (n : Nat) : Node := ((4 : Int), (((0 : Int), ((0 : Int), ((0 : Int), (0 : Int)))), ((0 : Int), ((0 : Int), cntL n))))
def catL (ws : List Set4) : List Node := ws.map setN ++ [catN ws.length]
theorem catL_length (ws : List Set4) : (catL ws).length = ws.length + 1 := by simp [catL]
theorem catL_set {ws : List Set4} {k : Nat} (h : k < ws.length) : (catL ws).getD k zNode = setN (ws.getD k (0, 0, 0, 0)) := by
  unfold catL
  rw [getD_append_left (by simpa using h)]
  simp [List.getD_eq_getElem?_getD, List.getElem?_eq_getElem h]
theorem catL_last (ws : List Set4) : (catL ws).getD ws.length zNode = catN ws.length := by
  have := @getD_append_at _ (ws.map setN) (catN ws.length) zNode
  rwa [List.length_map] at this
theorem catL_valid {ws : List Set4} (h : 2 ≤ ws.length) (h2 : ws.length ≤ 100) : NValid (catL ws) ∧ KB (catL ws) := by
  have hlen := catL_length ws
  refine ⟨⟨by omega, by omega, fun i hi => ?_⟩, fun i => ?_⟩
  · rcases Nat.lt_or_ge i ws.length with hlt | hge
    · rw [catL_set hlt]
      refine ⟨fun j hj => by simp [setN] at hj, by simp [setN], by simp [setN], fun _ => rfl, fun h => ?_, fun h => ?_⟩ <;> simp [setN] at h
    · have : i = ws.length := by omega
      subst this
      rw [catL_last]
      refine ⟨fun j hj => ?_, by simp [catN], by simp [catN], fun h => by simp [catN] at h, fun _ => by show 2 ≤ (cntL _).length; rw [cntL_length]; exact h, fun h => by simp [catN] at h⟩
      have hj : j < (cntL ws.length).length := hj
      rw [cntL_length] at hj
      have e : (catN ws.length).2.2.2.2.getD j 0 = j := cntL_get hj
      omega
  · rcases Nat.lt_or_ge i ws.length with hlt | hge
    · rw [catL_set hlt]; simp [setN]
    · rcases Nat.lt_or_ge i (ws.length + 1) with hlt | hge2
      · have : i = ws.length := by omega
        subst this
        rw [catL_last]
        show (cntL _).length ≤ _
        rw [cntL_length]; omega
      · rw [List.getD_eq_getElem?_getD, List.getElem?_eq_none (by omega)]; decide
theorem catL_wt {ws : List Set4} (h : 2 ≤ ws.length) (h2 : ws.length ≤ 100) : (wts (catL ws)).getD ((catL ws).length - 1) 0 ≤ 4000 := by
  obtain ⟨v, _⟩ := catL_valid h h2
  rw [catL_length, show ws.length + 1 - 1 = ws.length by omega, wts_at v (by rw [catL_length]; omega), catL_last]
  have hw := v.inW
  show sumW (wts (catL ws)) (cntL ws.length) ≤ 4000
  have key : ∀ n, n ≤ ws.length → sumW (wts (catL ws)) (cntL n) ≤ n := by
    intro n hn
    induction n with
    | zero => exact Int.le_refl _
    | succ n ih =>
      have := ih (by omega)
      rw [cntL_succ, sumW_snoc]
      have e : (wts (catL ws)).getD ((n : Int)).toNat 0 = 1 := by
        rw [show ((n : Int)).toNat = n by omega, wts_at v (by rw [catL_length]; omega), catL_set (by omega)]
        rfl
      rw [e]
      unfold capW
      split <;> omega
  have := key ws.length (Nat.le_refl _)
  omega
theorem seq_sets {R : Nat → RelT} {f : Nat → Set4} {n : Nat} (h : ∀ k, k < n → R k = setR (f k)) {s : List UInt8} {i j : Nat} : seqL R (cntL n) s i j ↔ j = i + n ∧ ∀ k, k < n → i + k < s.length ∧ hasF (f k) ((s.getD (i + k) 0).toNat : Int) = true := by
  induction n generalizing j with
  | zero => exact ⟨fun h => ⟨h.symm, fun k hk => by omega⟩, fun h => h.1.symm⟩
  | succ n ih =>
    rw [cntL_succ, seqL_snoc]
    have e : R ((n : Int)).toNat = setR (f n) := by rw [show ((n : Int)).toNat = n by omega]; exact h n (by omega)
    rw [e]
    constructor
    · rintro ⟨m, h1, h2, h3, rfl⟩
      obtain ⟨rfl, h4⟩ := (ih fun k hk => h k (by omega)).1 h1
      refine ⟨by omega, fun k hk => ?_⟩
      by_cases e : k = n
      · subst e; exact ⟨h2, h3⟩
      · exact h4 k (by omega)
    · rintro ⟨rfl, h4⟩
      refine ⟨i + n, (ih fun k hk => h k (by omega)).2 ⟨rfl, fun k hk => h4 k (by omega)⟩, (h4 n (by omega)).1, (h4 n (by omega)).2, by omega⟩
theorem catL_lang {ws : List Set4} (h : 2 ≤ ws.length) (h2 : ws.length ≤ 100) {s : List UInt8} (hs : s.length = ws.length) : Lang (catL ws) ((catL ws).length - 1) s 0 s.length ↔ ∀ k, k < ws.length → hasF (ws.getD k (0, 0, 0, 0)) ((s.getD k 0).toNat : Int) = true := by
  obtain ⟨v, _⟩ := catL_valid h h2
  rw [catL_length, show ws.length + 1 - 1 = ws.length by omega, lang_at v (by rw [catL_length]; omega), catL_last]
  show seqL (Lang (catL ws)) (cntL ws.length) s 0 s.length ↔ _
  rw [seq_sets (f := fun k => ws.getD k (0, 0, 0, 0)) fun k hk => by rw [lang_at v (by rw [catL_length]; omega), catL_set hk]; rfl]
  constructor
  · rintro ⟨_, h⟩ k hk; have := (h k hk).2; simpa using this
  · intro h; exact ⟨by omega, fun k hk => ⟨by omega, by simpa using h k hk⟩⟩
theorem getD_rev {α : Type} {l : List α} {k : Nat} {d : α} (h : k < l.length) : l.reverse.getD k d = l.getD (l.length - 1 - k) d := by
  rw [getD_eq (by simpa using h), getD_eq (by omega), List.getElem_reverse]
theorem rev_iff {ws : List Set4} {s : List UInt8} (hs : s.length = ws.length) : (∀ k, k < ws.length → hasF (ws.getD k (0, 0, 0, 0)) ((s.getD k 0).toNat : Int) = true) ↔ ∀ k, k < ws.reverse.length → hasF (ws.reverse.getD k (0, 0, 0, 0)) ((s.reverse.getD k 0).toNat : Int) = true := by
  rw [List.length_reverse]
  constructor
  · intro h k hk
    rw [getD_rev hk, getD_rev (by omega), hs]
    exact h _ (by omega)
  · intro h k hk
    have := h (ws.length - 1 - k) (by omega)
    rw [getD_rev (by omega), getD_rev (by omega), hs, show ws.length - 1 - (ws.length - 1 - k) = k by omega] at this
    exact this

theorem sp_SearchReversed (h : Has P F_law06_SearchReversed) (hA : Sp_At P) (hM : Sp_Mod P) (hP : Sp_Put P) (hC : Sp_Count P) (hB : Sp_Build P) (hW : Sp_Whole P) (hAw : Sp_awake06 P) (x : List Int × Int) :
    Fn P "mergelens/mergelenslaw06.SearchReversed" S_law06_SearchReversed x fun (d : Bool) _ => d = true := by
  obtain ⟨raw, n⟩ := x
  refine fn_law06_SearchReversed h ?_
  unfold W_law06_SearchReversed
  dsimp only
  have aw : Fn P "mergelens/mergelenslaw06.awake" S_law06_awake () fun (d : Bool) _ => d = true := hAw
  refine hM.at (by decide) (by decide) ?_
  have hr := modF_range (a := n) (n := 6) (by decide) (by decide)
  generalize modF n 6 = N at hr ⊢
  refine JoinW.mid (fun d => ∃ ws : List Set4, (ws.length : Int) = N ∧ d = (ws.map setN, ws.reverse.map setN)) ?_ ?_
  · refine LoopW.of (fun d => 0 ≤ d.2.2 ∧ d.2.2 ≤ N ∧ ∃ ws : List Set4, (ws.length : Int) = d.2.2 ∧ d.1 = ws.map setN ∧ d.2.1 = ws.reverse.map setN) (fun d => (N - d.2.2).toNat) ⟨Int.le_refl _, hr.1, [], rfl, rfl, rfl⟩ ?_
    rintro ⟨l, m, i⟩ ⟨i0, i1, ws, hws, rfl, rfl⟩
    dsimp only at i0 i1 hws ⊢
    refine ⟨fun hc => JoinW.of ?_, fun hc => ?_⟩
    · have hc := of_decide_eq_true hc
      rw [w64 (by omega) (by omega)]
      refine JoinW.mid (fun _ => True) ?_ ?_
      · have tail : Fn P "mergelens/mergelensgen.Mod" S_gen_Mod (atF raw i, (2 : Int)) (fun (d13 : Int) (e14 : Unit) => (Fn P "mergelens/mergelensref04.Put" S_ref04_Put (((0 : Int), ((0 : Int), ((0 : Int), (0 : Int)))), (IntKind.u8.wrap ((97 : Int) + (IntKind.u8.wrap d13)))) (fun (d15 : (Int × (Int × (Int × Int)))) (e16 : Unit) => (Fn P "mergelens/mergelensref04.Put" S_ref04_Put ((d15.1, (d15.2.1, (d15.2.2.1, d15.2.2.2))), (120 : Int)) (fun (d17 : (Int × (Int × (Int × Int)))) (e18 : Unit) => True ∧ True)) ∧ (True))) ∧ (True)) := by
          have hr2 := modF_range (a := atF raw i) (n := 2) (by decide) (by decide)
          refine hM.at (by decide) (by decide) ⟨?_, trivial⟩
          generalize modF (atF raw i) 2 = m at hr2
          have ew : IntKind.u8.wrap (97 + IntKind.u8.wrap m) = 97 + m := by
            rw [wu8 (n := m) (by omega) (by omega), wu8 (by omega) (by omega)]
          rw [ew]
          have h1 : 0 ≤ 97 + m := by omega
          have h2 : 97 + m ≤ 255 := by omega
          refine hP.at h1 h2 fun d hd => ⟨?_, trivial⟩
          exact hP.at (by decide) (by decide) fun d hd => ⟨trivial, trivial⟩
        exact ⟨⟨hA.at i0 ⟨tail, trivial⟩, trivial⟩, hA.at i0 ⟨⟨tail, trivial⟩, ⟨tail, trivial⟩⟩, trivial⟩
      · rintro ⟨w0, w1, w2, w3⟩ _
        refine ⟨by simp; omega, by simp; omega, ⟨by omega, by omega, ws ++ [(w0, w1, w2, w3)], by simp; omega, by simp [setN], by simp [setN]⟩, by omega⟩
    · have hc := of_decide_eq_false hc
      exact ⟨ws, by omega, rfl⟩
  · rintro _ ⟨ws, hws, rfl⟩
    dsimp only
    refine ⟨fun _ => aw.to fun (d : Bool) _ hd => hd, fun hc => ?_⟩
    have hc := of_decide_eq_false hc
    refine (hC N hr.1 (by omega)).to ?_
    rintro (d35 : List Int) _ rfl
    refine ⟨by simp; omega, (hC N hr.1 (by omega)).to ?_⟩
    rintro (d37 : List Int) _ rfl
    refine ⟨by simp; omega, ?_⟩
    refine JoinW.mid (fun d => ∃ cs : List UInt8, (cs.length : Int) = N ∧ d = (cs, cs.reverse)) ?_ ?_
    · refine LoopW.of (fun d => 0 ≤ d.2.2 ∧ d.2.2 ≤ N ∧ ∃ cs : List UInt8, (cs.length : Int) = d.2.2 ∧ d.1 = cs ∧ d.2.1 = cs.reverse) (fun d => (N - d.2.2).toNat) ⟨Int.le_refl _, hr.1, [], rfl, rfl, rfl⟩ ?_
      rintro ⟨l, m, i⟩ ⟨i0, i1, cs, hcs, hl1, hl2⟩
      dsimp only at i0 i1 hcs hl1 hl2 ⊢
      subst hl1
      subst hl2
      refine ⟨fun hc => JoinW.of ?_, fun hc => ?_⟩
      · have hc := of_decide_eq_true hc
        rw [w64 (n := 20 + i) (by omega) (by omega), w64 (n := i + 1) (by omega) (by omega)]
        refine hA.at (by omega) (hM.at (by decide) (by decide) ?_)
        have hr3 := modF_range (a := atF raw (20 + i)) (n := 3) (by decide) (by decide)
        generalize modF (atF raw (20 + i)) 3 = k at hr3
        have hk : k = 0 ∨ k = 1 ∨ k = 2 := by omega
        obtain ⟨c, hcc⟩ : ∃ c, List.getD ([([97] : List UInt8), ([98] : List UInt8), ([120] : List UInt8)] : List (List UInt8)) k.toNat [] = [c] := by
          rcases hk with rfl | rfl | rfl <;> exact ⟨_, rfl⟩
        rw [hcc]
        refine ⟨⟨hr3.1, by simp; omega⟩, by simp; omega, by simp; omega, by simp; omega, ⟨by omega, by omega, l ++ [c], by simp; omega, rfl, by simp⟩, by omega⟩
      · have hc := of_decide_eq_false hc
        exact ⟨l, by omega, rfl⟩
    · rintro _ ⟨cs, hcs, rfl⟩
      dsimp only
      have hwl : N.toNat = ws.length := by omega
      have e1 : ws.map setN ++ [((4 : Int), (((0 : Int), ((0 : Int), ((0 : Int), (0 : Int)))), ((0 : Int), ((0 : Int), cntL N.toNat))))] = catL ws := by rw [hwl]; rfl
      have e2 : ws.reverse.map setN ++ [((4 : Int), (((0 : Int), ((0 : Int), ((0 : Int), (0 : Int)))), ((0 : Int), ((0 : Int), cntL N.toNat))))] = catL ws.reverse := by rw [hwl, ← List.length_reverse]; rfl
      have v1 := catL_valid (ws := ws) (by omega) (by omega)
      have v2 := catL_valid (ws := ws.reverse) (by simp; omega) (by simp; omega)
      have w1 := catL_wt (ws := ws) (by omega) (by omega)
      have w2 := catL_wt (ws := ws.reverse) (by simp; omega) (by simp; omega)
      have l1 := catL_length ws
      have l2 := catL_length ws.reverse
      rw [List.length_reverse] at l2
      show Fn P "mergelens/automaton.Build" S_automaton_Build (ws.map setN ++ [((4 : Int), (((0 : Int), ((0 : Int), ((0 : Int), (0 : Int)))), ((0 : Int), ((0 : Int), cntL N.toNat))))]) _
      rw [e1]
      refine (hB (catL ws) v1.2 (by omega)).to ?_
      rintro (d49 : Auto × Int) _ ⟨_, hd49⟩
      obtain ⟨z1, b1⟩ := (hd49 v1.1).2 w1
      show Fn P "mergelens/automaton.Build" S_automaton_Build (ws.reverse.map setN ++ [((4 : Int), (((0 : Int), ((0 : Int), ((0 : Int), (0 : Int)))), ((0 : Int), ((0 : Int), cntL N.toNat))))]) _
      rw [e2]
      refine (hB (catL ws.reverse) v2.2 (by omega)).to ?_
      rintro (d51 : Auto × Int) _ ⟨_, hd51⟩
      obtain ⟨z2, b2⟩ := (hd51 v2.1).2 w2
      refine (hW (d49.1, cs) (by dsimp only; omega)).to ?_
      rintro (d53 : Bool × Int) _ ⟨_, h53⟩
      obtain ⟨z3, h53⟩ := h53 b1.valid
      refine (hW (d51.1, cs.reverse) (by simp; omega)).to ?_
      rintro (d55 : Bool × Int) _ ⟨_, h55⟩
      obtain ⟨z4, h55⟩ := h55 b2.valid
      dsimp only at h53 h55 z3 z4 ⊢
      have e : d53.1 = d55.1 := by
        have := h53.trans ((b1.lang _ _ _).trans ((catL_lang (by omega) (by omega) (by omega)).trans ((rev_iff (by omega)).trans ((catL_lang (ws := ws.reverse) (s := cs.reverse) (by simp; omega) (by simp; omega) (by simp; omega)).symm.trans ((b2.lang _ _ _).symm.trans h55.symm)))))
        cases hx : d53.1 <;> cases hy : d55.1 <;> rw [hx, hy] at this <;> simp at this ⊢
      rw [z1, z2, z3, z4, e]
      refine JoinW.mid (fun b => b = true) ⟨fun _ => aw.to fun (d : Bool) _ hd => hd, fun hc => by simp at hc, trivial⟩ ?_
      rintro b rfl
      simp
end Go.VS
