/- Closures, both. -/
import Derived.Test.YtobddjdmgebmgaaKSpAwk05
set_option linter.unusedVariables false
set_option linter.unusedSimpArgs false
set_option linter.unusedSectionVars false
namespace Go.VS
variable {P : Program}

def ascL (out : List Bool) (k : Nat) : List Int := ((List.range k).filter fun i => out.getD i false).map fun (i : Nat) => (i : Int)
theorem ascL_succ (out : List Bool) (k : Nat) : ascL out (k + 1) = if out.getD k false = true then ascL out k ++ [(k : Int)] else ascL out k := by
  unfold ascL
  rw [List.range_succ, List.filter_append, List.map_append]
  split
  · rename_i h; rw [show (List.filter (fun i => out.getD i false) [k]) = [k] by simp [List.filter, h, -List.getD_eq_getElem?_getD]]; rfl
  · rename_i h; rw [show (List.filter (fun i => out.getD i false) [k]) = [] by simp [List.filter, h, -List.getD_eq_getElem?_getD]]; simp
theorem ascL_len (out : List Bool) (k : Nat) : (ascL out k).length ≤ k := by
  unfold ascL
  rw [List.length_map]
  exact Nat.le_trans (List.length_filter_le _ _) (by simp)
/-- What a closure is. -/
def ClosedL (a : Auto) (fr : List Int) (st en : Bool) (l : List Int) : Prop := ∃ out : List Bool, out.length = a.1.length ∧ (∀ q, q < a.1.length → (out.getD q false = true ↔ ∃ p : Nat, (p : Int) ∈ fr ∧ Rch a.1 st en p q)) ∧ l = ascL out a.1.length
theorem ClosedL.uniq {a : Auto} {fr : List Int} {st en : Bool} {l m : List Int} (h1 : ClosedL a fr st en l) (h2 : ClosedL a fr st en m) : l = m := by
  obtain ⟨o1, l1, a1, rfl⟩ := h1
  obtain ⟨o2, l2, a2, rfl⟩ := h2
  have : o1 = o2 := ext_getD false (by omega) fun i hi => by
    have := (a1 i (by omega)).trans (a2 i (by omega)).symm
    cases h : o2.getD i false
    · rw [h] at this; cases h' : o1.getD i false
      · rfl
      · exact absurd (this.1 h') (by simp)
    · exact this.2 h
  rw [this]
def CloPost (a : Auto) (fr : List Int) (st en : Bool) (d : List Int × Int) : Prop := (¬ Valid a → d = ([], 2)) ∧ (Valid a → ((∃ k ∈ fr, k < 0 ∨ (a.1.length : Int) ≤ k) → d = ([], 3)) ∧ ((∀ k ∈ fr, 0 ≤ k ∧ k < (a.1.length : Int)) → d.2 = 0 ∧ ClosedL a fr st en d.1))
theorem CloPost.uniq {a : Auto} {fr : List Int} {st en : Bool} {d e : List Int × Int} (h1 : CloPost a fr st en d) (h2 : CloPost a fr st en e) : d = e := by
  by_cases v : Valid a
  · obtain ⟨a1, a2⟩ := h1.2 v
    obtain ⟨b1, b2⟩ := h2.2 v
    by_cases hx : ∃ k ∈ fr, k < 0 ∨ (a.1.length : Int) ≤ k
    · rw [a1 hx, b1 hx]
    · have hx : ∀ k ∈ fr, 0 ≤ k ∧ k < (a.1.length : Int) := fun k hk => by
        refine ⟨?_, ?_⟩
        · rcases Int.lt_or_le k 0 with h | h
          · exact absurd ⟨k, hk, .inl h⟩ hx
          · exact h
        · rcases Int.lt_or_le k a.1.length with h | h
          · exact h
          · exact absurd ⟨k, hk, .inr h⟩ hx
      obtain ⟨a3, a4⟩ := a2 hx
      obtain ⟨b3, b4⟩ := b2 hx
      exact Prod.ext (a4.uniq b4) (a3.trans b3.symm)
  · rw [h1.1 v, h2.1 v]

/-- The loop that lists what is marked. -/
theorem ascLoop {out : List Bool} (hn : out.length ≤ 8000) {K : List Int → Prop} (hK : K (ascL out out.length)) : LoopW (D := (List Int) × Int) ([], (0 : Int)) (fun d J => (((decide (d.2 < ((List.length out : Nat) : Int))) = true → JoinW (D := (List Int)) (fun J31 => (0 ≤ d.2 ∧ d.2 < ((List.length out : Nat) : Int)) ∧
    ((Int.toNat d.2) < List.length out) ∧
    JoinW (D := (List Int)) (fun J33 => (((List.getD out (Int.toNat d.2) false) = true → ((List.length d.1 + List.length ([d.2] : List Int)) * 8 ≤ 140737488355328) ∧
    J33 (d.1 ++ ([d.2] : List Int))) ∧ ((List.getD out (Int.toNat d.2) false) = false → J33 d.1))) (fun (d34 : (List Int)) => J31 d34)) (fun (d32 : (List Int)) => J (d32, (IntKind.i64.wrap (d.2 + (1 : Int)))))) ∧ ((decide (d.2 < ((List.length out : Nat) : Int))) = false → K d.1))) := by
  refine LoopW.of (fun d => 0 ≤ d.2 ∧ d.2 ≤ out.length ∧ d.1 = ascL out d.2.toNat) (fun d => (out.length - d.2).toNat) ⟨Int.le_refl _, by dsimp only; omega, rfl⟩ ?_
  rintro ⟨l, i⟩ ⟨i0, i1, hl⟩
  dsimp only at i0 i1 hl ⊢
  subst hl
  refine ⟨fun hc => ?_, fun hc => ?_⟩
  · have hc := of_decide_eq_true hc
    refine JoinW.mid (fun d => d = ascL out (i.toNat + 1)) ⟨⟨i0, hc⟩, by omega, JoinW.of ⟨fun hb => ⟨?_, ?_⟩, fun hb => ?_⟩⟩ ?_
    · have := ascL_len out i.toNat
      simp only [List.length_cons, List.length_nil]; omega
    · rw [ascL_succ, if_pos hb, show ((i.toNat : Nat) : Int) = i by omega]
    · rw [ascL_succ, if_neg (by simp [hb, -List.getD_eq_getElem?_getD])]
    · rintro d rfl
      rw [w64 (by omega) (by omega)]
      exact ⟨⟨by omega, by omega, by rw [show (i + 1).toNat = i.toNat + 1 by omega]⟩, by omega⟩
  · have hc := of_decide_eq_false hc
    rw [show i.toNat = out.length by omega]
    exact hK

def Sp_RClosure (P : Program) : Prop := ∀ x : Auto × (List Int × (Bool × Bool)), x.2.1.length ≤ 140737488351232 → Fn P "mergelens/mergelensref05.Closure" S_ref05_Closure x fun (d : List Int × Int) _ => CloPost x.1 x.2.1 x.2.2.1 x.2.2.2 d
theorem sp_RClosure (h : Has P F_ref05_Closure) (hR : Sp_RCheck P) (hC : Sp_Close P) : Sp_RClosure P := by
  rintro ⟨⟨A, s0⟩, fr, st, en⟩ hl
  dsimp only at hl ⊢
  refine fn_ref05_Closure h ?_
  unfold W_ref05_Closure
  dsimp only
  refine (hR (A, s0)).to ?_
  rintro (c : Int) _ ⟨hc1, hc2⟩
  refine ⟨fun hc => ⟨fun nv => rfl, fun v => ?_⟩, fun hc => ?_⟩
  · rw [hc1 v] at hc; simp at hc
  have v : Valid (A, s0) := by
    apply Classical.byContradiction
    intro nv; rw [hc2 nv] at hc; simp at hc
  have hA := v.okl
  have hhi := v.hi
  dsimp only at hA hhi
  refine ⟨⟨by omega, by omega, by omega⟩, ?_⟩
  refine JoinW.mid (fun d => d.2.2.length = A.length ∧ (∀ k ∈ fr, 0 ≤ k ∧ k < (A.length : Int)) ∧ ∀ q, d.2.2.getD q false = true ↔ (q : Int) ∈ fr) ?_ ?_
  · refine LoopW.of (fun d => 0 ≤ d.2.2.2 ∧ d.2.2.2 ≤ fr.length ∧ d.2.2.1.length = A.length ∧ (∀ k ∈ fr.take d.2.2.2.toNat, 0 ≤ k ∧ k < (A.length : Int)) ∧ ∀ q, d.2.2.1.getD q false = true ↔ (q : Int) ∈ fr.take d.2.2.2.toNat) (fun d => (fr.length - d.2.2.2).toNat) ⟨Int.le_refl _, by dsimp only; omega, by simp, fun k hk => by simp at hk, fun q => ?_⟩ ?_
    · simp only [Int.toNat_zero, List.take_zero, List.not_mem_nil, iff_false]
      rw [List.getD_eq_getElem?_getD, List.getElem?_replicate]
      split <;> simp
    rintro ⟨u, u2, sn, i⟩ ⟨i0, i1, sl, hk, hq⟩
    dsimp only at i0 i1 sl hk hq ⊢
    refine ⟨fun hb => JoinW.of ?_, fun hb => ?_⟩
    · have hb := of_decide_eq_true hb
      rw [sl]
      have hmem : fr.getD i.toNat 0 ∈ fr := getD_mem (by omega)
      refine ⟨⟨i0, hb⟩, by omega, fun _ => ⟨i0, hb⟩, fun _ => by omega, fun hx => ?_, fun hx => ?_⟩
      · refine ⟨fun nv => (nv v).elim, fun _ => ⟨fun _ => rfl, fun hall => ?_⟩⟩
        have := hall _ hmem
        dsimp only at this
        simp [-List.getD_eq_getElem?_getD] at hx
        omega
      · simp [-List.getD_eq_getElem?_getD] at hx
        refine ⟨⟨i0, hb⟩, by omega, hx, by omega, ?_⟩
        rw [w64 (by omega) (by omega)]
        refine ⟨⟨by omega, by omega, by simpa using sl, ?_, fun q => ?_⟩, by omega⟩
        · rw [take_succ_getD i0 hb]
          intro k hk2
          rcases List.mem_append.1 hk2 with h | h
          · exact hk k h
          · rw [List.mem_singleton.1 h]; exact hx
        · rw [take_succ_getD i0 hb, getD_set (by omega)]
          split
          · rename_i e
            have : (q : Int) = fr.getD i.toNat 0 := by omega
            simp only [true_iff]
            exact List.mem_append.2 (.inr (List.mem_singleton.2 this))
          · rename_i e
            rw [hq, List.mem_append, List.mem_singleton]
            constructor
            · exact .inl
            · rintro (h | h)
              · exact h
              · omega
    · have hb := of_decide_eq_false hb
      rw [List.take_of_length_le (by omega)] at hk hq
      exact ⟨sl, hk, hq⟩
  · rintro ⟨u, u2, sn⟩ ⟨sl, hk, hq⟩
    dsimp only at sl hk hq ⊢
    refine (hC ((A, s0), (sn, (st, en))) hA hhi sl).to ?_
    rintro (out : List Bool) _ ⟨ol, ho⟩
    dsimp only at ol ho
    refine JoinW.mid (fun d => d = ascL out out.length) (ascLoop (out := out) (K := fun d => d = ascL out out.length) (by omega) rfl) ?_
    rintro d rfl
    refine ⟨fun nv => (nv v).elim, fun _ => ⟨fun ⟨k, k1, k2⟩ => ?_, fun _ => ⟨rfl, out, by dsimp only; omega, fun q hq2 => ?_, by dsimp only; rw [ol, sl]⟩⟩⟩
    · have := hk k k1; dsimp only at k2; omega
    · rw [ho]
      constructor
      · rintro ⟨p, p1, p2, p3⟩; exact ⟨p, (hq p).1 p2, p3⟩
      · rintro ⟨p, p1, p3⟩; exact ⟨p, by have := hk _ p1; omega, (hq p).2 p1, p3⟩

/-- What has been marked, what is still to be done. -/
structure Wl (A : List State) (st en : Bool) (fr : List Int) (sn : List Bool) (op : List Int) : Prop where
  len : sn.length = A.length
  mrk : ∀ o ∈ op, sn.getD o.toNat false = true
  cnt : op.length + sn.count false ≤ A.length
  opn : ∀ o ∈ op, 0 ≤ o ∧ o < (A.length : Int)
  from_ : ∀ k ∈ fr, sn.getD k.toNat false = true
  snd : ∀ q, sn.getD q false = true → ∃ p : Nat, (p : Int) ∈ fr ∧ Rch A st en p q
theorem Wl.push {A : List State} {st en : Bool} {fr : List Int} {sn : List Bool} {op : List Int} (h : Wl A st en fr sn op) {x : Int} (h0 : 0 ≤ x) (h1 : x < (A.length : Int)) (hf : sn.getD x.toNat false = false) (hx : ∃ p : Nat, (p : Int) ∈ fr ∧ Rch A st en p x.toNat) : Wl A st en fr (sn.set x.toNat true) (op ++ [x]) := by
  have hl := h.len
  have hc := count_set_true (l := sn) (i := x.toNat) (by omega) hf
  have := h.cnt
  refine ⟨by simpa using hl, fun o ho => ?_, by simp only [List.length_append, List.length_cons, List.length_nil]; omega, fun o ho => ?_, fun k hk => ?_, fun q hq => ?_⟩
  · rw [getD_set (by omega)]
    split
    · rfl
    · rename_i e
      rcases List.mem_append.1 ho with ho | ho
      · exact h.mrk o ho
      · rw [List.mem_singleton.1 ho] at e; exact (e rfl).elim
  · rcases List.mem_append.1 ho with ho | ho
    · exact h.opn o ho
    · rw [List.mem_singleton.1 ho]; exact ⟨h0, h1⟩
  · rw [getD_set (by omega)]
    split
    · rfl
    · exact h.from_ k hk
  · rw [getD_set (by omega)] at hq
    split at hq
    · rename_i e; subst e; exact hx
    · exact h.snd q hq
def Sp_Closure (P : Program) : Prop := ∀ x : Auto × (List Int × (Bool × Bool)), x.2.1.length ≤ 140737488351232 → Fn P "mergelens/automaton.Closure" S_automaton_Closure x fun (d : List Int × Int) _ => CloPost x.1 x.2.1 x.2.2.1 x.2.2.2 d
theorem sp_Closure (h : Has P F_automaton_Closure) (hR : Sp_ACheck P) (hS : Sp_Steps P) : Sp_Closure P := by
  rintro ⟨⟨A, s0⟩, fr, st, en⟩ hl
  dsimp only at hl ⊢
  refine fn_automaton_Closure h ?_
  unfold W_automaton_Closure
  dsimp only
  refine (hR (A, s0)).to ?_
  rintro (c : Int) _ ⟨hc1, hc2⟩
  refine ⟨fun hc => ⟨fun nv => by rw [hc2 nv], fun v => ?_⟩, fun hc => ?_⟩
  · rw [hc1 v] at hc; simp at hc
  have v : Valid (A, s0) := by
    apply Classical.byContradiction
    intro nv; rw [hc2 nv] at hc; simp at hc
  have hA := v.okl
  have hhi := v.hi
  dsimp only at hA hhi
  refine ⟨⟨by omega, by omega, by omega⟩, ?_⟩
  refine JoinW.mid (fun d => (∀ k ∈ fr, 0 ≤ k ∧ k < (A.length : Int)) ∧ Wl A st en fr d.2.2.1 d.2.2.2 ∧ ∀ q : Nat, d.2.2.1.getD q false = true → (q : Int) ∈ d.2.2.2) ?_ ?_
  · refine LoopW.of (fun d => 0 ≤ d.2.2.2.2 ∧ d.2.2.2.2 ≤ fr.length ∧ (∀ k ∈ fr.take d.2.2.2.2.toNat, 0 ≤ k ∧ k < (A.length : Int)) ∧ Wl A st en (fr.take d.2.2.2.2.toNat) d.2.2.1 d.2.2.2.1 ∧ ∀ q : Nat, d.2.2.1.getD q false = true → (q : Int) ∈ d.2.2.2.1) (fun d => (fr.length - d.2.2.2.2).toNat) ⟨Int.le_refl _, by dsimp only; omega, fun k hk => by simp at hk, ⟨by simp, fun o ho => (by cases ho), by simp, fun o ho => (by cases ho), fun k hk => (by simp at hk), fun q hq => ?_⟩, fun q hq => ?_⟩ ?_
    · rw [List.getD_eq_getElem?_getD, List.getElem?_replicate] at hq
      split at hq <;> simp at hq
    · rw [List.getD_eq_getElem?_getD, List.getElem?_replicate] at hq
      split at hq <;> simp at hq
    rintro ⟨u, u2, sn, op, i⟩ ⟨i0, i1, hk, hw, hq⟩
    dsimp only at i0 i1 hk hw hq ⊢
    have sl := hw.len
    refine ⟨fun hb => JoinW.of ?_, fun hb => ?_⟩
    · have hb := of_decide_eq_true hb
      rw [sl]
      have hmem : fr.getD i.toNat 0 ∈ fr := getD_mem (by omega)
      refine ⟨⟨i0, hb⟩, by omega, fun hx => ?_, fun hx => ?_⟩
      · refine ⟨fun nv => (nv v).elim, fun _ => ⟨fun _ => rfl, fun hall => ?_⟩⟩
        have := hall _ hmem
        dsimp only at this
        simp [-List.getD_eq_getElem?_getD] at hx
        omega
      · simp [-List.getD_eq_getElem?_getD] at hx
        refine ⟨hx, by omega, ?_⟩
        have htk := take_succ_getD i0 hb
        generalize hg : fr.getD i.toNat 0 = y at hx htk hmem ⊢
        rw [w64 (by omega) (by omega)]
        have hk' : ∀ k ∈ fr.take (i + 1).toNat, 0 ≤ k ∧ k < (A.length : Int) := by
          rw [htk]; intro k hk2
          rcases List.mem_append.1 hk2 with h | h
          · exact hk k h
          · rw [List.mem_singleton.1 h]; exact hx
        have hw' : sn.getD y.toNat false = true → Wl A st en (fr.take (i + 1).toNat) sn op := by
          intro hy
          refine ⟨hw.len, hw.mrk, hw.cnt, hw.opn, fun k hk2 => ?_, fun q hq => ?_⟩
          · rw [htk] at hk2
            rcases List.mem_append.1 hk2 with h | h
            · exact hw.from_ k h
            · rw [List.mem_singleton.1 h]; exact hy
          · obtain ⟨p, p1, p2⟩ := hw.snd q hq
            exact ⟨p, by rw [htk]; exact List.mem_append.2 (.inl p1), p2⟩
        refine JoinW.mid (fun d => Wl A st en (fr.take (i + 1).toNat) d.1 d.2 ∧ ∀ q : Nat, d.1.getD q false = true → (q : Int) ∈ d.2) ⟨fun hy => ⟨hx, by omega, ?_, ?_⟩, fun hy => ?_⟩ ?_
        · have := hw.cnt
          simp only [List.length_cons, List.length_nil]; omega
        · have hy : sn.getD y.toNat false = false := by simpa [-List.getD_eq_getElem?_getD] using hy
          have hw2 : Wl A st en (fr.take (i + 1).toNat) (sn.set y.toNat true) (op ++ [y]) := by
            have hcc := count_set_true (l := sn) (i := y.toNat) (by omega) hy
            have hcn := hw.cnt
            refine ⟨by simpa using sl, fun o ho => ?_, by simp only [List.length_append, List.length_cons, List.length_nil]; omega, fun o ho => ?_, fun k hk2 => ?_, fun q hq2 => ?_⟩
            · rw [getD_set (by omega)]
              split
              · rfl
              · rename_i e
                rcases List.mem_append.1 ho with ho | ho
                · exact hw.mrk o ho
                · rw [List.mem_singleton.1 ho] at e; exact (e rfl).elim
            · rcases List.mem_append.1 ho with ho | ho
              · exact hw.opn o ho
              · rw [List.mem_singleton.1 ho]; exact hx
            · rw [getD_set (by omega)]
              split
              · rfl
              · rename_i e
                rw [htk] at hk2
                rcases List.mem_append.1 hk2 with h | h
                · exact hw.from_ k h
                · rw [List.mem_singleton.1 h] at e; exact (e rfl).elim
            · rw [getD_set (by omega)] at hq2
              split at hq2
              · rename_i e
                subst e
                refine ⟨y.toNat, ?_, .refl _⟩
                rw [htk, show ((y.toNat : Nat) : Int) = y by omega]
                exact List.mem_append.2 (.inr (List.mem_singleton.2 rfl))
              · obtain ⟨p, p1, p2⟩ := hw.snd q hq2
                exact ⟨p, by rw [htk]; exact List.mem_append.2 (.inl p1), p2⟩
          refine ⟨hw2, fun q hq2 => ?_⟩
          rw [getD_set (by omega)] at hq2
          split at hq2
          · rename_i e
            exact List.mem_append.2 (.inr (List.mem_singleton.2 (by omega)))
          · exact List.mem_append.2 (.inl (hq q hq2))
        · have hy : sn.getD y.toNat false = true := by simpa [-List.getD_eq_getElem?_getD] using hy
          exact ⟨hw' hy, hq⟩
        · rintro ⟨sn2, op2⟩ ⟨h1, h2⟩
          exact ⟨⟨by omega, by omega, hk', h1, h2⟩, by omega⟩
    · have hb := of_decide_eq_false hb
      rw [List.take_of_length_le (by omega)] at hk hw
      exact ⟨hk, hw, hq⟩
  · rintro ⟨u, u2, sn0, op0⟩ ⟨hk, hw0, hq0⟩
    dsimp only at hk hw0 hq0 ⊢
    refine JoinW.mid (fun sn => Wl A st en fr sn [] ∧ ∀ q : Nat, sn.getD q false = true → ∀ j, epsR A st en q j → sn.getD j false = true) ?_ ?_
    · refine LoopW.of (fun d => Wl A st en fr d.1 d.2 ∧ ∀ q : Nat, d.1.getD q false = true → (q : Int) ∈ d.2 ∨ ∀ j, epsR A st en q j → d.1.getD j false = true) (fun d => 2 * d.1.count false + d.2.length) ⟨hw0, fun q hq => .inl (hq0 q hq)⟩ ?_
      rintro ⟨sn, op⟩ ⟨hw, hq⟩
      dsimp only at hw hq ⊢
      have hysn := hw.mrk
      have sl := hw.len
      have hcn := hw.cnt
      refine ⟨fun hc => ?_, fun hc => ?_⟩
      · have hc := of_decide_eq_true hc
        rw [w64 (n := _ - 1) (by omega) (by omega)]
        have hon : op.getD ((op.length : Int) - 1).toNat 0 ∈ op := getD_mem (by omega)
        have hol := hw.opn _ hon
        have hpop : ∀ q ∈ op, q ∈ op.take ((op.length : Int) - 1).toNat ∨ q = op.getD ((op.length : Int) - 1).toNat 0 := by
          intro q hq
          have e : op = op.take ((op.length : Int) - 1).toNat ++ [op.getD ((op.length : Int) - 1).toNat 0] := by
            rw [← take_succ_getD (by omega) (by omega), List.take_of_length_le (by omega)]
          rw [e] at hq
          rcases List.mem_append.1 hq with h | h
          · exact .inl h
          · exact .inr (List.mem_singleton.1 h)
        have htl : (op.take ((op.length : Int) - 1).toNat).length + 1 = op.length := by simp; omega
        have hop' : ∀ o ∈ op.take ((op.length : Int) - 1).toNat, 0 ≤ o ∧ o < (A.length : Int) := fun o ho => hw.opn o (List.mem_of_mem_take ho)
        have hop'' : ∀ o ∈ op.take ((op.length : Int) - 1).toNat, sn.getD o.toNat false = true := fun o ho => hw.mrk o (List.mem_of_mem_take ho)
        generalize op.getD ((op.length : Int) - 1).toNat 0 = y at hon hol hpop ⊢
        refine JoinW.of ⟨⟨by omega, by omega⟩, by omega, ⟨by omega, by omega⟩, by omega, hol, by omega, ?_⟩
        have hyN : y.toNat < A.length := by omega
        refine (hS ((A.getD y.toNat zState), (st, en))).to ?_
        rintro (ls : List Int) _ rfl
        dsimp only
        rw [show List.drop 0 op = op from rfl]
        generalize op.take ((op.length : Int) - 1).toNat = op' at hpop htl hop' hop'' ⊢
        have hsl := stepsF_len (A.getD y.toNat zState) st en
        obtain ⟨hlt, hiff⟩ := stepsF_eps hA hyN st en
        generalize stepsF (A.getD y.toNat zState) st en = ls at hsl hlt hiff ⊢
        refine JoinW.mid (fun d => (Wl A st en fr d.1 d.2 ∧ ∀ q : Nat, d.1.getD q false = true → (q : Int) ∈ d.2 ∨ ∀ j, epsR A st en q j → d.1.getD j false = true) ∧ 2 * d.1.count false + d.2.length < 2 * sn.count false + op.length) ?_ fun d hd => hd
        have hw1 : Wl A st en fr sn op' := ⟨hw.len, hop'', by omega, hop', hw.from_, hw.snd⟩
        have hy0 : ((y.toNat : Nat) : Int) = y := by omega
        refine LoopW.of (fun d => 0 ≤ d.2.2 ∧ d.2.2 ≤ ls.length ∧ Wl A st en fr d.1 d.2.1 ∧ (∀ q, sn.getD q false = true → d.1.getD q false = true) ∧ (∀ q : Nat, d.1.getD q false = true → (q : Int) ∈ d.2.1 ∨ (q : Int) = y ∨ ∀ j, epsR A st en q j → d.1.getD j false = true) ∧ (∀ x ∈ ls.take d.2.2.toNat, d.1.getD x.toNat false = true) ∧ 2 * d.1.count false + d.2.1.length < 2 * sn.count false + op.length) (fun d => (ls.length - d.2.2).toNat) ⟨Int.le_refl _, by dsimp only; omega, hw1, fun q h => h, fun q h => ?_, fun x hx => by simp at hx, by dsimp only; omega⟩ ?_
        · rcases hq q h with h | h
          · rcases hpop _ h with h | h
            · exact .inl h
            · exact .inr (.inl h)
          · exact .inr (.inr h)
        rintro ⟨sn2, op2, i⟩ ⟨i0, i1, hw2, hm, hq2, hls, hms⟩
        dsimp only at i0 i1 hw2 hm hq2 hls hms ⊢
        have sl2 := hw2.len
        have hcn2 := hw2.cnt
        refine ⟨fun hc => JoinW.of ?_, fun hc => ?_⟩
        · have hc := of_decide_eq_true hc
          have htk := take_succ_getD i0 hc
          have hx := hlt _ (getD_mem (l := ls) (i := i.toNat) (d := 0) (by omega))
          rw [w64 (by omega) (by omega), sl2]
          generalize ls.getD i.toNat 0 = x at hx htk ⊢
          obtain ⟨x0, x1, xe⟩ := hx
          refine ⟨⟨i0, hc⟩, by omega, ⟨x0, x1⟩, by omega, JoinW.of ⟨fun hb => ⟨⟨x0, x1⟩, by omega, ?_, ⟨by omega, by omega, ?_, fun q h => ?_, fun q h => ?_, fun x' hx' => ?_, ?_⟩, by omega⟩, fun hb => ⟨⟨by omega, by omega, hw2, hm, hq2, fun x' hx' => ?_, hms⟩, by omega⟩⟩⟩
          · simp only [List.length_cons, List.length_nil]; omega
          · refine hw2.push x0 x1 (by simpa [-List.getD_eq_getElem?_getD] using hb) ?_
            have hyop : ∃ p : Nat, (p : Int) ∈ fr ∧ Rch A st en p y.toNat := hw.snd _ (hysn _ hon)
            obtain ⟨p, p1, p2⟩ := hyop
            exact ⟨p, p1, p2.tail xe⟩
          · rw [getD_set (by omega)]
            split
            · rfl
            · exact hm q h
          · rw [getD_set (by omega)] at h
            split at h
            · rename_i e
              left
              exact List.mem_append.2 (.inr (List.mem_singleton.2 (by omega)))
            · rcases hq2 q h with h | h | h
              · exact .inl (List.mem_append.2 (.inl h))
              · exact .inr (.inl h)
              · refine .inr (.inr fun j hj => ?_)
                rw [getD_set (by omega)]
                split
                · rfl
                · exact h j hj
          · rw [htk] at hx'
            rw [getD_set (by omega)]
            split
            · rfl
            · rename_i e
              rcases List.mem_append.1 hx' with h | h
              · exact hls _ h
              · rw [List.mem_singleton.1 h] at e; exact (e rfl).elim
          · have hcc := count_set_true (l := sn2) (i := x.toNat) (by omega) (by simpa [-List.getD_eq_getElem?_getD] using hb)
            simp only [List.length_append, List.length_cons, List.length_nil]
            omega
          · rw [htk] at hx'
            rcases List.mem_append.1 hx' with h | h
            · exact hls _ h
            · rw [List.mem_singleton.1 h]; simpa [-List.getD_eq_getElem?_getD] using hb
        · have hc := of_decide_eq_false hc
          rw [List.take_of_length_le (by omega)] at hls
          refine ⟨⟨hw2, fun q h => ?_⟩, hms⟩
          rcases hq2 q h with h | h | h
          · exact .inl h
          · refine .inr fun j hj => ?_
            have : q = y.toNat := by omega
            subst this
            have := hls _ (hiff j hj)
            rwa [show ((j : Int)).toNat = j by omega] at this
          · exact .inr h
      · have hc := of_decide_eq_false hc
        have : op = [] := List.eq_nil_of_length_eq_zero (by omega)
        subst this
        exact ⟨hw, fun q h => (hq q h).elim (fun h => by cases h) id⟩
    · rintro sn ⟨hw, hcl⟩
      have sl := hw.len
      refine JoinW.mid (fun d => d = ascL sn sn.length) (ascLoop (out := sn) (K := fun d => d = ascL sn sn.length) (by omega) rfl) ?_
      rintro d rfl
      refine ⟨fun nv => (nv v).elim, fun _ => ⟨fun ⟨k, k1, k2⟩ => ?_, fun _ => ⟨rfl, sn, sl, fun q hq2 => ?_, by dsimp only; rw [sl]⟩⟩⟩
      · have := hk k k1; dsimp only at k2; omega
      · constructor
        · exact hw.snd q
        · rintro ⟨p, p1, p2⟩
          induction p2 with
          | refl => have := hw.from_ _ p1; rwa [show ((p : Int)).toNat = p by omega] at this
          | tail r e ih =>
            have := hk _ p1
            exact hcl _ (ih (rch_lt hA (by omega) r)) _ e
end Go.VS
