/- Check, of any automaton and of one that is spoilt. -/
import Derived.Test.YtobddjdmgebmgaaKSpLaw05
set_option linter.unusedVariables false
set_option linter.unusedSimpArgs false
set_option linter.unusedSectionVars false
namespace Go.VS
variable {P : Program}

def CkP (a : Auto) (d : Int) : Prop := (Valid a → d = 0) ∧ (¬ Valid a → d = 2)
theorem CkP.uniq {a : Auto} {d e : Int} (h : CkP a d) (k : CkP a e) : d = e := by
  by_cases v : Valid a
  · rw [h.1 v, k.1 v]
  · rw [h.2 v, k.2 v]
theorem chkA (hC : Sp_ACheck P) {a : Auto} {b : Bool} (e : b = true) {rest : Int → Prop} (h : ∀ d, CkP a d → rest d) : JoinW (D := Int) (fun J => ((b = true → Fn P "mergelens/automaton.Check" S_automaton_Check a (fun (d : Int) _ => J d)) ∧ ((b = false → J (0 : Int)) ∧ True))) rest :=
  JoinW.mid (fun d => CkP a d) ⟨fun _ => (hC a).to fun (d : Int) _ hd => hd, fun hb => (by rw [e] at hb; cases hb), trivial⟩ h
theorem chkR (hC : Sp_RCheck P) {a : Auto} {b : Bool} (e : b = true) {rest : Int → Prop} (h : ∀ d, CkP a d → rest d) : JoinW (D := Int) (fun J => ((b = true → Fn P "mergelens/mergelensref05.Check" S_ref05_Check a (fun (d : Int) _ => J d)) ∧ ((b = false → J (0 : Int)) ∧ True))) rest :=
  JoinW.mid (fun d => CkP a d) ⟨fun _ => (hC a).to fun (d : Int) _ hd => hd, fun hb => (by rw [e] at hb; cases hb), trivial⟩ h
theorem chkW (hAw : Sp_awake05 P) {b : Bool} (e : b = true) {rest : Bool → Prop} (h : rest true) : JoinW (D := Bool) (fun J => ((b = true → Fn P "mergelens/mergelenslaw05.awake" S_law05_awake () (fun (d : Bool) _ => J d)) ∧ ((b = false → J false) ∧ True))) rest :=
  JoinW.mid (fun d => d = true) ⟨fun _ => Fn.to hAw fun (d : Bool) _ hd => hd, fun hb => (by rw [e] at hb; cases hb), trivial⟩ (by rintro d rfl; exact h)
theorem sp_AutomatonChecks (h : Has P F_law05_AutomatonChecks) (hMd : Sp_made05 P) (hM : Sp_Mod P) (hC : Sp_ACheck P) (hR : Sp_RCheck P) (hAw : Sp_awake05 P) (x : Auto × (List Int × (Int × (Int × (Int × Int))))) :
    Fn P "mergelens/mergelenslaw05.AutomatonChecks" S_law05_AutomatonChecks x fun (d : Bool) _ => d = true := by
  obtain ⟨a, raw, n, what, at_, by_⟩ := x
  refine fn_law05_AutomatonChecks h ?_
  unfold W_law05_AutomatonChecks
  dsimp only
  refine ⟨fun _ => Fn.to hAw fun (d : Bool) _ hd => hd, fun hc => ?_⟩
  refine (hMd (raw, n)).to ?_
  rintro (b : Auto) _ hb
  have hb : b = madeF raw n 7 := hb
  have hv : Valid b := by rw [hb]; exact madeF_valid raw n (by decide) (by decide)
  have hlo := hv.lo; have hhi := hv.hi
  refine JoinW.mid (fun d => 0 ≤ d ∧ d < (b.1.length : Int)) ?_ ?_
  · have hr := modF_range (a := at_) (n := (b.1.length : Int)) (by omega) (by omega)
    refine ⟨⟨hM.at (by omega) (by omega) ⟨hr, ⟨by omega, by omega⟩, trivial⟩, trivial⟩, hM.at (by omega) (by omega) ⟨hr, ⟨by omega, by omega⟩, trivial⟩, trivial⟩
  rintro i ⟨i0, i1⟩
  have hiN : i.toNat < b.1.length := by omega
  refine hM.at (by decide) (by decide) (JoinW.mid (fun _ => True) (JoinW.of ⟨fun _ => JoinW.mid (fun _ => True) ?_ fun _ _ => trivial, fun _ => JoinW.of ⟨fun _ => JoinW.mid (fun _ => True) ?_ fun _ _ => trivial, fun _ => JoinW.of ⟨fun _ => JoinW.mid (fun _ => True) ?_ fun _ _ => trivial, fun _ => JoinW.of ⟨fun _ => JoinW.mid (fun _ => True) ?_ fun _ _ => trivial, fun _ => trivial⟩⟩⟩⟩) ?_)
  · exact ⟨⟨hiN, hM.at (by decide) (by decide) ⟨⟨hiN, trivial⟩, trivial⟩, trivial⟩, hM.at (by decide) (by decide) ⟨hiN, ⟨hiN, trivial⟩, trivial⟩, trivial⟩
  · exact ⟨⟨hiN, hM.at (by decide) (by decide) ⟨⟨hiN, trivial⟩, trivial⟩, trivial⟩, hM.at (by decide) (by decide) ⟨hiN, ⟨hiN, trivial⟩, trivial⟩, trivial⟩
  · exact ⟨⟨hiN, hM.at (by decide) (by decide) ⟨⟨hiN, trivial⟩, trivial⟩, trivial⟩, hM.at (by decide) (by decide) ⟨hiN, ⟨hiN, trivial⟩, trivial⟩, trivial⟩
  · exact ⟨⟨hM.at (by decide) (by decide) ⟨trivial, trivial⟩, trivial⟩, hM.at (by decide) (by decide) ⟨trivial, trivial⟩, trivial⟩
  rintro b2 _
  have leaf : ∀ {d49 d51 : Int}, d49 = d51 → (d49 == d51) = true := fun e => by simp [e]
  have last : ∀ {c e : Int} {b : Bool}, b = true → c = e → (cond b (c == e) false) = true := fun h e => by rw [h, e]; simp
  refine JoinW.mid (fun d => d = true) ⟨(hC a).to ?_, ⟨(hC a).to ?_, trivial⟩, trivial⟩ fun d hd => hd
  · rintro (d49 : Int) _ h49
    refine ⟨(hR a).to ?_, trivial⟩
    rintro (d51 : Int) _ h51
    have e := leaf (CkP.uniq h49 h51)
    refine ⟨chkA hC e fun d55 h55 => ⟨chkR hR e fun d58 h58 => ⟨chkW hAw (last e (h55.uniq h58)) ⟨?_, trivial⟩, trivial⟩, trivial⟩, ⟨chkA hC e fun d55 h55 => ⟨chkR hR e fun d58 h58 => ⟨chkW hAw (last e (h55.uniq h58)) ⟨?_, trivial⟩, trivial⟩, trivial⟩, trivial⟩, trivial⟩
    · rw [last e (h55.uniq h58)]; rfl
    · rw [last e (h55.uniq h58)]; rfl
  · rintro (d49 : Int) _ h49
    refine ⟨(hR a).to ?_, trivial⟩
    rintro (d51 : Int) _ h51
    have e := leaf (CkP.uniq h49 h51)
    refine ⟨chkA hC e fun d55 h55 => ⟨chkR hR e fun d58 h58 => ⟨chkW hAw (last e (h55.uniq h58)) ⟨?_, trivial⟩, trivial⟩, trivial⟩, ⟨chkA hC e fun d55 h55 => ⟨chkR hR e fun d58 h58 => ⟨chkW hAw (last e (h55.uniq h58)) ⟨?_, trivial⟩, trivial⟩, trivial⟩, trivial⟩, trivial⟩
    · rw [last e (h55.uniq h58)]; rfl
    · rw [last e (h55.uniq h58)]; rfl
end Go.VS
