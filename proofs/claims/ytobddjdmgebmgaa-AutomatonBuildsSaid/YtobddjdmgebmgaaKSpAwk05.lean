/- The pattern "a"; awake of layer 5. -/
import Derived.Test.YtobddjdmgebmgaaKSpPairs
import Derived.Test.YtobddjdmgebmgaaKSpLaw06
import Derived.Test.YtobddjdmgebmgaaKSpRd
set_option linter.unusedVariables false
set_option linter.unusedSimpArgs false
namespace Go.VS
variable {P : Program}
abbrev nodeA : Node := ((1 : Int), (S97, ((0 : Int), ((0 : Int), []))))
abbrev readA : ref04_reader := (([97] : List UInt8), ((0 : Int), ((0 : Int), ([], (0 : Int)))))
abbrev readB : ref04_reader := (([97] : List UInt8), ((1 : Int), ((0 : Int), ([nodeA], (0 : Int)))))
def Sp_atomA (P : Program) : Prop := Fn P "(*mergelens/mergelensref04.reader).atom" S_ref04_reader_atom readA fun (d : Int) (e : ref04_reader) => d = 0 ∧ e = readB
theorem sp_atomA (h : Has P F_ref04_reader_atom) (hP : Sp_Put P) (hN : Sp_node P) : Sp_atomA P := by
 refine fn_ref04_reader_atom h ?_
 unfold W_ref04_reader_atom
 dsimp only
 refine JoinW.mid (fun d => d = 97) ⟨⟨by decide, by decide⟩, rfl, trivial⟩ ?_
 rintro c rfl
 refine JoinW.mid (fun d => d.2 = ((97 : Int), (([97] : List UInt8), ((1 : Int), ((0 : Int), ([], (0 : Int))))))) ?_ ?_
 ·refine ⟨fun hc => absurd hc (by decide), fun _ => ⟨fun hc => absurd hc (by decide), fun _ => ⟨fun hc => absurd hc (by decide), fun _ => ⟨fun hc => absurd hc (by decide), fun _ => ⟨fun hc => absurd hc (by decide), fun _ => ?_⟩⟩⟩⟩⟩
  refine JoinW.mid (fun d => d = false) ?_ ?_
  ·refine ⟨fun hc => absurd hc (by decide), fun _ => JoinW.of ⟨fun hc => absurd hc (by decide), fun _ => JoinW.of ⟨fun hc => absurd hc (by decide), fun _ => JoinW.of ⟨fun hc => absurd hc (by decide), fun _ => JoinW.of ⟨fun hc => absurd hc (by decide), fun _ => by decide⟩⟩⟩⟩⟩
  ·rintro b rfl
   refine ⟨fun hc => absurd hc (by decide), fun _ => JoinW.of ⟨fun hc => absurd hc (by decide), fun _ => ?_⟩⟩
   dsimp only
   rw [w64 (by decide) (by decide)]
   rfl
 ·rintro ⟨u, d⟩ hd
  dsimp only at hd
  subst hd
  dsimp only
  refine hP.at (by decide) (by decide) fun d hd => ?_
  have hd : d = S97 := hd
  subst hd
  refine (hN (_, _) (by decide)).to ?_
  rintro (k : Int) (e : ref04_reader) ⟨rfl, rfl⟩
  exact ⟨rfl, rfl⟩
def Sp_pieceA (P : Program) : Prop := Fn P "(*mergelens/mergelensref04.reader).piece" S_ref04_reader_piece readA fun (d : Int) (e : ref04_reader) => d = 0 ∧ e = readB
theorem sp_pieceA (h : Has P F_ref04_reader_piece) (hI : Sp_is P) (hA : Sp_atomA P) : Sp_pieceA P := by
 refine fn_ref04_reader_piece h ?_
 unfold W_ref04_reader_piece
 dsimp only
 refine (hI (readA, 94) (by decide)).to ?_
 rintro (b : Bool) (e : ref04_reader) ⟨rfl, hb⟩
 refine ⟨fun hc => ?_, fun _ => ?_⟩
 ·exact absurd (hb.1 hc).2 (by decide)
 refine (hI (readA, 36) (by decide)).to ?_
 rintro (b2 : Bool) (e : ref04_reader) ⟨rfl, hb2⟩
 refine Fn.to hA ?_
 rintro (d : Int) (e : ref04_reader) ⟨rfl, rfl⟩
 exact ⟨fun _ => ⟨rfl, rfl⟩, fun hc => absurd hc (by decide)⟩
def Sp_altA (P : Program) : Prop := Fn P "(*mergelens/mergelensref04.reader).alternative" S_ref04_reader_alternative readA fun (d : Int) (e : ref04_reader) => d = 0 ∧ e = readB
theorem sp_altA (h : Has P F_ref04_reader_alternative) (hA : Sp_pieceA P) : Sp_altA P := by
 refine fn_ref04_reader_alternative h ?_
 unfold W_ref04_reader_alternative
 dsimp only
 refine JoinW.mid (fun d => d = (([0] : List Int), readB)) ?_ ?_
 ·refine LoopW.of (fun d => d = (([] : List Int), readA) ∨ d = (([0] : List Int), readB)) (fun d => 1 - d.1.length) (.inl rfl) ?_
  rintro d (rfl | rfl)
  ·refine ⟨fun _ => ⟨by decide, by decide⟩, fun _ => ⟨by decide, by decide⟩, fun _ => JoinW.of ?_, fun hc => absurd hc (by decide)⟩
   refine Fn.to hA ?_
   rintro (d : Int) (e : ref04_reader) ⟨rfl, rfl⟩
   exact ⟨by decide, .inr rfl, by decide⟩
  ·exact ⟨fun hc => absurd hc (by decide), fun hc => absurd hc (by decide), fun hc => absurd hc (by decide), fun _ => rfl⟩
 ·rintro d rfl
  exact JoinW.of ⟨fun hc => absurd hc (by decide), fun _ => ⟨fun hc => absurd hc (by decide), fun _ => ⟨fun _ => ⟨⟨by decide, by decide⟩, by decide, rfl, rfl⟩, fun hc => absurd hc (by decide)⟩⟩⟩
def Sp_patA (P : Program) : Prop := Fn P "(*mergelens/mergelensref04.reader).pattern" S_ref04_reader_pattern readA fun (d : Int) (e : ref04_reader) => d = 0 ∧ e = readB
theorem sp_patA (h : Has P F_ref04_reader_pattern) (hA : Sp_altA P) (hI : Sp_is P) : Sp_patA P := by
 refine fn_ref04_reader_pattern h ?_
 unfold W_ref04_reader_pattern
 dsimp only
 refine Fn.to hA ?_
 rintro (d : Int) (e : ref04_reader) ⟨rfl, rfl⟩
 refine JoinW.mid (fun d => d = (([0] : List Int), readB)) ?_ ?_
 ·refine LoopW.of (fun d => d = (([0] : List Int), readB)) (fun d => 0) rfl ?_
  rintro d rfl
  refine ⟨fun _ => ?_, fun hc => absurd hc (by decide)⟩
  refine (hI (readB, 124) (by decide)).to ?_
  rintro (b : Bool) (e : ref04_reader) ⟨rfl, hb⟩
  refine ⟨fun hc => ?_, fun _ => rfl⟩
  have hb2 : b = true := hc
  exact absurd (hb.1 hb2).1 (by decide)
 ·rintro d rfl
  exact ⟨fun _ => ⟨⟨by decide, by decide⟩, by decide, rfl, rfl⟩, fun hc => absurd hc (by decide)⟩
def Sp_ParseA (P : Program) : Prop := Fn P "mergelens/mergelensref04.Parse" S_ref04_Parse ([97] : List UInt8) fun (d : List Node × Int) _ => d = ([nodeA], 0)
theorem sp_ParseA (h : Has P F_ref04_Parse) (hA : Sp_patA P) : Sp_ParseA P := by
 refine fn_ref04_Parse h ?_
 unfold W_ref04_Parse
 dsimp only
 refine ⟨fun hc => absurd hc (by decide), fun _ => ?_⟩
 refine Fn.to hA ?_
 rintro (d : Int) (e : ref04_reader) ⟨rfl, rfl⟩
 refine JoinW.mid (fun d => d = readB) ⟨fun hc => absurd hc (by decide), fun _ => rfl⟩ ?_
 rintro d rfl
 exact ⟨fun hc => absurd hc (by decide), fun _ => rfl⟩
theorem nodeA_valid : NValid [nodeA] := by
 refine ⟨by decide, by decide, fun i hi => ?_⟩
 have : i = 0 := by simp at hi; omega
 subst this
 refine ⟨fun k hk => by simp at hk, by decide, by decide, fun _ => rfl, fun h => ?_, fun h => ?_⟩
 ·rcases h with h | h <;> cases h
 ·cases h
theorem kb_of {l : List Node} (h : ∀ n ∈ l, n.2.2.2.2.length ≤ 140737488351232) : KB l := by
 intro i
 rcases Nat.lt_or_ge i l.length with hi | hi
 ·exact h _ (getD_mem hi)
 ·rw [List.getD_eq_getElem?_getD, List.getElem?_eq_none hi]; decide
def Sp_awake05 (P : Program) : Prop := Fn P "mergelens/mergelenslaw05.awake" S_law05_awake () fun (d : Bool) _ => d = true
theorem sp_awake05 (h : Has P F_law05_awake) (hA : Sp_ParseA P) (hB : Sp_Build P) (hR : Sp_RCheck P) (hE : Sp_Ends P) (hC : Sp_ACheck P) : Sp_awake05 P := by
 refine fn_law05_awake h ?_
 unfold W_law05_awake
 refine Fn.to hA ?_
 rintro (d : List Node × Int) _ rfl
 refine (hB [nodeA] (kb_of (by decide)) (by decide)).to ?_
 rintro (d3 : Auto × Int) _ ⟨_, hd⟩
 obtain ⟨_, hd⟩ := hd nodeA_valid
 have hw : (wts [nodeA]).getD ([nodeA].length - 1) 0 = 1 := by rfl
 obtain ⟨h0, hb⟩ := hd (by rw [hw]; omega)
 have hlang : ∀ s i j, acc d3.1 s i j ↔ setR S97 s i j := fun s i j => (hb.lang s i j).trans Iff.rfl
 rw [h0]
 refine JoinW.mid (fun d => d = 0) ⟨fun _ => ?_, fun hc => absurd hc (by decide), trivial⟩ ?_
 ·refine (hR d3.1).to ?_
  rintro (d : Int) _ hd
  exact hd.1 hb.valid
 rintro d rfl
 refine ⟨fun hc => absurd hc (by decide), fun _ => ?_⟩
 refine (hE (d3.1, (([97] : List UInt8), 0)) hb.valid (by simp) (by simp) (by simp)).to ?_
 rintro (x : List Bool) _ ⟨hxl, hx⟩
 dsimp only at hxl hx ⊢
 have x1 : x.getD 1 false = true := by
  rw [hx, hlang]
  exact ⟨by decide, by decide +kernel, rfl⟩
 have x0 : x.getD 0 false = false := by
  cases hy : x.getD 0 false
  ·rfl
  ·have := (hlang _ _ _).1 ((hx 0).1 hy)
   exact absurd this.2.2 (by decide)
 have hlen : x.length = 2 := hxl
 have e1 : x.getD (Int.toNat 1) false = true := x1
 have e0 : x.getD (Int.toNat 0) false = false := x0
 rw [hlen]
 rw [e1, e0]
 refine ⟨⟨by decide, by decide⟩, by decide, fun _ => ⟨by decide, by decide⟩, fun _ => by decide, ?_⟩
 refine JoinW.mid (fun d => d = 0) ⟨fun _ => ?_, fun hc => absurd hc (by decide), trivial⟩ ?_
 ·refine (hC d3.1).to ?_
  rintro (d : Int) _ hd
  exact hd.1 hb.valid
 rintro d rfl
 refine JoinW.mid (fun d => d = 2) ⟨fun _ => ?_, fun hc => absurd hc (by decide), trivial⟩ ?_
 ·refine (hC (([] : List State), (0 : Int))).to ?_
  rintro (d : Int) _ hd
  exact hd.2 fun v => absurd v.lo (by decide)
 rintro d rfl
 rfl
end Go.VS
