/- TreeLimits. -/
import Derived.Test.YtbpbcfiodckhjaaDoorKSpL21c
set_option linter.unusedVariables false
set_option linter.unusedSimpArgs false
namespace Go.VS
variable {P : Pg}
def Zh (i : Nat) : Bs := [102, UInt8.ofNat (48 + i / 100), UInt8.ofNat (48 + i / 10 % 10), UInt8.ofNat (48 + i % 10)]
def Zd (n : Nat) : List Aw := (List.range n).map fun i => (Zh i, [])
theorem Ze (n : Nat) : (Zd n).length = n := by simp [Zd]
theorem Zn (n : Nat) : Zd (n + 1) = Zd n ++ [(Zh n, [])] := by
 unfold Zd
 rw [List.range_succ, List.map_append]
 rfl
theorem Zv {n : Nat} (hn : n ≤ 1000) : CH (Zd n) := ⟨by rw [Ze]; omega, fun f hf => by
 obtain ⟨i, _, rfl⟩ := List.mem_map.1 hf
 exact ⟨by simp [Zh], Nat.zero_le _⟩⟩
theorem Zo : (List.range 200).all (fun i => B6 (Zh i) == 0) = true := by decide +kernel
theorem Zs : (List.range 200).all (fun i => (List.range i).all fun k => Op.bytesLess (Zh k) (Zh i) && !EZ (Zh k) (Zh i)) = true := by decide +kernel
theorem Zm {n i : Nat} (h : i < n) : (Zd n).getD i ([], []) = (Zh i, []) := by
 unfold Zd
 rw [List.getD_eq_getElem?_getD, List.getElem?_map, List.getElem?_range h]
 rfl
theorem Zr : Eu (Zd 200) = 0 := by
 have h1 : (Zd 200).all (fun f => B6 f.1 == 0) = true := by
  unfold Zd
  rw [List.all_map]
  exact Zo
 have h2 : NW (Zd 200) = true := (M3 _).2 fun i hi k hk => by
  rw [Ze] at hi
  unfold pth
  rw [Zm hi, Zm (by omega)]
  have h3 := List.all_eq_true.1 (List.all_eq_true.1 Zs i (List.mem_range.2 hi)) k (List.mem_range.2 hk)
  rw [Bool.and_eq_true] at h3
  exact ⟨h3.1, by simpa using h3.2⟩
 have h3 : (Zd 200).all (fun f => FZ f.2 == 0) = true := by
  refine List.all_eq_true.2 fun f hf => ?_
  obtain ⟨i, _, rfl⟩ := List.mem_map.1 hf
  rw [Zl (Nat.zero_le _)]
  rfl
 unfold Eu
 rw [Ze, if_neg (by omega), if_neg (by rw [h1]; exact Bool.noConfusion), if_neg (by rw [h2]; exact Bool.noConfusion), if_neg (by rw [h3]; exact Bool.noConfusion)]
theorem Zq : Eu (Zd 201) = 1 := by
 unfold Eu
 rw [Ze, if_pos (by omega)]
theorem Zt {i : Int} (h0 : 0 ≤ i) (h1 : i ≤ 300) : strOf ([(102 : Int), (IntKind.u8.wrap (IntKind.i64.wrap ((48 : Int) + (IntKind.i64.wrap (Int.tdiv i (100 : Int)))))), (IntKind.u8.wrap (IntKind.i64.wrap ((48 : Int) + (Int.tmod (IntKind.i64.wrap (Int.tdiv i (10 : Int))) (10 : Int))))), (IntKind.u8.wrap (IntKind.i64.wrap ((48 : Int) + (Int.tmod i (10 : Int)))))] : List Int) = Zh i.toNat := by
 obtain ⟨n, rfl⟩ : ∃ n : Nat, i = (n : Int) := ⟨i.toNat, by omega⟩
 rw [Int.tdiv_eq_ediv_of_nonneg h0, Int.tdiv_eq_ediv_of_nonneg h0, Int.tmod_eq_emod_of_nonneg h0, w64 (n := (n : Int) / 100) (by omega) (by omega), w64 (n := (n : Int) / 10) (by omega) (by omega), Int.tmod_eq_emod_of_nonneg (by omega)]
 rw [w64 (n := 48 + (n : Int) / 100) (by omega) (by omega), w64 (n := 48 + (n : Int) / 10 % 10) (by omega) (by omega), w64 (n := 48 + (n : Int) % 10) (by omega) (by omega), wu8 (by omega) (by omega), wu8 (by omega) (by omega), wu8 (by omega) (by omega)]
 unfold strOf Zh
 simp only [List.map_cons, List.map_nil]
 rw [show (102 : Int).toNat = 102 from rfl, show ((48 : Int) + (n : Int) / 100).toNat = 48 + n / 100 by omega, show ((48 : Int) + (n : Int) / 10 % 10).toNat = 48 + n / 10 % 10 by omega, show ((48 : Int) + (n : Int) % 10).toNat = 48 + n % 10 by omega, show ((n : Int)).toNat = n from rfl]
 rfl
theorem Zi (h : Has P Za) (hT : L8 P) (hC : Du P) (hAw : Fu P) (x : Bool) :
  Fn P RA Y9 x fun (d : Bool) _ => d = true := by
 refine Zf h ?_
 unfold Zc
 dsimp only
 refine Ar.mid (fun q => ∃ n : Nat, q.1 = (n : Int) ∧ n ≤ 201 ∧ q.2 = Eu (Zd n)) ⟨fun _ => ⟨201, by decide, by decide, Zq.symm⟩, fun _ => ⟨200, rfl, by decide, Zr.symm⟩⟩ ?_
 rintro ⟨n', want⟩ ⟨n, hn, hn2, hw⟩
 dsimp only at hn hw ⊢
 subst hn
 refine Ar.mid (fun l => l = Zd n) ?_ ?_
 ·refine BU.of (fun q => (0 ≤ q.2 ∧ q.2 ≤ n) ∧ q.1 = Zd q.2.toNat) (fun q => (n - q.2).toNat) ⟨⟨Int.le_refl _, Int.natCast_nonneg _⟩, rfl⟩ ?_
  rintro ⟨l, i⟩ ⟨⟨i0, i1⟩, hl⟩
  dsimp only at i0 i1 hl ⊢
  refine ⟨fun hi => ?_, fun hi => ?_⟩
  ·have hi := of_decide_eq_true hi
   have hll : l.length = i.toNat := by rw [hl, Ze]
   rw [Zt i0 (by omega)]
   refine Ar.mid (fun l => l = Zd (i.toNat + 1)) ⟨by decide, by decide, by decide, by decide, by simp only [List.length_cons, List.length_nil]; omega, by rw [Zn, hl]⟩ ?_
   rintro l' rfl
   rw [w64 (by omega) (by omega)]
   exact ⟨⟨⟨by omega, by omega⟩, by rw [show (i + 1).toNat = i.toNat + 1 by omega]⟩, by omega⟩
  ·have hi := of_decide_eq_false hi
   rw [hl, show i.toNat = n by omega]
 ·rintro l rfl
  have hlt := Zv (n := n) (by omega)
  have hnil : CH ([] : List Aw) := ⟨Nat.zero_le _, fun f hf => nomatch hf⟩
  have hc0 : Eu ([] : List Aw) = 0 := rfl
  refine (hT ([], Zd n) hnil hlt).to ?_
  rintro (d : List A0 × Int) _ hd
  have hd : IU [] (Zd n) d := hd
  have hd2 : d.2 = want := by
   rw [hd.1, hw]
   unfold Hl
   rw [if_neg (by simpa using hc0)]
  refine hC.at hlt ?_
  rw [hd2, hw]
  simp only [beq_self_eq_true, cond_true]
  refine Ar.mid (fun d => d = true) ⟨fun _ => hAw.at rfl, fun h => absurd h (by simp), trivial⟩ ?_
  rintro d rfl
  rfl
end Go.VS
