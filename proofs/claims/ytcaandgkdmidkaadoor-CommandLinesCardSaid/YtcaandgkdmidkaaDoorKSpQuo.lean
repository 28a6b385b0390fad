/- Quoting in the document; what a plain byte is. -/
import Derived.Test.YtcaandgkdmidkaaDoorKSpScan
set_option linter.unusedVariables false
set_option linter.unusedSimpArgs false
namespace Go.VS
variable {P : Pg}
def LK (P : Pg) : Prop := ∀ s : Bs, s.length ≤ 17592186044416 → Fn P zS3 Bq s fun (d : Bs) _ => d = Ar s
def LQ (P : Pg) : Prop := ∀ x : Int, Fn P VJ Ca x fun (d : Bool) _ => d = C5 x
theorem Vw (h : Has P EW) : LQ P := by
 intro x
 refine Ng h ?_
 unfold Jh C5
 rfl
def Kg (P : Pg) : Prop := ∀ x : Int, Fn P Ab5 BX x fun (d : Bool) _ => d = C5 x
theorem TR (h : Has P El) : Kg P := by
 intro x
 refine Mb h ?_
 unfold Io C5
 rfl
theorem We : ∀ n : Nat, n < 256 →
  (List.drop (Int.toNat (IntKind.u8.wrap (Int.tdiv (n : Int) 64))) (List.take (Int.toNat (IntKind.u8.wrap ((IntKind.u8.wrap (Int.tdiv (n : Int) 64)) + 1))) ([48, 49, 50, 51, 52, 53, 54, 55] : List UInt8)) = [UInt8.ofNat (48 + n / 64)]
  ∧ List.drop (Int.toNat (Int.tmod (IntKind.u8.wrap (Int.tdiv (n : Int) 8)) 8)) (List.take (Int.toNat (IntKind.u8.wrap ((Int.tmod (IntKind.u8.wrap (Int.tdiv (n : Int) 8)) 8) + 1))) ([48, 49, 50, 51, 52, 53, 54, 55] : List UInt8)) = [UInt8.ofNat (48 + n / 8 % 8)]
  ∧ List.drop (Int.toNat (Int.tmod (n : Int) 8)) (List.take (Int.toNat (IntKind.u8.wrap ((Int.tmod (n : Int) 8) + 1))) ([48, 49, 50, 51, 52, 53, 54, 55] : List UInt8)) = [UInt8.ofNat (48 + n % 8)])
  ∧ (0 ≤ (IntKind.u8.wrap (Int.tdiv (n : Int) 64)) ∧ (IntKind.u8.wrap (Int.tdiv (n : Int) 64)) ≤ (IntKind.u8.wrap ((IntKind.u8.wrap (Int.tdiv (n : Int) 64)) + 1)) ∧ (IntKind.u8.wrap ((IntKind.u8.wrap (Int.tdiv (n : Int) 64)) + 1)) ≤ ((List.length ([48, 49, 50, 51, 52, 53, 54, 55] : List UInt8) : Nat) : Int))
  ∧ (0 ≤ (Int.tmod (IntKind.u8.wrap (Int.tdiv (n : Int) 8)) 8) ∧ (Int.tmod (IntKind.u8.wrap (Int.tdiv (n : Int) 8)) 8) ≤ (IntKind.u8.wrap ((Int.tmod (IntKind.u8.wrap (Int.tdiv (n : Int) 8)) 8) + 1)) ∧ (IntKind.u8.wrap ((Int.tmod (IntKind.u8.wrap (Int.tdiv (n : Int) 8)) 8) + 1)) ≤ ((List.length ([48, 49, 50, 51, 52, 53, 54, 55] : List UInt8) : Nat) : Int))
  ∧ (0 ≤ (Int.tmod (n : Int) 8) ∧ (Int.tmod (n : Int) 8) ≤ (IntKind.u8.wrap ((Int.tmod (n : Int) 8) + 1)) ∧ (IntKind.u8.wrap ((Int.tmod (n : Int) 8) + 1)) ≤ ((List.length ([48, 49, 50, 51, 52, 53, 54, 55] : List UInt8) : Nat) : Int)) := by decide +kernel
theorem Xa (b : UInt8) : (BF b).length ≤ 4 := by
 unfold BF
 repeat' split
 all_goals simp
theorem Wz {s : Bs} {i : Nat} (h : i < s.length) : List.drop i (List.take (i + 1) s) = [s.getD i 0] := by
 rw [List.take_add_one, List.getElem?_eq_getElem h, List.drop_append_of_le_length (by rw [List.length_take]; omega), List.drop_eq_nil_of_le (by rw [List.length_take]; omega)]
 rw [getD_eq h]
 rfl
theorem XB {s : Bs} {i : Nat} (h : i < s.length) : List.take (i + 1) s = List.take i s ++ [s.getD i 0] := by
 rw [List.take_add_one, List.getElem?_eq_getElem h, getD_eq h]
 rfl
def Kh (P : Pg) : Prop := ∀ s : Bs, s.length ≤ 17592186044416 → Fn P Uc BK s fun (d : Bs) _ => d = Ar s
theorem TU (h : Has P Em) (hP : Kg P) : Kh P := by
 intro s hl
 refine Mc h ?_
 unfold Ip
 dsimp only
 refine Ao.mid (fun d => d.1 = (!s.isEmpty && s.all CE) ∧ d.2 = 34 :: s.flatMap BF ∧ d.2.length ≤ 4 * s.length + 1) ?_ ?_
 ·refine Dm.of (fun d => 0 ≤ d.2.2 ∧ d.2.2 ≤ s.length ∧ d.1 = (!s.isEmpty && (s.take d.2.2.toNat).all CE) ∧ d.2.1 = 34 :: (s.take d.2.2.toNat).flatMap BF ∧ (d.2.1.length : Int) ≤ 4 * d.2.2 + 1) (fun d => (s.length - d.2.2).toNat) ?_ ?_
  ·dsimp only
   refine ⟨by omega, by omega, ?_, by simp, by simp⟩
   cases s <;> simp
  ·rintro ⟨b, out, i⟩ ⟨i0, i1, hb, ho, hlen⟩
   dsimp only at i0 i1 hb ho hlen ⊢
   refine ⟨fun hc => Ao.of ?_, fun hc => ?_⟩
   ·have hi := of_decide_eq_true hc
    have hin : i.toNat < s.length := by omega
    have hnx := XB hin
    generalize hv : List.getD s (Int.toNat i) 0 = v at hnx ⊢
    have hv256 : v.toNat < 256 := UInt8.toNat_lt v
    refine ⟨⟨i0, hi⟩, Ao.mid (fun d => b = true → d = CE v) ⟨fun h1 => ?_, fun h1 h2 => (by rw [h1] at h2; cases h2), trivial⟩ ?_⟩
    ·refine (hP _).to ?_
     rintro (d : Bool) _ hd _
     exact hd
    intro d hd
    have hbit : (cond b d false) = (!s.isEmpty && (s.take (i.toNat + 1)).all CE) := by
     rw [hnx, List.all_append, ← Bool.and_assoc, ← hb]
     cases b with
     | false => rfl
     | true => rw [hd rfl]; simp
    refine Ao.mid (fun o => o = out ++ BF v) ?_ ?_
    rotate_left
    ·rintro o rfl
     dsimp only
     have := Xa v
     rw [w64 (by omega) (by omega)]
     rw [show (i + 1).toNat = i.toNat + 1 by omega, hbit]
     refine ⟨⟨by omega, by omega, rfl, ?_, by rw [List.length_append]; omega⟩, by omega⟩
     rw [hnx, List.flatMap_append, ho]
     simp
    have hq : ∀ w : UInt8, ((v.toNat : Int) == ((w.toNat : Nat) : Int)) = decide (v = w) := fun w => by
     by_cases e : v = w
     ·simp [e]
     ·have : ¬ v.toNat = w.toNat := fun h => e (UInt8.toNat_inj.1 h)
      simp [e]
      omega
    have q34 := hq 34
    have q92 := hq 92
    have q10 := hq 10
    have q9 := hq 9
    change ((v.toNat : Int) == 34) = decide (v = 34) at q34
    change ((v.toNat : Int) == 92) = decide (v = 92) at q92
    change ((v.toNat : Int) == 10) = decide (v = 10) at q10
    change ((v.toNat : Int) == 9) = decide (v = 9) at q9
    have hone : List.drop (Int.toNat i) (List.take (Int.toNat (IntKind.i64.wrap (i + 1))) s) = [v] := by
     rw [w64 (by omega) (by omega), show (i + 1).toNat = i.toNat + 1 by omega, Wz hin, hv]
    have hob := We v.toNat hv256
    obtain ⟨⟨o1, o2, o3⟩, p1, p2, p3⟩ := hob
    rw [q34, q92, q10, q9, hone, o1, o2, o3]
    have hw : IntKind.i64.wrap (i + 1) = i + 1 := w64 (by omega) (by omega)
    unfold BF
    refine Ao.of ⟨fun h1 => ?_, fun h1 => Ao.of ⟨fun h2 => ?_, fun h2 => Ao.of ⟨fun h3 => ?_, fun h3 => Ao.of ⟨fun h4 => Ao.of ?_, fun h4 => ?_⟩⟩⟩⟩
    ·rw [if_pos (cor.1 h1), hw]
     refine ⟨by simp; omega, ⟨by omega, by omega, by omega⟩, by simp; omega, ?_⟩
     rw [List.append_assoc]
     rfl
    ·rw [if_neg (by have := corf.1 h1; rintro (h | h); exact this.1 h; exact this.2 h), if_pos (of_decide_eq_true h2)]
     exact ⟨by simp; omega, rfl⟩
    ·rw [if_neg (by have := corf.1 h1; rintro (h | h); exact this.1 h; exact this.2 h), if_neg (of_decide_eq_false h2), if_pos (of_decide_eq_true h3)]
     exact ⟨by simp; omega, rfl⟩
    ·have h4 := cor.1 h4
     rw [if_neg (by have := corf.1 h1; rintro (h | h); exact this.1 h; exact this.2 h), if_neg (of_decide_eq_false h2), if_neg (of_decide_eq_false h3), if_pos (by omega)]
     refine ⟨by simp; omega, by decide, by decide, p1, by simp; omega, by decide, by decide, by decide, by decide, p2, by simp; omega, by decide, by decide, p3, by simp; omega, ?_, trivial⟩
     simp
    ·have h4 := corf.1 h4
     rw [if_neg (by have := corf.1 h1; rintro (h | h); exact this.1 h; exact this.2 h), if_neg (of_decide_eq_false h2), if_neg (of_decide_eq_false h3), if_neg (by omega), hw]
     exact ⟨⟨by omega, by omega, by omega⟩, by simp; omega, rfl⟩
   ·have hi := of_decide_eq_false hc
    have hie : i.toNat = s.length := by omega
    rw [hie, List.take_length] at hb ho
    exact ⟨hb, ho, by omega⟩
 ·rintro ⟨b, out⟩ ⟨hb, ho, hlen⟩
  dsimp only at hb ho hlen ⊢
  unfold Ar
  refine ⟨fun hc => ?_, fun hc => ⟨by simp; omega, ?_⟩⟩
  ·rw [if_pos (hb ▸ hc)]
  ·rw [if_neg (by rw [← hb, hc]; simp), ho]
   rfl
end Go.VS
