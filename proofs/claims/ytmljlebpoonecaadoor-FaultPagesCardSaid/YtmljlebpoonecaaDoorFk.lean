/- What the functions figure, Hex and Figures of package dormerref07 answer: the figures of a number, to the base 16 for every uint64, to the base 10 for every number from 0 to 255; no condition on the world. -/
import Derived.Test.YtmljlebpoonecaaDoorProg
import Derived.WalkKit
import Derived.Deep.RegionHeld3
import Derived.Lib.ItoaNum
import Derived.Lib.Hide
import Derived.Laws.IdiomStrings
namespace Go.Proofs.YtmljlebpoonecaaDoor
open Go.RowKit

/-- The figure of a number below 16. -/
def hexd (n : Nat) : UInt8 := if n < 10 then UInt8.ofNat (48 + n) else UInt8.ofNat (87 + n)
/-- A number to the base 16. -/
def hexDigits (n : Nat) : List UInt8 :=
  if _h : n < 16 then [hexd n] else hexDigits (n / 16) ++ [hexd (n % 16)]
  termination_by n
  decreasing_by omega

/-- One byte as a string. -/
theorem conv1 (m : Int) (b c : Nat) (w : World) (h0 : 0 ≤ m) (h1 : m ≤ 255) (h : w.cell? ⟨b, 0, none⟩ = some (.int .u8 m)) :
    (convert 84 9 (.slice (some ⟨b, 0, none⟩) 1 c)).run Tryd.prog w = .ok (.string ⟨#[UInt8.ofNat m.toNat]⟩) w :=
  run_convert_bytes_back w 84 9 5 ⟨b, 0, none⟩ c [UInt8.ofNat m.toNat] Tryd.underlying84 Tryd.underlying5 Tryd.underlying9 (fun j hj => by
    have hj' : j = 0 := by simpa using hj
    subst hj'
    show w.cell? ⟨b, 0, none⟩ = _
    rw [h]
    have : ((UInt8.ofNat m.toNat).toNat : Int) = m := by simp; omega
    simp only [List.getElem_cons_zero, this])

set_option maxRecDepth 100000 in
theorem figure_lo (n : Int) (h0 : 0 ≤ n) (h : n < 10) (w : World) :
    Calls Tryd.prog 33 #[.int .u64 n] w fun e w' => e = .returned (.string ⟨#[UInt8.ofNat (48 + n).toNat]⟩) ∧ Below w.heap.size w w' := by
  have h9 : ¬ (n > 9) := by omega
  have hc := conv1 (48 + n) w.heap.size 1 (w.alloc (.cells #[.int .u8 (48 + n)] 5)) (by omega) (by omega) (by simp)
  go_enter Tryd.func33, Tryd.ntmps33
  go_wp2
  go_ret
  exact ⟨rfl, (Below.refl _ _).alloc (Nat.le_refl _) _⟩
set_option maxRecDepth 100000 in
theorem figure_hi (n : Int) (h0 : 10 ≤ n) (h : n < 16) (w : World) :
    Calls Tryd.prog 33 #[.int .u64 n] w fun e w' => e = .returned (.string ⟨#[UInt8.ofNat (87 + n).toNat]⟩) ∧ Below w.heap.size w w' := by
  have h9 : n > 9 := by omega
  have hc := conv1 (87 + n) w.heap.size 1 (w.alloc (.cells #[.int .u8 (87 + n)] 5)) (by omega) (by omega) (by simp)
  go_enter Tryd.func33, Tryd.ntmps33
  go_wp2
  go_ret
  exact ⟨rfl, (Below.refl _ _).alloc (Nat.le_refl _) _⟩
theorem figure_any (n : Nat) (h : n < 16) (w : World) :
    Calls Tryd.prog 33 #[.int .u64 n] w fun e w' => e = .returned (.string ⟨#[hexd n]⟩) ∧ Below w.heap.size w w' := by
  unfold hexd
  by_cases h9 : n < 10
  · rw [if_pos h9]
    refine (figure_lo n (by omega) (by omega) w).mono fun e w' ⟨he, hb⟩ => ⟨?_, hb⟩
    rw [he, show (48 + (n : Int)).toNat = 48 + n by omega]
  · rw [if_neg h9]
    refine (figure_hi n (by omega) (by omega) w).mono fun e w' ⟨he, hb⟩ => ⟨?_, hb⟩
    rw [he, show (87 + (n : Int)).toNat = 87 + n by omega]

set_option maxRecDepth 100000 in
theorem hex_base (n : Nat) (h : n < 16) (w : World) :
    Calls Tryd.prog 25 #[.int .u64 n] w fun e w' => e = .returned (.string ⟨#[hexd n]⟩) ∧ Below w.heap.size w w' := by
  have h1 : (n : Int) < 16 := by omega
  have HF := Lib.hid (figure_any n h w)
  go_enter Tryd.func25, Tryd.ntmps25
  go_wp2_with fail
  refine HF.out.mono ?_
  rintro _ W ⟨rfl, hb⟩
  have HB := Lib.hid hb
  clear hb
  go_wp2
  go_ret
  exact ⟨rfl, HB.out⟩
/-- The step with its two pieces named. -/
theorem hex_step0 (n : Int) (h0 : 0 ≤ n) (h1 : ¬ n < 16) (h2 : n < 18446744073709551616) (w : World) (s1 s2 : ByteArray) (hs : ¬ 9223372036854775807 < s1.size + s2.size)
    (HI : Hid (∀ w, Calls Tryd.prog 25 #[.int .u64 (n / 16)] w fun e w' => e = .returned (.string s1) ∧ Below w.heap.size w w'))
    (HF : Hid (∀ w, Calls Tryd.prog 33 #[.int .u64 (n % 16)] w fun e w' => e = .returned (.string s2) ∧ Below w.heap.size w w')) :
    Calls Tryd.prog 25 #[.int .u64 n] w fun e w' => e = .returned (.string (s1 ++ s2)) ∧ Below w.heap.size w w' := by
  go_enter Tryd.func25, Tryd.ntmps25
  go_wp2_with fail
  refine (HI.out _).mono ?_
  rintro _ W ⟨rfl, hb⟩
  have HB := Lib.hid hb
  clear hb
  go_wp2_with fail
  refine (HF.out _).mono ?_
  rintro _ W2 ⟨rfl, hb⟩
  have HB2 := Lib.hid (HB.out.trans (hb.mono HB.out.size))
  clear hb HB HI HF
  go_wp2
  go_ret
  exact ⟨rfl, HB2.out⟩

theorem hexDigits_len : ∀ (k n : Nat), n < 16 ^ (k + 1) → (hexDigits n).length ≤ k + 1
  | 0, n, h => by
    rw [hexDigits, dif_pos (by simpa using h)]; simp
  | k + 1, n, h => by
    rw [hexDigits]
    split
    · simp
    · have := hexDigits_len k (n / 16) (by rw [Nat.pow_succ] at h; omega)
      simp; omega

theorem hex_any : ∀ (k n : Nat), n < 16 ^ (k + 1) → k < 16 → ∀ (w : World),
    Calls Tryd.prog 25 #[.int .u64 n] w fun e w' => e = .returned (.string ⟨(hexDigits n).toArray⟩) ∧ Below w.heap.size w w' := by
  intro k
  induction k with
  | zero =>
    intro n h _ w
    have h' : n < 16 := by simpa using h
    rw [hexDigits, dif_pos h']
    exact hex_base n h' w
  | succ k ih =>
    intro n h hk w
    rw [hexDigits]
    by_cases h' : n < 16
    · rw [dif_pos h']
      exact hex_base n h' w
    · rw [dif_neg h']
      have hn : n / 16 < 16 ^ (k + 1) := by rw [Nat.pow_succ] at h; omega
      have hl := hexDigits_len k (n / 16) hn
      have h2 : n < 18446744073709551616 := Nat.lt_of_lt_of_le h (Nat.pow_le_pow_right (by omega) (by omega : k + 1 + 1 ≤ 16))
      refine (hex_step0 n (by omega) (by omega) (by omega) w ⟨(hexDigits (n / 16)).toArray⟩ ⟨#[hexd (n % 16)]⟩ ?_ ?_ ?_).mono ?_
      · simp [ByteArray.size]; omega
      · refine Lib.hid fun w => ?_
        have := ih (n / 16) hn (by omega) w
        rwa [show ((n / 16 : Nat) : Int) = (n : Int) / 16 by omega] at this
      · refine Lib.hid fun w => ?_
        have := figure_any (n % 16) (by omega) w
        rwa [show ((n % 16 : Nat) : Int) = (n : Int) % 16 by omega] at this
      · rintro e w' ⟨he, hb⟩
        refine ⟨?_, hb⟩
        rw [he]
        congr 2

/-- Hex at every uint64. -/
theorem hex_all (n : Nat) (h : n < 18446744073709551616) (w : World) :
    Calls Tryd.prog 25 #[.int .u64 n] w fun e w' => e = .returned (.string ⟨(hexDigits n).toArray⟩) ∧ Below w.heap.size w w' :=
  hex_any 15 n (by simpa using h) (by omega) w

end Go.Proofs.YtmljlebpoonecaaDoor
