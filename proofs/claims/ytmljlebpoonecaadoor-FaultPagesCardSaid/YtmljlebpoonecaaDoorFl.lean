/- Figures of package dormerref07 answers with the decimal numeral of every number from 0 to 255, in every world; no other condition. -/
import Derived.Test.YtmljlebpoonecaaDoorFk
import Derived.Deep.RegionWith
namespace Go.Proofs.YtmljlebpoonecaaDoor
open Go.RowKit

theorem bcell' {W w1 : World} (hb : Below W.heap.size W w1) : ∀ b o, b < W.heap.size → w1.cell? ⟨b, o, none⟩ = W.cell? ⟨b, o, none⟩ :=
  fun b o h => hb.cell (p := ⟨b, o, none⟩) h

set_option maxRecDepth 100000 in
set_option maxHeartbeats 1600000 in
theorem fig_step0 (n q r d : Int) (h0 : 10 ≤ n) (h : n < 256) (hq : IntKind.i64.wrap (n.tdiv 10) = q) (hr : n.tmod 10 = r) (hd : IntKind.i64.wrap (48 + r) = d) (hd2 : IntKind.u8.wrap d = d) (w : World) (s1 s2 : ByteArray)
    (hc : ∀ w b, w.cell? ⟨b, 0, none⟩ = some (.int .u8 d) → (convert 84 9 (.slice (some ⟨b, 0, none⟩) 1 1)).run Tryd.prog w = .ok (.string s2) w)
    (hl : ¬ 9223372036854775807 < s1.size + s2.size)
    (HI : Hid (∀ w, Calls Tryd.prog 26 #[.int .i64 q] w fun e w' => e = .returned (.string s1) ∧ Below w.heap.size w w')) :
    Calls Tryd.prog 26 #[.int .i64 n] w fun e w' => e = .returned (.string (s1 ++ s2)) ∧ Below w.heap.size w w' := by
  have h9 : ¬ (n < 0) := by omega
  go_enter Tryd.func26, Tryd.ntmps26
  go_wp2_with fail
  go_region_with (first | (go_at_call 26; refine (HI.out _).mono ?_; rintro _ W ⟨rfl, hb⟩; have hcb := bcell' hb; have HB := Lib.hid hb; clear hb))
  all_goals go_wp2
  all_goals go_ret
  · exact ⟨rfl, ((Below.refl _ w).drew.trans HB.out).alloc HB.out.size _⟩
  · exact ⟨rfl, ((Below.refl _ w).alloc (Nat.le_refl _) _).drew.trans (HB.out.mono (by simp))⟩
  · exact ⟨rfl, ((Below.refl _ w).alloc (Nat.le_refl _) _).drew.trans (HB.out.mono (by simp))⟩

set_option maxRecDepth 100000 in
theorem fig_base (n : Int) (h0 : 0 ≤ n) (h : n < 10) (w : World) :
    Calls Tryd.prog 26 #[.int .i64 n] w fun e w' => e = .returned (.string ⟨#[UInt8.ofNat (48 + n).toNat]⟩) ∧ Below w.heap.size w w' := by
  have h9 : ¬ (n < 0) := by omega
  have hc := conv1 (48 + n) w.heap.size 1 (w.alloc (.cells #[.int .u8 (48 + n)] 5)) (by omega) (by omega) (by simp)
  go_enter Tryd.func26, Tryd.ntmps26
  go_wp2
  go_ret
  exact ⟨rfl, (Below.refl _ _).alloc (Nat.le_refl _) _⟩

theorem decDigits_len : ∀ (n : Nat), n < 256 → (Lib.decDigits n).length ≤ 3 := by
  intro n h
  rw [Lib.decDigits]; split; · simp
  rw [Lib.decDigits]; split; · simp
  rw [Lib.decDigits]; split; · simp
  omega

theorem fig_step (n : Nat) (h0 : ¬ n < 10) (h : n < 256) (w : World)
    (ih : ∀ w, Calls Tryd.prog 26 #[.int .i64 ((n / 10 : Nat) : Int)] w fun e w' => e = .returned (.string ⟨(Lib.decDigits (n / 10)).toArray⟩) ∧ Below w.heap.size w w') :
    Calls Tryd.prog 26 #[.int .i64 n] w fun e w' => e = .returned (.string ⟨(Lib.decDigits n).toArray⟩) ∧ Below w.heap.size w w' := by
  have hl := decDigits_len (n / 10) (by omega)
  have e1 : ((n : Int).tdiv 10) = ((n / 10 : Nat) : Int) := by rw [Int.tdiv_eq_ediv_of_nonneg (by omega)]; omega
  have e2 : ((n : Int).tmod 10) = ((n % 10 : Nat) : Int) := by rw [Int.tmod_eq_emod_of_nonneg (by omega)]; omega
  refine (fig_step0 n ((n / 10 : Nat) : Int) ((n % 10 : Nat) : Int) ((48 + n % 10 : Nat) : Int) (by omega) (by omega) ?_ e2 ?_ ?_ w ⟨(Lib.decDigits (n / 10)).toArray⟩ ⟨#[UInt8.ofNat (48 + n % 10)]⟩ ?_ ?_ (Lib.hid ih)).mono ?_
  · rw [e1]; simp only [IntKind.wrap, IntKind.signed, IntKind.bits]; simp; omega
  · simp only [IntKind.wrap, IntKind.signed, IntKind.bits]; simp; omega
  · simp only [IntKind.wrap, IntKind.signed, IntKind.bits]; simp; omega
  · intro w b hx
    exact conv1 ((48 + n % 10 : Nat) : Int) b 1 w (by omega) (by omega) hx
  · simp [ByteArray.size]; omega
  · rintro e w' ⟨he, hb⟩
    refine ⟨?_, hb⟩
    rw [he, Lib.decDigits.eq_1 n, dif_neg h0]
    congr 2

/-- Figures from 0 to 255. -/
theorem fig_any (n : Nat) (h : n < 256) (w : World) :
    Calls Tryd.prog 26 #[.int .i64 n] w fun e w' => e = .returned (.string ⟨(Lib.decDigits n).toArray⟩) ∧ Below w.heap.size w w' := by
  have base : ∀ n : Nat, n < 10 → ∀ w, Calls Tryd.prog 26 #[.int .i64 n] w fun e w' => e = .returned (.string ⟨(Lib.decDigits n).toArray⟩) ∧ Below w.heap.size w w' := by
    intro n h w
    refine (fig_base n (by omega) (by omega) w).mono fun e w' ⟨he, hb⟩ => ⟨?_, hb⟩
    rw [he, Lib.decDigits_one h, show (48 + (n : Int)).toNat = 48 + n by omega]
  by_cases h1 : n < 10
  · exact base n h1 w
  · refine fig_step n h1 h w fun w => ?_
    by_cases h2 : n / 10 < 10
    · exact base _ h2 w
    · exact fig_step _ h2 (by omega) w fun w => base _ (by omega) w
end Go.Proofs.YtmljlebpoonecaaDoor
