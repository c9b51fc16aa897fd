/- Page.Error of package fault and Page of package dormerref07 answer with the same words at every address and every code from 0 to 255, where the tables of math/bits and of the powers of ten are laid. -/
import Derived.Test.YtmljlebpoonecaaDoorFm
import Derived.Test.YtmljlebpoonecaaDoorIt
import Derived.Lib.AppendIntMem
import Derived.Lib.LaidTab
namespace Go.Proofs.YtmljlebpoonecaaDoor
open Go.RowKit

theorem fmt_inner (u : Nat) (h : u < 18446744073709551616) (w : World) (hT : w.cell? ⟨3, 15, none⟩ = some (.int .u8 4)) :
    Calls Tryd.prog 31 #[.int .u64 u, .int .i64 16] w fun e w' => e = .returned (.string ⟨(hexDigits u).toArray⟩) ∧ Below w.heap.size w w' := by
  have HC := Lib.hid (bits16 u h w hT)
  clear hT
  go_enter Tryd.func31, Tryd.ntmps31
  go_wp2_with fail
  refine HC.out.mono ?_
  rintro _ W ⟨rfl, hb⟩
  have HB := Lib.hid hb
  clear hb
  go_wp2
  go_ret
  exact ⟨rfl, HB.out⟩
theorem fmt_uint (u : Nat) (h : u < 18446744073709551616) (w : World) (hT : w.cell? ⟨3, 15, none⟩ = some (.int .u8 4)) :
    Calls Tryd.prog 23 #[.int .u64 u, .int .i64 16] w fun e w' => e = .returned (.string ⟨(hexDigits u).toArray⟩) ∧ Below w.heap.size w w' := by
  have HC := Lib.hid (fmt_inner u h w hT)
  clear hT
  go_enter Tryd.func23, Tryd.ntmps23
  go_wp2_with fail
  refine HC.out.mono ?_
  rintro _ W ⟨rfl, hb⟩
  have HB := Lib.hid hb
  clear hb
  go_wp2
  go_ret
  exact ⟨rfl, HB.out⟩
/-- The tables that a page fault's words are made with. -/
structure Tabs (w : World) : Prop where
  t : w.cell? ⟨3, 15, none⟩ = some (.int .u8 4)
  p : Lib.TabIs Tryd.prog w "internal/strconv.uint64pow10" .u64 Lib.pow10Tab
theorem itoa_any (n : Nat) (h : n < 256) (w : World) (ht : Tabs w) :
    Calls Tryd.prog 24 #[.int .i64 n] w fun e w' => e = .returned (.string ⟨(Lib.decDigits n).toArray⟩) ∧ Below w.heap.size w w' := by
  refine (Tryd.strconv_Itoa n (by omega) (by omega) w ht.p).mono fun e w' ⟨he, k, os, hw⟩ => ⟨?_, ?_⟩
  · rw [he, Lib.itoa_nonneg]
  · rw [hw]; exact Lib.below_grow _ _ (Nat.le_refl _) _ _
theorem Tabs.below {w w' : World} (h : Tabs w) (hb : Below w.heap.size w w') : Tabs w' := by
  refine ⟨(hb.cell (p := ⟨3, 15, none⟩) (World.block_lt_of_cell? _ _ h.t)).trans h.t, ?_⟩
  have hp := h.p
  unfold Lib.TabIs World.var? at *
  cases hg : Tryd.prog.globalNamed "internal/strconv.uint64pow10" with
  | none => simp [hg] at hp
  | some g =>
    simp only [hg, Option.bind_some] at hp ⊢
    have hlt : g < w.heap.size := by
      rcases Nat.lt_or_ge g w.heap.size with h' | h'
      · exact h'
      · rw [Array.getElem?_eq_none h'] at hp; simp at hp
    rw [hb.block g hlt]
    exact hp

/-- A page fault's words, of its two pieces. -/
def pageText (s1 s2 : ByteArray) : ByteArray := ByteArray.mk #[112, 97, 103, 101, 32, 102, 97, 117, 108, 116, 32, 97, 116, 32] ++ s1 ++ ByteArray.mk #[44, 32, 99, 111, 100, 101, 32] ++ s2

set_option maxRecDepth 100000 in
theorem ref_page0 (a c : Nat) (w : World) (s1 s2 : ByteArray) (h1 : s1.size < 1000) (h2 : s2.size < 1000)
    (H1 : Hid (∀ w, Calls Tryd.prog 25 #[.int .u64 a] w fun e w' => e = .returned (.string s1) ∧ Below w.heap.size w w'))
    (H2 : Hid (∀ w, Calls Tryd.prog 26 #[.int .i64 c] w fun e w' => e = .returned (.string s2) ∧ Below w.heap.size w w')) :
    Calls Tryd.prog 17 #[.int .u64 a, .int .i64 c] w fun e w' => e = .returned (.string (pageText s1 s2)) ∧ Below w.heap.size w w' := by
  unfold pageText
  go_enter Tryd.func17, Tryd.ntmps17
  go_wp2_with fail
  refine (H1.out _).mono ?_
  rintro _ W ⟨rfl, hb⟩
  have HB := Lib.hid hb
  clear hb
  go_wp2_with fail
  refine (H2.out _).mono ?_
  rintro _ W2 ⟨rfl, hb⟩
  have HB2 := Lib.hid (HB.out.trans (hb.mono HB.out.size))
  clear hb H1 H2
  go_wp2
  go_ret
  exact ⟨rfl, HB2.out⟩
set_option maxRecDepth 100000 in
set_option maxHeartbeats 1600000 in
theorem page_error0 (a c : Nat) (b : Nat) (w : World) (s1 s2 : ByteArray) (h1 : s1.size < 1000) (h2 : s2.size < 1000)
    (hc0 : w.cell? ⟨b, 0, none⟩ = some (.int .u64 a)) (hc1 : w.cell? ⟨b, 1, none⟩ = some (.int .i64 c))
    (H1 : Hid (∀ w', Below w.heap.size w w' → Calls Tryd.prog 23 #[.int .u64 a, .int .i64 16] w' fun e w'' => e = .returned (.string s1) ∧ Below w'.heap.size w' w''))
    (H2 : Hid (∀ w', Below w.heap.size w w' → Calls Tryd.prog 24 #[.int .i64 c] w' fun e w'' => e = .returned (.string s2) ∧ Below w'.heap.size w' w'')) :
    Calls Tryd.prog 16 #[.pointer (some ⟨b, 0, none⟩)] w fun e w' => e = .returned (.string (pageText s1 s2)) ∧ Below w.heap.size w w' := by
  have hlt : b < w.heap.size := World.block_lt_of_cell? _ _ hc0
  unfold pageText
  go_enter Tryd.func16, Tryd.ntmps16
  go_wp2_with fail
  go_region_with (first
    | (go_at_call 23; refine (H1.out w.drew ((Below.refl _ _).drew)).mono ?_; rintro _ W ⟨rfl, hb⟩; have hx1 : W.cell? ⟨b, 1, none⟩ = some (.int .i64 c) := (hb.cell (p := ⟨b, 1, none⟩) hlt).trans hc1; have HB := Lib.hid ((Below.refl w.heap.size w).drew.trans hb); clear hb)
    | (go_at_call 24; refine (H2.out _ HB.out).mono ?_; rintro _ W2 ⟨rfl, hb⟩; have HB2 := Lib.hid (HB.out.trans (hb.mono HB.out.size)); clear hb))
  all_goals go_wp2
  all_goals go_ret
  all_goals exact ⟨rfl, HB2.out⟩
end Go.Proofs.YtmljlebpoonecaaDoor
