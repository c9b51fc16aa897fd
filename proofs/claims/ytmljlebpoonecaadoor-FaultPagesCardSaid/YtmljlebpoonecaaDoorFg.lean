/- What fault.Kind answers at a page fault with words ahead of it; the one condition is that errors.errorType is laid. -/
import Derived.Test.YtmljlebpoonecaaDoorFf
namespace Go.Proofs.YtmljlebpoonecaaDoor
open Go.RowKit Go.Extern.Stop Go.Stop Go.Extern

/-- fault.Kind of a page fault with words ahead. -/
theorem kind_ahead_page (b : Nat) (p : Value) (w : World) (hg : Laid w) (h : w.cell? ⟨b, 1, none⟩ = some (.iface 44 p)) :
    Calls Tryd.prog 13 #[.iface 53 (.pointer (some ⟨b, 0, none⟩))] w fun e w' => e = .returned (.int .i64 4) ∧ Below w.heap.size w w' :=
  kind_hit _ _ 4 w hg fun x a t old W hW ha ht hf => as_ahead_pageE b p x a t old W ((hW.cell (p := ⟨b, 1, none⟩) (World.block_lt_of_cell? _ _ h)).trans h) ha ht hf
/-- fault.Kind of a number with words ahead. -/
theorem kind_ahead_errno (b : Nat) (n : Int) (w : World) (hg : Laid w) (h : w.cell? ⟨b, 1, none⟩ = some (.iface 24 (.int .i64 n))) :
    Calls Tryd.prog 13 #[.iface 53 (.pointer (some ⟨b, 0, none⟩))] w fun e w' => e = .returned (.int .i64 n) ∧ Below w.heap.size w w' :=
  kind_hit _ _ n w hg fun x a t old W hW ha ht hf => as_ahead_errnoE b n x a t old W ((hW.cell (p := ⟨b, 1, none⟩) (World.block_lt_of_cell? _ _ h)).trans h) ha ht hf
theorem kind_errno (n : Int) (w : World) (hg : Laid w) :
    Calls Tryd.prog 13 #[.iface 24 (.int .i64 n)] w fun e w' => e = .returned (.int .i64 n) ∧ Below w.heap.size w w' :=
  kind_hit _ _ n w hg fun x a t old W _ ha ht hf => as_errnoE n x a t old W ha ht hf
theorem kind_str (v : Value) (w : World) (hg : Laid w) :
    Calls Tryd.prog 13 #[.iface 46 v] w fun e w' => e = .returned (.int .i64 1) ∧ Below w.heap.size w w' :=
  kind_miss _ _ w hg fun x a W _ => as_strE v x a W
theorem kind_ahead_str (b : Nat) (v : Value) (w : World) (hg : Laid w) (h : w.cell? ⟨b, 1, none⟩ = some (.iface 46 v)) :
    Calls Tryd.prog 13 #[.iface 53 (.pointer (some ⟨b, 0, none⟩))] w fun e w' => e = .returned (.int .i64 1) ∧ Below w.heap.size w w' :=
  kind_miss _ _ w hg fun x a W hW => as_ahead_strE b v x a W ((hW.cell (p := ⟨b, 1, none⟩) (World.block_lt_of_cell? _ _ h)).trans h)

set_option maxHeartbeats 1000000 in
/-- The law's own look: a fault in an error. -/
theorem awake (w : World) (hg : Laid w) : Calls Tryd.prog 7 #[] w fun e w' => e = .returned (.bool true) ∧ Below w.heap.size w w' := by
  obtain ⟨W0, hW0⟩ : ∃ W0, W0 = (w.alloc (.cells #[.int .u64 4096, .int .i64 2] 32)).alloc (.cells #[.string ⟨#[115, 116, 111, 114, 101]⟩, .iface 44 (.pointer (some ⟨w.heap.size, 0, none⟩))] 55) := ⟨_, rfl⟩
  have B0 : Below w.heap.size w W0 := by rw [hW0]; exact ((Below.refl _ _).alloc (Nat.le_refl _) _).alloc (by simp) _
  have s0 : W0.heap.size = w.heap.size + 2 := by rw [hW0]; simp
  have c0 : W0.cell? ⟨w.heap.size, 0, none⟩ = some (.int .u64 4096) := by rw [hW0]; simp [go_sem]
  have c1 : W0.cell? ⟨w.heap.size, 1, none⟩ = some (.int .i64 2) := by rw [hW0]; simp [go_sem]
  have c2 : W0.cell? ⟨w.heap.size + 1, 1, none⟩ = some (.iface 44 (.pointer (some ⟨w.heap.size, 0, none⟩))) := by rw [hW0]; simp [go_sem]
  have L0 := hg.below B0
  have kc2 : ∀ W, Below W0.heap.size W0 W → W.cell? ⟨w.heap.size + 1, 1, none⟩ = some (.iface 44 (.pointer (some ⟨w.heap.size, 0, none⟩))) := fun W h => (h.cell (p := ⟨w.heap.size + 1, 1, none⟩) (World.block_lt_of_cell? _ _ c2)).trans c2
  have H1 := Lib.hid (of_hit 53 (.pointer (some ⟨w.heap.size + 1, 0, none⟩)) w.heap.size 4096 2 W0 L0 c0 c1 (fun W h => is_ahead_page _ _ W (kc2 W h)) (fun x a t old W h ha ht hf => as_ahead_pageP _ _ x a t old W (kc2 W h) ha ht hf))
  have KC := Lib.hid kc2
  have HB0 := Lib.hid B0
  have HL0 := Lib.hid L0
  clear B0 L0 kc2 c0 c1 c2 hg
  go_enter Tryd.func7, Tryd.ntmps7
  go_wp2_with (first | (go_at_call 11; refine (at_any _ _ _).mono ?_; rintro e w' ⟨rfl, rfl⟩) | (go_at_call 10; refine (wrap_any _ _ _ _).mono ?_; rintro e w' ⟨rfl, rfl⟩))
  rw [← hW0]
  clear hW0
  refine H1.out.mono ?_
  rintro _ W1 ⟨rfl, hb1⟩
  have HB1 := Lib.hid hb1
  clear hb1 H1
  go_wp2_with fail
  have HB2 : Hid (Below W0.heap.size W0 (W1.alloc (.cells #[.int .u64 4096, .int .i64 2] 32))) := HB1.out.alloc HB1.out.size _
  refine (kind_ahead_page (w.heap.size + 1) _ _ (HL0.out.below HB2.out) (KC.out _ HB2.out)).mono ?_
  rintro _ W3 ⟨rfl, hb3⟩
  have HB3 := Lib.hid (HB2.out.trans (hb3.mono HB2.out.size))
  clear hb3 HB1 HB2
  go_wp2_with fail
  refine (Is_at _ _ 4 (.bool true) _ (is_ahead_page _ _ _ (KC.out _ HB3.out))).mono ?_
  rintro _ _ ⟨rfl, rfl⟩
  go_wp2_with fail
  refine (kind_nil _).mono ?_
  rintro _ W4 ⟨rfl, hb4⟩
  have HB4 := Lib.hid (HB3.out.trans (hb4.mono HB3.out.size))
  clear hb4 HB3
  go_wp2_with fail
  refine (gp_any _ _).mono ?_
  rintro _ _ ⟨rfl, rfl⟩
  go_wp2_with fail
  refine (kind_ahead_errno W4.heap.size 5 _ ((HL0.out.below HB4.out).below ((Below.refl _ _).alloc (Nat.le_refl _) _)) (by simp)).mono ?_
  rintro _ W5 ⟨rfl, hb5⟩
  have HB5 := Lib.hid ((HB4.out.alloc HB4.out.size _).trans (hb5.mono (by have := HB4.out.size; simp; omega)))
  clear hb5 HB4
  go_wp2
  go_ret
  exact ⟨rfl, HB0.out.trans (HB5.out.mono HB0.out.size)⟩
end Go.Proofs.YtmljlebpoonecaaDoor
